import Derived.Test.YthjfindbamdacaaGreatDoorAuditFewerFy
open Nat renaming beq->bT,blt->bJ,ble->gT
open BitVec renaming ofInt->dW
open List renaming range->dD
set_option linter.all false
namespace Go.GD
open Go
def cr(b:Bool)(p:Prop):Prop:=match b with|true=>p|false=>False
def DT(b:Bool)(p q:Prop):Prop:=match b with|true=>p|false=>q
theorem db{b:Bool}{p:Prop}:cr b p↔b=true/\p:=by cases b<;>simp[cr]
theorem Zfx{b:Bool}{p q:Prop}:DT b p q↔(b=true->p)/\(b=false->q):=by cases b<;>simp[DT]
abbrev Rows:=List (Option Row)
namespace D
def F8(n:Nat):D->Bool|.sl m _ _=>bT m n|.dx=>true|.emp=>true|_=>false
def toEs:D->ao|.sl _ es _=>es|_=>.gen []
def wg:D->Bool|.agg _=>false|.du _=>false|.dead=>false|_=>true
def isVal:D->Bool|.du _=>false|.dead=>false|_=>true
def H2:D->Bool|.agg _=>false|.du _=>false|_=>true
def plain:D->Bool|.bool _=>true|.int _ _=>true|.str _=>true|.iN=>true|.dx=>true|.emp=>true|.sl _ _ _=>true|_=>false
def cells:D->List D|.agg cs=>cs|d=>[d]
def force:D->(D->Prop)->Prop
 |.bool b,K=>K (.bool b)
 |.int k n,K=>K (.int k n)
 |.str s,K=>K (.str s)
 |.sl a b c,K=>K (.sl a b c)
 |.all a,K=>K (.all a)
 |.own a b c,K=>K (.own a b c)
 |.ptr a b c,K=>K (.ptr a b c)
 |.pa a b c d e f,K=>K (.pa a b c d e f)
 |.iv a b c d,K=>K (.iv a b c d)
 |.iN,K=>K .iN
 |.dx,K=>K .dx
 |.emp,K=>K .emp
 |.rk es,K=>K (.rk es)
 |.dead,K=>K .dead
 |.gn a b,K=>K (.gn a b)
 |.c9 a,K=>K (.c9 a)
 |.jL,K=>K .jL
 |.agg a,K=>K (.agg a)
 |.du a,K=>K (.du a)
end D
def D.jY:List D->(List D->Prop)->Prop
 |[],K=>K []
 |d::l,K=>d.force λd=>jY l λl=>K (d::l)
def tW:Rows->(Rows->Prop)->Prop
 |[],K=>K []
 |d::l,K=>tW l λl=>K (d::l)
inductive rp where
 |int (k:IntKind)|bool|str|sl (n:Nat)|other
inductive TK where
 |int (k:IntKind)|bool|string
 |slice (e:TypeId) (n:Nat)
 |struct (fs:List (Nat×TypeId×Nat))
 |array (len:Nat) (e:TypeId) (n:Nat)
 |other
structure TI where
 kind:TK
 size:Nat
 bytes:Nat
 tf:List rp
 zero:Option (List D)
 eq:Bool
abbrev fq:=List (TypeId×TI)
def fq.get:fq->TypeId->Option TI
 |[],_=>none
 |(u,i)::l,t=>match bT u t with|true=>some i|false=>fq.get l t
def TK.isAgg:TK->Bool|.struct _=>true|.array _ _ _=>true|_=>false
def uT(pl:Bool):rp->D->(D->Prop)->Prop
 |.int k,c,K=>cr (c.isInt k) (K (.int k c.toInt))
 |.bool,c,K=>cr c.isBool (K (.bool c.toBool))
 |.str,c,K=>cr c.isStr (K (.str c.toStr))
 |.sl n,c,K=>match pl with
  |true=>cr (c.F8 n) (K (.sl n c.toEs false))
  |false=>cr c.wg (c.force K)
 |.other,c,K=>match pl with
  |true=>match c with|.iN=>K .iN|_=>False
  |false=>cr c.wg (c.force K)
def JX(pl:Bool)(e:List D):List rp->Nat->(List D->Prop)->Prop
 |[],_,K=>K []
 |t::ts,off,K=>uT pl t (e.getD off .dead) λd=>JX pl e ts (off+1) λds=>K (d::ds)
def uU(pl:Bool)(t:TI)(e:List D)(off:Nat)(K:D->Prop):Prop:=
 match t.kind.isAgg with
 |true=>JX pl e t.tf off λds=>K (.agg ds)
 |false=>match t.tf with
  |[y]=>uT pl y (e.getD off .dead) K
  |_=>False
def lB:List D->Nat->List D->List D
 |e,_,[]=>e
 |e,off,v::vs=>lB (e.set off v) (off+1) vs
def QS:Value->Option D
 |.bool b=>some (.bool b)
 |.int k n=>some (.int k n)
 |.string s=>some (.str s.data.toList)
 |.slice none 0 0=>some .dx
 |.pointer none=>some .iN
 |.nilIface=>some .jL
 |.nilFunc=>some .dead
 |_=>none
def BD:List Value->Option (List D)
 |[]=>some []
 |v::vs=>match QS v,BD vs with|some d,some ds=>some (d::ds)|_,_=>none
def Gt:Value->Option D
 |.agg cs=>(BD cs.toList).map .agg
 |v=>QS v
structure St where
 env:List (Nat×D)
 rows:Rows
def look:List (Nat×D)->Nat->D
 |[],_=>.dead
 |(u,d)::l,t=>match bT u t with|true=>d|false=>look l t
def bz(env:List (Nat×D)):Operand->D
 |.tmp t=>look env t
 |.const v=>(Gt v).getD .dead
 |.func f=>match bJ f YB with|true=>.gn f []|false=>.dead
 |_=>.dead
def bg(k:IntKind)(x y:Int):Int:=k.wrap (dW k.bits x&&&dW k.bits y).toNat
def ir(k:IntKind)(x y:Int):Int:=k.wrap (dW k.bits x|||dW k.bits y).toNat
def nu(k:IntKind)(x y:Int):Int:=k.wrap (dW k.bits x^^^dW k.bits y).toNat
def nY(k:IntKind)(x y:Int):Int:=k.wrap (dW k.bits x&&&~~~dW k.bits y).toNat
def eh(k:IntKind)(x y:Int):Int:=k.wrap (x*2^(min y.toNat k.bits))
def bh(k:IntKind)(x y:Int):Int:=x.fdiv (2^(min y.toNat k.bits))
def Vi(op:BinOp)(k:IntKind)(x y:Int)(K:D->Prop):Prop:=
 match op with
 |.add=>K (.int k (k.wrap (x+y)))
 |.sub=>K (.int k (k.wrap (x-y)))
 |.mul=>K (.int k (k.wrap (x*y)))
 |.quo=>cr (decide (y≠0)) (K (.int k (k.wrap (x.tdiv y))))
 |.rem=>cr (decide (y≠0)) (K (.int k (x.tmod y)))
 |.and=>K (.int k (bg k x y))
 |.or=>K (.int k (ir k x y))
 |.xor=>K (.int k (nu k x y))
 |.andNot=>K (.int k (nY k x y))
 |.eql=>K (.bool (x==y))
 |.neq=>K (.bool (x !=y))
 |.lss=>K (.bool (decide (x<y)))
 |.leq=>K (.bool (decide (x<=y)))
 |.gtr=>K (.bool (decide (x>y)))
 |.geq=>K (.bool (decide (x>=y)))
 |_=>False
def Vn:D->D->Bool
 |.int _ a,.int _ b=>a==b
 |.bool a,.bool b=>a==b
 |.str a,.str b=>decide (a=b)
 |_,_=>false
def eqs:List D->List D->Bool
 |[],_=>true
 |a::l,b::m=>Vn a b&&eqs l m
 |_::_,[]=>false
def fits:List rp->List D->Bool
 |[],[]=>true
 |.int k::t,d::l=>d.isInt k&&fits t l
 |.bool::t,d::l=>d.isBool&&fits t l
 |.str::t,d::l=>d.isStr&&fits t l
 |_,_=>false
def tg(T:fq)(op:BinOp)(t:TypeId)(x y:D)(K:D->Prop):Prop:=
 match x,y with
 |.int k a,.int k' b=>
  match op with
  |.shl=>cr (decide (0<=b)) (K (.int k (eh k a b)))
  |.shr=>cr (decide (0<=b)) (K (.int k (bh k a b)))
  |op=>cr (decide (k=k')) (Vi op k a b K)
 |.str a,.str b=>
  match op with
  |.add=>cr (decide (a.length+b.length<=maxLen)) (K (.str (a++b)))
  |.eql=>K (.bool (decide (a=b)))
  |.neq=>K (.bool (!decide (a=b)))
  |_=>False
 |.bool a,.bool b=>
  match T.get t with
  |some ⟨.bool,_,_,_,_,_⟩=>match op with
   |.eql=>K (.bool (a==b))
   |.neq=>K (.bool (!(a==b)))
   |_=>False
  |_=>False
 |.agg a,.agg b=>
  match T.get t with
  |some ti=>cr (ti.kind.isAgg&&bJ 0 ti.size&&ti.eq&&fits ti.tf a&&fits ti.tf b)<|
   match op with
   |.eql=>K (.bool (eqs a b))
   |.neq=>K (.bool (!(eqs a b)))
   |_=>False
  |none=>False
 |_,_=>False
def MP(T:fq)(s d:TypeId)(x:D)(K:D->Prop):Prop:=
 match T.get s,T.get d with
 |some ⟨.int _,_,_,_,_,_⟩,some ⟨.int k,_,_,_,_,_⟩=>match x with
  |.int _ n=>K (.int k (k.wrap n))
  |_=>False
 |some ⟨.string,_,_,_,_,_⟩,some ⟨.string,_,_,_,_,_⟩=>match x with
  |.str s=>K (.str s)
  |_=>False
 |_,_=>False
def QP(T:fq)(s:TypeId)(f:Nat):Option (Nat×TypeId×Nat):=
 match T.get s with
 |some ⟨.struct fs,_,_,_,_,_⟩=>fs[f]?
 |_=>none
def Gd(place:Nat->Option (Nat×Nat))(ev:Operand->D):List (Nat×Operand)->List D->(List D->Prop)->Prop
 |[],cs,K=>D.jY cs K
 |(i,x)::ps,cs,K=>match place i with
  |some (off,n)=>cr ((ev x).isVal&&bT (ev x).cells.length n&&gT (off+n) cs.length) (Gd place ev ps (lB cs off (ev x).cells) K)
  |none=>False
def D.QX:D->D|.sl a b _=>.sl a b false|d=>d
def HW:List D->List D
 |[]=>[]
 |d::l=>d.QX::HW l
def HX(n len:Nat)(ev:Operand->D):List (Nat×Operand)->List (List D)->(List (List D)->Prop)->Prop
 |[],es,K=>K es
 |(i,x)::ps,es,K=>cr (((ev x).isVal&&(HW (ev x).cells).all D.plain)&&bT (HW (ev x).cells).length n&&bJ i len) (HX n len ev ps (es.set i (HW (ev x).cells)) K)
def Ab(row:Row):Rows->Nat->(Nat->Rows->Prop)->Prop
 |[],n,K=>K n [some row]
 |x::l,n,K=>Ab row l (n+1) λk l=>K k (x::l)
def Be(R:Rows)(row:Row)(K:Nat->Rows->Prop):Prop:=Ab row R 0 K
def ints(e:List D)(off:Nat):Nat->List Int
 |0=>[]
 |n+1=>(e.getD off .dead).toInt::ints e (off+1) n
def bu(e:List D)(off:Nat):Nat->List Bool
 |0=>[]
 |n+1=>(e.getD off .dead).toBool::bu e (off+1) n
def Dc(k:IntKind)(e:List D)(off:Nat):Nat->Bool
 |0=>true
 |n+1=>(e.getD off .dead).isInt k&&Dc k e (off+1) n
def HN(e:List D)(off:Nat):Nat->Bool
 |0=>true
 |n+1=>(e.getD off .dead).isBool&&HN e (off+1) n
def HT(k:IntKind)(l:List Int)(j:Nat):Nat->List D
 |0=>[]
 |n+1=>.int k (l.getD j 0)::HT k l (j+1) n
def HU(l:List Bool)(j:Nat):Nat->List D
 |0=>[]
 |n+1=>.bool (l.getD j false)::HU l (j+1) n
def Ac(T:fq)(t:TypeId)(x:D)(R:Rows)(K:D->Rows->Prop):Prop:=
 match T.get t with
 |none=>False
 |some ti=>match x with
  |.ptr r i off=>match R.getD r none with
   |some ⟨box,_,sz,es⟩=>cr (gT (off+ti.size) sz) (uU (!box) ti (es.get i) off λd=>K d R)
   |none=>False
  |.pa r i off len k n=>match R.getD r none with
   |some ⟨_,_,sz,es⟩=>cr (gT (off+len) sz)<|match ti.kind,k with
    |.int j,some k=>cr (decide (j=k)&&Dc k (es.get i) off len) (K (.int k ((ints (es.get i) off len).getD n 0)) R)
    |.bool,none=>cr (HN (es.get i) off len) (K (.bool ((bu (es.get i) off len).getD n false)) R)
    |_,_=>False
   |none=>False
  |.iv sz es i off=>cr (gT (off+ti.size) sz) (uU true ti (es.get i) off λd=>K d R)
  |_=>False
def HV(T:fq)(t:TypeId)(x d:D)(R:Rows)(K:D->Rows->Prop):Prop:=
 match T.get t with
 |none=>False
 |some ti=>match x with
  |.ptr r i off=>match R.getD r none with
   |some ⟨box,ty,sz,es⟩=>cr (bJ 0 ti.size&&d.isVal&&bT d.cells.length ti.size&&gT (off+ti.size) sz)<|match box with
    |true=>D.jY (lB (es.get i) off d.cells) λe=>tW (R.set r (some ⟨true,ty,sz,.gen [e]⟩)) λR=>K .dead R
    |false=>cr (d.cells.all D.plain) (tW (R.set r (some ⟨false,ty,sz,es.set i (lB (es.get i) off d.cells)⟩)) λR=>K .dead R)
   |none=>False
  |.pa r i off len k n=>match R.getD r none with
   |some ⟨box,ty,sz,es⟩=>cr (box&&gT (off+len) sz)<|match ti.kind,k,d with
    |.int j,some k,.int k' v=>cr (decide (j=k)&&decide (k'=k)&&Dc k (es.get i) off len)<|
     D.jY (lB (es.get i) off (HT k ((ints (es.get i) off len).set n v) 0 len)) λe=>tW (R.set r (some ⟨true,ty,sz,.gen [e]⟩)) λR=>K .dead R
    |.bool,none,.bool v=>cr (HN (es.get i) off len)<|
     D.jY (lB (es.get i) off (HU ((bu (es.get i) off len).set n v) 0 len)) λe=>tW (R.set r (some ⟨true,ty,sz,.gen [e]⟩)) λR=>K .dead R
    |_,_,_=>False
   |none=>False
  |_=>False
def Vk(T:fq)(t:TypeId)(x:D)(Vj:Bool)(n:Int)(R:Rows)(K:D->Rows->Prop):Prop:=
 match T.get t with
 |some ⟨.slice _ iO,_,_,_,_,_⟩=>match x with
  |.sl sz es _=>cr (bT sz iO&&bJ 0 iO&&decide (0<=n/\n<es.len)) (K (.iv sz es n.toNat 0) R)
  |.own r o m=>match R.getD r none with
   |some ⟨_,_,sz,_⟩=>cr (bT sz iO&&bJ 0 iO&&decide (0<=n/\n<m)) (K (.ptr r (o+n.toNat) 0) R)
   |none=>False
  |.all r=>match R.getD r none with
   |some ⟨_,_,sz,es⟩=>cr (bT sz iO&&bJ 0 iO&&decide (0<=n/\n<es.len)) (K (.ptr r n.toNat 0) R)
   |none=>False
  |_=>False
 |some ⟨.array len e iO,_,_,_,_,_⟩=>cr (bJ 0 iO&&decide (0<=n/\n<len))<|match x with
  |.ptr r i off=>match Vj with
   |true=>K (.ptr r i (off+n.toNat*iO)) R
   |false=>match T.get e with
    |some ⟨.int k,_,_,_,_,_⟩=>cr (bT iO 1) (K (.pa r i off len (some k) n.toNat) R)
    |some ⟨.bool,_,_,_,_,_⟩=>cr (bT iO 1) (K (.pa r i off len none n.toNat) R)
    |_=>K (.ptr r i (off+n.toNat*iO)) R
  |.iv sz es i off=>K (.iv sz es i (off+n.toNat*iO)) R
  |_=>False
 |_=>False
def sg(x:Option Operand)(ev:Operand->D)(n:Int):Option Int:=match x with|none=>some n|some y=>match ev y with|.int _ m=>some m|_=>none
def MQ(T:fq)(t:TypeId)(x:D)(lo hi:Option Operand)(ev:Operand->D)(R:Rows)(K:D->Rows->Prop):Prop:=
 match T.get t with
 |some ⟨.string,_,_,_,_,_⟩=>match x with
  |.str s=>match sg lo ev 0,sg hi ev s.length with
   |some l,some h=>cr (decide (0<=l/\l<=h/\h<=s.length)) (K (.str ((s.drop l.toNat).take (h.toNat-l.toNat))) R)
   |_,_=>False
  |_=>False
 |some ⟨.slice _ iO,_,_,_,_,_⟩=>match x with
  |.sl sz es fr=>match sg lo ev 0,sg hi ev es.len with
   |some l,some h=>cr (bT sz iO&&bJ 0 iO&&decide (0<=l/\l<=h/\h<=es.len)) (K (.sl sz ((es.drop l.toNat).take (h.toNat-l.toNat)) fr) R)
   |_,_=>False
  |.all r=>match R.getD r none with
   |some ⟨_,_,sz,es⟩=>match sg lo ev 0,sg hi ev es.len with
    |some l,some h=>cr (bT sz iO&&bJ 0 iO&&decide (0<=l/\l<=h/\h<=es.len)) (K (.own r l.toNat (h.toNat-l.toNat)) R)
    |_,_=>False
   |none=>False
  |.own r o n=>match R.getD r none with
   |some ⟨_,_,sz,_⟩=>match sg lo ev 0,sg hi ev n with
    |some l,some h=>cr (bT sz iO&&bJ 0 iO&&decide (0<=l/\l<=h/\h<=n)) (K (.own r (o+l.toNat) (h.toNat-l.toNat)) R)
    |_,_=>False
   |none=>False
  |_=>False
 |some ⟨.array len e iO,_,_,_,_,_⟩=>match x,lo,hi with
  |.iv sz es i off,none,none=>match T.get e with
   |some ⟨.int k,_,_,_,_,_⟩=>cr (bT iO 1&&(gT (off+len) sz&&Dc k (es.get i) off len)) (K (.sl 1 (.ints k (ints (es.get i) off len)) false) R)
   |_=>False
  |_,_,_=>False
 |_=>False
def uW(T:fq)(t:TypeId)(n m:Int)(R:Rows)(K:D->Rows->Prop):Prop:=
 match T.get t with
 |some ⟨.slice e _,_,_,_,_,_⟩=>match T.get e with
  |some ⟨_,sz,lX,_,some z,_⟩=>cr (bJ 0 sz&&bT z.length sz&&z.all D.plain&&decide (0<=n/\n<=m/\m<=9223372036854775807/\(lX:Int)*m<=140737488355328))
   (Be R ⟨false,e,sz,ao.Ge e n.toNat z⟩ λk R=>K (.all k) R)
  |_=>False
 |_=>False
def tp(T:fq)(t:TypeId)(x:D)(R:Rows)(K:D->Rows->Prop):Prop:=
 match T.get t with
 |some ⟨.string,_,_,_,_,_⟩=>match x with
  |.str s=>K (.int .i64 s.length) R
  |_=>False
 |some ⟨.slice _ _,_,_,_,_,_⟩=>match x with
  |.sl _ es _=>K (.int .i64 es.len) R
  |.own _ _ n=>K (.int .i64 n) R
  |.all r=>match R.getD r none with
   |some ⟨_,_,_,es⟩=>K (.int .i64 es.len) R
   |none=>False
  |.dx=>K (.int .i64 0) R
  |.emp=>K (.int .i64 0) R
  |_=>False
 |_=>False
def MR(T:fq)(t:TypeId)(parts:List (Nat×Operand))(ev:Operand->D)(R:Rows)(K:D->Rows->Prop):Prop:=
 match T.get t with
 |some ⟨.struct fs,_,_,_,some ds,_⟩=>cr (fs.all λf=>bJ 0 f.2.2)<|Gd (λi=>(fs[i]?).map λf=>(f.1,f.2.2)) ev parts ds λcs=>K (.agg cs) R
 |some ⟨.array _ _ iO,_,_,_,some ds,_⟩=>cr (bJ 0 iO)<|Gd (λi=>some (i*iO,iO)) ev parts ds λcs=>K (.agg cs) R
 |_=>False
def MS(T:fq)(t:TypeId)(len:Nat)(parts:List (Nat×Operand))(ev:Operand->D)(R:Rows)(K:D->Rows->Prop):Prop:=
 match T.get t with
 |some ⟨.slice e _,_,_,_,_,_⟩=>match T.get e with
  |some ⟨_,sz,_,_,some z,_⟩=>cr (bJ 0 sz&&bT z.length sz&&gT (len*sz) 16777216&&z.all D.plain)<|
   HX sz len ev parts (List.replicate len z) λes=>match len with|0=>K .emp R|_+1=>K (.sl sz (ao.ofT e es) true) R
  |_=>False
 |_=>False
def HO:iw->Option (Nat×Nat×Nat)|.ptr r i off=>some (r,i,off)|_=>none
def QI:List iw->Option (List (Nat×Nat×Nat))
 |[]=>some []
 |x::l=>match HO x,QI l with|some p,some ps=>some (p::ps)|_,_=>none
def De:D->Option iw
 |.ptr r i off=>some (.ptr r i off)
 |.int k n=>some (.int k n)
 |.all r=>some (.arr r)
 |.sl a b fr=>some (.sl a b fr)
 |.gn f cs=>match QI cs with|some ps=>some (.fn f ps)|none=>none
 |_=>none
def KV:List D->Option (List iw)
 |[]=>some []
 |d::l=>match De d,KV l with|some x,some xs=>some (x::xs)|_,_=>none
def ie(T:fq)(o:Op)(ev:Operand->D)(R:Rows)(K:D->Rows->Prop):Prop:=
 match o with
 |.move x|.assign x=>(ev x).force λd=>K d R
 |.alloc t=>match T.get t with
  |some ⟨_,sz,_,_,some ds,_⟩=>cr (bJ 0 sz&&bT ds.length sz) (Be R ⟨true,t,sz,.gen [ds]⟩ λk R=>K (.ptr k 0 0) R)
  |_=>False
 |.box t x=>match T.get t with
  |some ⟨_,sz,_,_,_,_⟩=>cr (bJ 0 sz&&(ev x).isVal&&bT (ev x).cells.length sz) (D.jY (ev x).cells λcs=>Be R ⟨true,t,sz,.gen [cs]⟩ λk R=>K (.ptr k 0 0) R)
  |none=>False
 |.build t parts=>MR T t parts.toList ev R K
 |.buildSlice t len parts=>MS T t len parts.toList ev R K
 |.load t a=>Ac T t (ev a) R K
 |.store t a x=>HV T t (ev a) (ev x) R K
 |.nilCheck x=>match ev x with
  |.ptr a b c=>K (.ptr a b c) R
  |.iv a b c d=>K (.iv a b c d) R
  |_=>False
 |.binOp op t x y _=>tg T op t (ev x) (ev y) λd=>K d R
 |.unOp op _ x=>match op,ev x with
  |.neg,.int k n=>K (.int k (k.wrap (0-n))) R
  |.xor,.int k n=>K (.int k (nu k (if k.signed then-1 else k.max) n)) R
  |.not,.bool b=>K (.bool (!b)) R
  |_,_=>False
 |.convert s d x=>MP T s d (ev x) λv=>K v R
 |.fieldAddr s x f=>match QP T s f with
  |some (o,_,n)=>cr (bJ 0 n)<|match ev x with
   |.ptr r i off=>K (.ptr r i (off+o)) R
   |.iv sz es i off=>K (.iv sz es i (off+o)) R
   |_=>False
  |none=>False
 |.field s x f=>match QP T s f with
  |some (o,t,n)=>match ev x,T.get t with
   |.agg cs,some ti=>cr (bJ 0 n&&gT (o+n) cs.length)<|match ti.kind.isAgg with
    |true=>D.jY ((cs.drop o).take n) λl=>K (.agg l) R
    |false=>cr (cs.getD o .dead).wg ((cs.getD o .dead).force λd=>K d R)
   |_,_=>False
  |none=>False
 |.indexAddr t x ix=>match ev ix with
  |.int _ n=>Vk T t (ev x) (match ix with|.const _=>true|_=>false) n R K
  |_=>False
 |.index t x ix=>match T.get t,ev x,ev ix with
  |some ⟨.string,_,_,_,_,_⟩,.str s,.int _ n=>cr (decide (0<=n/\n<s.length)) (K (.int .u8 ((s.getD n.toNat 0).toNat:Int)) R)
  |some ⟨.array len e iO,_,_,_,_,_⟩,.agg cs,.int _ n=>cr (bT iO 1&&(bT cs.length len&&decide (0<=n/\n<len)))<|match T.get e with
   |some ⟨.int k,_,_,_,_,_⟩=>cr (Dc k cs 0 len) (K (.int k ((ints cs 0 len).getD n.toNat 0)) R)
   |some ⟨.bool,_,_,_,_,_⟩=>cr (HN cs 0 len) (K (.bool ((bu cs 0 len).getD n.toNat false)) R)
   |_=>False
  |_,_,_=>False
 |.extract x i=>match ev x with
  |.du ds=>cr (ds.getD i .dead).isVal ((ds.getD i .dead).force λd=>K d R)
  |_=>False
 |.slice t x lo hi none=>MQ T t (ev x) lo hi ev R K
 |.makeSlice t l c=>match ev l,ev c with
  |.int _ n,.int _ m=>uW T t n m R K
  |_,_=>False
 |.call {callee:=.builtin .len,args,argTypes}=>match args.toList,argTypes.toList with
  |[x],[t]=>tp T t (ev x) R K
  |_,_=>False
 |.makeFunc fn first captured=>match fn with
  |.func f=>cr (bT first.size 0&&bJ f YB)<|match KV (captured.toList.map ev)with
   |some cs=>K (.gn f cs) R
   |none=>False
  |_=>False
 |_=>False
def pos(r:Nat):List Nat->Nat->Nat
 |[],k=>k
 |x::l,k=>match bT x r with|true=>k|false=>pos r l (k+1)
def cb(r:Nat):List Nat->Bool
 |[]=>false
 |x::l=>match bT x r with|true=>true|false=>cb r l
def pM:List Nat->List Nat->Bool
 |[],_=>true
 |x::l,m=>match cb x m with|true=>pM l m|false=>false
def nV:List Nat->List Nat->Bool
 |[],_=>true
 |x::l,m=>match cb x m with|true=>false|false=>nV l m
def lR:List Nat->List Nat->List Nat
 |ids,[]=>ids
 |ids,x::l=>match cb x ids with|true=>lR ids l|false=>lR (ids++[x]) l
def EB:List Nat->Bool
 |[]=>true
 |x::l=>match cb x l with|true=>false|false=>EB l
def Da:iw->List Nat|.ptr r _ _=>[r]|.arr r=>[r]|.fn _ ps=>ps.map (·.1)|_=>[]
def oH:List iw->List Nat
 |[]=>[]
 |x::l=>Da x++oH l
def iw.ji(f:Nat->Nat)(bf:Bool):iw->iw
 |.ptr r i off=>.ptr (f r) i off
 |.int k n=>.int k n
 |.arr r=>.arr (f r)
 |.sl a b fr=>.sl a b (fr&&bf)
 |.fn g ps=>.fn g (ps.map λp=>(f p.1,p.2))
def nU:D->List Nat|.gn _ cs=>oH cs|.c9 r=>[r]|.all r=>[r]|.own r _ _=>[r]|.ptr r _ _=>[r]|.pa r _ _ _ _ _=>[r]|_=>[]
def re:List D->List Nat
 |[]=>[]
 |d::l=>nU d++re l
def FY:D->List Nat|.agg cs=>re cs|d=>nU d
def D.ek(ks:List Nat):D->D
 |.all r=>match cb r ks with|true=>.dead|false=>.all r
 |.own r o n=>match cb r ks with|true=>.dead|false=>.own r o n
 |.ptr r i off=>match cb r ks with|true=>.dead|false=>.ptr r i off
 |.pa r i off l k n=>match cb r ks with|true=>.dead|false=>.pa r i off l k n
 |.c9 r=>match cb r ks with|true=>.dead|false=>.c9 r
 |.gn f cs=>match nV (oH cs) ks with|true=>.gn f cs|false=>.dead
 |d=>d
def D.kF(ks:List Nat):List D->List D
 |[]=>[]
 |d::l=>d.ek ks::kF ks l
def D.kill(ks:List Nat):D->D
 |.agg cs=>.agg (D.kF ks cs)
 |d=>d.ek ks
def D.pU(ks:List Nat):List D->List D
 |[]=>[]
 |d::l=>d.kill ks::pU ks l
def D.gq(ks:List Nat):D->D
 |.du ds=>.du (D.pU ks ds)
 |d=>d.kill ks
def Row.kill(ks:List Nat):Row->Row
 |⟨true,ty,sz,.gen [e]⟩=>⟨true,ty,sz,.gen [D.kF ks e]⟩
 |r=>r
def se(ks:List Nat):Rows->Nat->Rows
 |[],_=>[]
 |x::l,i=>(match cb i ks with|true=>none|false=>match x with|some row=>some (row.kill ks)|none=>none)::se ks l (i+1)
def GC(ks:List Nat):List (Nat×D)->(List (Nat×D)->Prop)->Prop
 |[],K=>K []
 |(t,d)::l,K=>(d.gq ks).force λd=>GC ks l λl=>K ((t,d)::l)
def Q2(s:List UInt8):List Int:=s.map λb=>(b.toNat:Int)
def bytesOf(l:List Int):List UInt8:=l.map λn=>UInt8.ofNat n.toNat
def sI(R:Rows):D->Option (Nat×ao)
 |.dx=>some (0,.gen [])
 |.emp=>some (0,.gen [])
 |.sl sz es _=>some (sz,es)
 |.all r=>match R.getD r none with|some ⟨false,_,sz,es⟩=>some (sz,es)|_=>none
 |.own r o n=>match R.getD r none with|some ⟨false,_,sz,es⟩=>some (sz,(es.drop o).take n)|_=>none
 |_=>none
def CR(R:Rows)(ke kx:TK)(y:D):Option (Nat×ao):=
 match kx with
 |.slice _ _=>sI R y
 |.string=>match ke,y with
  |.int .u8,.str s=>some (1,.ints .u8 (Q2 s))
  |_,_=>none
 |_=>none
def IX:ao->Bool|.gen []=>true|_=>false
def CU(e sz lX:Nat)(R:Rows)(ks:List Nat)(es ys:ao)(K:List Nat->D->Rows->Prop):Prop:=
 cr (decide (lX*(es.len+ys.len)<=140737488355328))<|tW (se ks R 0++[some ⟨false,e,sz,es.app ys⟩]) λR'=>K ks (.all R.length) R'
def MB (T:fq)(M:Nat)(t tx:TypeId)(x y:D)(R:Rows)(K:List Nat->D->Rows->Prop):Prop:=
 match T.get t with
 |some ⟨.slice e iO,_,_,_,_,_⟩=>match T.get e,T.get tx with
  |some ⟨ke,sz,lX,_,some z,_⟩,some ⟨kx,_,_,_,_,_⟩=>match CR R ke kx y with
   |some (sy,ys)=>cr ((bJ 0 sz&&bT iO sz)&&(bT z.length sz&&z.all D.plain)&&(bJ 0 lX&&(bT sy sz||IX ys)))<|
    match x with
    |.dx=>CU e sz lX R [] (.gen []) ys K
    |.emp=>CU e sz lX R [] (.gen []) ys K
    |.all r=>match R.getD r none with
     |some ⟨false,ty,s,es⟩=>cr ((bT s sz&&bT ty e)&&gT M r) (CU e sz lX R [r] es ys K)
     |_=>False
    |.own r o n=>match R.getD r none with
     |some ⟨false,ty,s,es⟩=>cr ((bT s sz&&bT ty e)&&(gT M r&&bT o 0)) (CU e sz lX R [r] (es.take n) ys K)
     |_=>False
    |_=>False
   |none=>False
  |_,_=>False
 |_=>False
def uf(T:fq)(t tx:TypeId)(x y:D)(R:Rows)(K:D->Rows->Prop):Prop:=
 match T.get t with
 |some ⟨.slice e iO,_,_,_,_,_⟩=>match T.get e,T.get tx with
  |some ⟨ke,sz,_,_,_,_⟩,some ⟨kx,_,_,_,_,_⟩=>match CR R ke kx y with
   |some (sy,ys)=>cr ((bJ 0 sz&&bT iO sz)&&(bT sy sz||IX ys))<|
    match x with
    |.all r=>match R.getD r none with
     |some ⟨false,ty,s,es⟩=>cr (bT s sz)<|tW (R.set r (some ⟨false,ty,s,(ys.take (min ys.len es.len)).app (es.drop (min ys.len es.len))⟩)) λR'=>K (.int .i64 (min ys.len es.len:Nat)) R'
     |_=>False
    |.own r o n=>match R.getD r none with
     |some ⟨false,ty,s,es⟩=>cr (bT s sz)<|tW (R.set r (some ⟨false,ty,s,((es.take o).app (ys.take (min ys.len n))).app (es.drop (o+min ys.len n))⟩)) λR'=>K (.int .i64 (min ys.len n:Nat)) R'
     |_=>False
    |_=>False
   |none=>False
  |_,_=>False
 |_=>False
inductive Ans where
 |no
 |ok (res:D) (rows:List Row)
 |when (p:Prop) (res:D) (rows:List Row)
 |abs (α:Type) (v:α) (res:α->D) (rows:α->List Row)
 |lV (p:Prop) (α:Type) (v:α) (res:α->D) (rows:α->List Row)
structure bc where
 f:FuncId
 refs:List Bool
 flat:Bool
 m:List D->List Row->Ans
 gone:Option Nat
 py:Bool
def oZ:List bc->FuncId->Option bc
 |[],_=>none
 |x::l,f=>match bT x.f f with|true=>some x|false=>oZ l f
def FX(R:Rows):D->Option D
 |.bool b=>some (.bool b)
 |.int k n=>some (.int k n)
 |.str s=>some (.str s)
 |.iN=>some .iN
 |.jL=>some .jL
 |.dx=>some (.sl 0 (.gen []) false)
 |.emp=>some (.sl 0 (.gen []) false)
 |.sl a b _=>some (.sl a b false)
 |.all r=>match R.getD r none with|some row=>(match row.box with|false=>some (.sl row.sz row.es false)|true=>none)|none=>none
 |.own r o n=>match R.getD r none with|some row=>(match row.box with|false=>some (.sl row.sz ((row.es.drop o).take n) false)|true=>none)|none=>none
 |_=>none
def JV(R:Rows):List D->Option (List D)
 |[]=>some []
 |d::ds=>match FX R d,JV R ds with|some x,some xs=>some (x::xs)|_,_=>none
def conv(R:Rows):D->Option D
 |.agg cs=>(JV R cs).map .agg
 |d=>FX R d
def D.mK(f:Nat->Nat)(bf:Bool):D->D
 |.all r=>.all (f r)
 |.own r o n=>.own (f r) o n
 |.ptr r i off=>.ptr (f r) i off
 |.pa r i off l k n=>.pa (f r) i off l k n
 |.sl a b fr=>.sl a b (fr&&bf)
 |.gn g cs=>.gn g (cs.map (iw.ji f bf))
 |.c9 r=>.c9 (f r)
 |d=>d
def D.mL(f:Nat->Nat)(bf:Bool):List D->List D
 |[]=>[]
 |d::l=>d.mK f bf::mL f bf l
def D.ji(f:Nat->Nat)(bf:Bool):D->D
 |.agg cs=>.agg (D.mL f bf cs)
 |d=>d.mK f bf
def D.Bg(f:Nat->Nat)(bf:Bool):List D->List D
 |[]=>[]
 |d::l=>d.ji f bf::Bg f bf l
def D.tj(f:Nat->Nat)(bf:Bool):D->D
 |.du ds=>.du (D.Bg f bf ds)
 |d=>d.ji f bf
def Row.ji(f:Nat->Nat)(bf:Bool):Row->Row
 |⟨true,ty,sz,.gen [e]⟩=>⟨true,ty,sz,.gen [D.mL f bf e]⟩
 |r=>r
def CZ(R:Rows):List Nat->List Nat
 |[]=>[]
 |r::l=>(match R.getD r none with|some ⟨true,_,_,.gen [e]⟩=>re e|_=>[])++CZ R l
def Dg:List Bool->List D->List Nat
 |true::bs,d::ds=>FY d++Dg bs ds
 |false::bs,_::ds=>Dg bs ds
 |_,_=>[]
def lU:List Bool->List D->List Nat
 |true::bs,_::ds=>lU bs ds
 |false::bs,d::ds=>FY d++lU bs ds
 |[],d::ds=>FY d++lU [] ds
 |_,[]=>[]
def mJ(R:Rows)(bs:List Bool)(args:List D):List Nat:=
 let a:=lR [] (Dg bs args)
 let b:=lR a (CZ R a)
 lR b (CZ R b)
def BA(R:Rows)(f:Nat->Nat):List Nat->Option (List Row)
 |[]=>some []
 |r::l=>match R.getD r none,BA R f l with
  |some row,some rs=>some (row.ji f false::rs)
  |_,_=>none
def te(R:Rows)(f:Nat->Nat):List Bool->List D->Option (List D)
 |true::bs,d::ds=>match d.isVal,te R f bs ds with|true,some xs=>some (d.ji f false::xs)|_,_=>none
 |false::bs,d::ds=>match conv R d,te R f bs ds with|some x,some xs=>some (x::xs)|_,_=>none
 |[],d::ds=>match conv R d,te R f [] ds with|some x,some xs=>some (x::xs)|_,_=>none
 |_,[]=>some []
def bk(ids:List Nat)(n0 i:Nat):Nat:=match ids[i]? with|some r=>r|none=>n0+(i-ids.length)
def tX(f:Nat->Nat):List Nat->List Row->Rows->Rows
 |r::ids,row::rows,R=>tX f ids rows (R.set r (some (row.ji f true)))
 |_,_,R=>R
def BF(f:Nat->Nat)(rows:List Row):Rows:=rows.map λrow=>some (row.ji f true)
inductive Ex where
 |normal|exit (id:Nat)|ret
def St.put(N:Nat)(st:St)(dst:Option Tmp)(d:D)(R:Rows)(K:St->Prop):Prop:=
 match dst with
 |none=>K ⟨st.env,R⟩
 |some t=>cr (bJ t N) (K ⟨(t,d)::st.env,R⟩)
def St.kL(st:St)(c:Operand)(b:Bool):St:=
 match c with
 |.tmp t=>⟨(t,.bool b)::st.env,st.rows⟩
 |_=>st
def EC(R:Rows)(ids:List Nat)(res:D)(aj:List Row)(K:D->Rows->Prop):Prop:=
 cr (gT ids.length aj.length)<|(res.tj (bk ids R.length) true).force λres=>
  tW (tX (bk ids R.length) ids aj R++BF (bk ids R.length) (aj.drop ids.length)) λR=>K res R
def tl(G:List bc)(f:FuncId)(args:List D)(R:Rows)(K:D->Rows->Prop):Prop:=
 match oZ G f with
 |some x=>
  match te R (λr=>pos r (mJ R x.refs args) 0) x.refs args,BA R (λr=>pos r (mJ R x.refs args) 0) (mJ R x.refs args)with
  |some az,some rows=>
   cr ((x.flat&&(match mJ R x.refs args with|[]=>true|_=>false)||(match lU x.refs args with|[]=>true|_=>false))&&
    (pM (Dg x.refs args) (mJ R x.refs args)&&pM (CZ R (mJ R x.refs args)) (mJ R x.refs args))&&
    (EB (mJ R x.refs args)&&nV (lU x.refs args) (mJ R x.refs args)))<|
   match x.m az rows with
   |.ok res aj=>EC R (mJ R x.refs args) res aj K
   |.when p res aj=>p/\EC R (mJ R x.refs args) res aj K
   |.abs _ v res aj=>∀X,X=v->EC R (mJ R x.refs args) (res X) (aj X) K
   |.lV p _ v res aj=>p/\∀X,X=v->EC R (mJ R x.refs args) (res X) (aj X) K
   |.no=>False
  |_,_=>False
 |none=>False
def pr(G:List bc)(f:FuncId):Option Nat:=match oZ G f with|some x=>x.gone|none=>none
def FV(f:Nat->Nat):List Nat->List Row->Rows->Rows
 |r::ids,row::rows,R=>FV f ids rows (R.set r (some (row.ji f false)))
 |_,_,R=>R
def P9(f:Nat->Nat)(rows:List Row):Rows:=rows.map λrow=>some (row.ji f false)
def HJ(R:Rows)(M5 gid:List Nat)(res:D)(aj:List Row)(K:List Nat->D->Rows->Prop):Prop:=
 cr (gT M5.length aj.length)<|(res.tj (bk M5 R.length) false).force λres=>
  tW (FV (bk M5 R.length) M5 aj (se gid R 0)++P9 (bk M5 R.length) (aj.drop M5.length)) λR=>K gid res R
def ID(G:List bc)(M:Nat)(f:FuncId)(k:Nat)(args:List D)(R:Rows)(K:List Nat->D->Rows->Prop):Prop:=
 match oZ G f with
 |some x=>
  match te R (λr=>pos r (mJ R x.refs args) 0) x.refs args,BA R (λr=>pos r (mJ R x.refs args) 0) (mJ R x.refs args)with
  |some az,some rows=>
   cr (((match lU x.refs args with|[]=>true|_=>false)&&(match x.refs with|[]=>false|_=>true))&&
    (pM (Dg x.refs args) (mJ R x.refs args)&&pM (CZ R (mJ R x.refs args)) (mJ R x.refs args))&&
    (EB (mJ R x.refs args)&&((mJ R x.refs args).drop k).all λr=>gT M r))<|
   match x.m az rows with
   |.abs _ v res aj=>∀X,X=v->HJ R ((mJ R x.refs args).take k) ((mJ R x.refs args).drop k) (res X) (aj X) K
   |.lV p _ v res aj=>p/\∀X,X=v->HJ R ((mJ R x.refs args).take k) ((mJ R x.refs args).drop k) (res X) (aj X) K
   |_=>False
  |_,_=>False
 |none=>False
def Cb(G:List bc)(f:FuncId):Bool:=match oZ G f with|some x=>x.py|none=>false
def CY(G:List bc)(M:Nat)(f:FuncId)(args:List D)(R:Rows)(K:List Nat->D->Rows->Prop):Prop:=
 match oZ G f with
 |some x=>
  match te R (λr=>r) [] args,BA R (λr=>pos r (lR [] (lU [] args)) 0) (lR [] (lU [] args))with
  |some az,some rows=>
   cr (((match x.refs with|[]=>true|_=>false)&&rows.all λr=>!r.box)&&(EB (lR [] (lU [] args))&&(pM (lU [] args) (lR [] (lU [] args))&&(lR [] (lU [] args)).all λr=>gT M r)))<|
   match x.m az []with
   |.abs _ v res aj=>∀X,X=v->HJ R [] (lR [] (lU [] args)) (res X) (aj X) K
   |.lV p _ v res aj=>p/\∀X,X=v->HJ R [] (lR [] (lU [] args)) (res X) (aj X) K
   |_=>False
  |_,_=>False
 |none=>False
def QO:D->Bool|.gn _ _=>false|.c9 _=>false|.all _=>false|.own _ _ _=>false|.ptr _ _ _=>false|.pa _ _ _ _ _ _=>false|_=>true
def Vg:List D->Bool
 |[]=>true
 |d::l=>match QO d with|true=>Vg l|false=>false
def tn:D->Bool|.agg cs=>Vg cs|d=>QO d
def Vh:List D->Bool
 |[]=>true
 |d::l=>match tn d with|true=>Vh l|false=>false
def uV:D->Bool|.du ds=>Vh ds|d=>tn d
def MO(R:Rows)(res:D)(aj:List Row)(K:D->Rows->Prop):Prop:=
 match aj with
 |[]=>cr (uV res) (res.force λres=>K res R)
 |_=>(res.tj (bk [] R.length) true).force λres=>tW (R++BF (bk [] R.length) aj) λR=>K res R
def Di:List Nat->Bool|[]=>true|_=>false
def KR(G:List bc)(f:FuncId)(args:List D)(R:Rows)(K:D->Rows->Prop):Prop:=
 match oZ G f with
 |some x=>match x.refs with
  |[]=>match te R (λr=>r) [] args with
   |some az=>cr (x.flat||Di (lU [] args))<|match x.m az []with
    |.ok res aj=>MO R res aj K
    |.when p res aj=>p/\MO R res aj K
    |.abs _ v res aj=>∀X,X=v->MO R (res X) (aj X) K
    |.lV p _ v res aj=>p/\∀X,X=v->MO R (res X) (aj X) K
    |.no=>False
   |none=>False
  |_=>tl G f args R K
 |none=>False
def wA(T:fq)(e d:TypeId)(x:D)(R:Rows)(K:D->Prop):Prop:=
 match T.get e,T.get d with
 |some ⟨.int .u8,_,_,_,_,_⟩,some ⟨.string,_,_,_,_,_⟩=>match sI R x with
  |some (s,es)=>match es.toI .u8 with
   |some l=>cr (bT s 1||IX es) (K (.str (bytesOf l)))
   |none=>False
  |none=>False
 |_,_=>False
def ao.Nil:ao->Prop
 |.gen es=>es=[]
 |.ints _ l=>l=[]
 |.bu l=>l=[]
 |.av _ l=>l=[]
def BT(T:fq)(t:TypeId)(es:ao)(K:D->Prop):Prop:=
 match T.get t with
 |some ⟨.slice _ _,_,_,_,_,_⟩=>K (.rk es)
 |_=>False
def wz(mx:Bool)(x y:D)(K:D->Prop):Prop:=
 match x,y with
 |.int k a,.int k' b=>cr (decide (k=k')) (K (.int k (match mx with|true=>(if b>a then b else a)|false=>(if b<a then b else a))))
 |_,_=>False
def lZ(T:fq)(G:List bc)(N M:Nat)(o:Oper)(st:St)(K:St->Prop):Prop:=
  match o.op with
  | .pick c a b=>match bz st.env c with
    | .bool t=>DT t ((bz st.env a).force λd=>st.put N o.dst d st.rows K) ((bz st.env b).force λd=>st.put N o.dst d st.rows K)
    |_=>False
  | .call {callee:= .value (.func f),args, .. }=>match pr G f with
    | none=>match Cb G f with
      |false=>KR G f (args.toList.map (bz st.env)) st.rows λd R=>st.put N o.dst d R K
      |true=>CY G M f (args.toList.map (bz st.env)) st.rows λks d R=>GC ks st.env λenv=>St.put N ⟨env,R⟩ o.dst d R K
    |some k=>cr (bJ f YB)<|ID G M f k (args.toList.map (bz st.env)) st.rows λks d R=>GC ks st.env λenv=>St.put N ⟨env,R⟩ o.dst d R K
  | .call {callee:= .value (.tmp t),args, .. }=>match look st.env t with
    | .gn f cs=>match pr G f with
      | none=>match Cb G f with
        |false=>KR G f (args.toList.map (bz st.env)++cs.map iw.d) st.rows λd R=>st.put N o.dst d R K
        |true=>False
      |some k=>cr (bJ f YB||bT args.size 1)<|ID G M f k (args.toList.map (bz st.env)++cs.map iw.d) st.rows λks d R=>GC ks st.env λenv=>St.put N ⟨env,R⟩ o.dst d R K
    |_=>False
  | .call {callee:= .builtin .append,args,argTypes}=>match args.toList,argTypes.toList with
    |[x,y],[t,tx]=>MB T M t tx (bz st.env x) (bz st.env y) st.rows λks d R=>GC ks st.env λenv=>St.put N ⟨env,R⟩ o.dst d R K
    |_,_=>False
  | .call {callee:= .builtin .copy,args,argTypes}=>match args.toList,argTypes.toList with
    |[x,y],[t,tx]=>uf T t tx (bz st.env x) (bz st.env y) st.rows λd R=>st.put N o.dst d R K
    |_,_=>False
  | .call {callee:= .builtin .min,args, .. }=>match args.toList with
    |[x,y]=>wz false (bz st.env x) (bz st.env y) λd=>st.put N o.dst d st.rows K
    |_=>False
  | .call {callee:= .builtin .max,args, .. }=>match args.toList with
    |[x,y]=>wz true (bz st.env x) (bz st.env y) λd=>st.put N o.dst d st.rows K
    |_=>False
  | .convert s d x=>match T.get s with
    |some ⟨.slice e _,_,_,_,_,_⟩=>wA T e d (bz st.env x) st.rows λd=>st.put N o.dst d st.rows K
    |_=>ie T (.convert s d x) (bz st.env) st.rows λd R=>st.put N o.dst d R K
  | .binOp op t x y ty=>match op,bz st.env x,bz st.env y with
    | .eql, .sl _ es _, .dx=>BT T t es λd=>st.put N o.dst d st.rows K
    |_,_,_=>ie T (.binOp op t x y ty) (bz st.env) st.rows λd R=>st.put N o.dst d R K
  |op=>ie T op (bz st.env) st.rows λd R=>st.put N o.dst d R K
def Qc(T:fq)(G:List bc)(N M:Nat)(ops:Array Oper):List Oper->St->(St->Prop)->Prop
  |[],st,K=>K st
  | o :: l, st,K=>match o.guard with
    |none=>lZ T G N M o st λst=>Qc T G N M ops l st K
    | some (j,want)=>match(ops[j]?).bind (·.dst) with
      | some g=>match look st.env g with
        | .bool b=>DT b
            (match want with|true=>lZ T G N M o (st.kL (.tmp g) true) λst=>Qc T G N M ops l st K|false=>(st.kL (.tmp g) true).put N o.dst (.du []) st.rows λst=>Qc T G N M ops l st K)
            (match want with|false=>lZ T G N M o (st.kL (.tmp g) false) λst=>Qc T G N M ops l st K|true=>(st.kL (.tmp g) false).put N o.dst (.du []) st.rows λst=>Qc T G N M ops l st K)
        | .du []=>st.put N o.dst (.du []) st.rows λst=>Qc T G N M ops l st K
        |_=>False
      |none=>False
def su(G:List bc):Op->Bool
 |.store _ _ _=>true
 |.call {callee:=.value (.func f),.. }=>match oZ G f with|some x=>(match x.refs with|[]=>x.py|_=>true)|none=>true
 |.call {callee:=.value (.tmp _),.. }=>true
 |.call {callee:=.builtin .append,.. }=>true
 |.call {callee:=.builtin .copy,.. }=>true
 |_=>false
def lH(G:List bc)(o:Op):Bool:=!su G o
def BN(G:List bc)(ops:Array Oper)(b:Array Nat)(i j:Nat):Bool:=
 match ops[i]?,ops[j]? with
 |some x,some y=>
  (x.apart ops y||(b.getD j 0).testBit i)&&((lH G x.op&&lH G y.op)||(b.getD j 0).testBit i)
 |_,_=>true
def It(G:List bc)(ops:Array Oper):Bool:=
 let b:=Region.before ops
 (dD ops.size).all λj=>(match ops[j]? with|some o=>o.after.all λe=>!Region.binds .any e||bJ e.on j|none=>true)&&(dD j).all λi=>BN G ops b i j
def lC(ops:Array Oper)(i a:Nat):Bool:=(ops.toList.drop i).all λo=>match o.dst with|some d=>!(bT d a)|none=>true
def mV:List Operand->List Nat
 |[]=>[]
 |.tmp a::l=>a::mV l
 |_::l=>mV l
def pP:Op->Option (List Nat)
 |.assign x=>some (mV [x])
 |.move x=>some (mV [x])
 |.extract x _=>some (mV [x])
 |.nilCheck x=>some (mV [x])
 |.fieldAddr _ x _=>some (mV [x])
 |.buildSlice _ _ parts=>some (mV (parts.toList.map (·.2)))
 |_=>none
def mg(env:List (Nat×D))(op:Op):Option (List Nat):=
 match pP op with
 |some q=>some q
 |none=>match op with
  |.build _ parts=>some (mV (parts.toList.map (·.2)))
  |.binOp _ _ x y _=>match bz env x with|.int _ _=>some (mV [x,y])|.str _=>some (mV [x,y])|.bool _=>some (mV [x,y])|_=>none
  |.unOp _ _ x=>some (mV [x])
  |.convert _ _ x=>match bz env x with|.int _ _=>some (mV [x])|.str _=>some (mV [x])|_=>none
  |.field _ x _=>some (mV [x])
  |.index _ x y=>some (mV [x,y])
  |.slice _ x (some y) (some z) none=>match bz env x with|.str _=>some (mV [x,y,z])|_=>none
  |.slice _ x (some y) none none=>match bz env x with|.str _=>some (mV [x,y])|_=>none
  |.slice _ x none (some z) none=>match bz env x with|.str _=>some (mV [x,z])|_=>none
  |.indexAddr _ x y=>match bz env x with|.sl _ _ _=>some (mV [x,y])|_=>none
  |.load _ x=>match bz env x with|.iv _ _ _ _=>some (mV [x])|_=>none
  |.call {callee:=.builtin .len,args,.. }=>match args.toList with|[x]=>(match bz env x with|.str _=>some (mV [x])|.sl _ _ _=>some (mV [x])|_=>none)|_=>none
  |_=>none
def H8:D->Bool|.ptr _ _ _=>true|_=>false
def Kh:D->Bool|.emp=>true|.dx=>true|_=>false
def Dx(ops:Array Oper)(env:List (Nat×D))(i j:Nat)(op:Op)(l:List Operand):Bool:=
 match op,l with
 |.load _ (.tmp a),.tmp x::_=>lC ops i a&&(lC ops j x&&(H8 (look env a)&&Kh (look env x)))
 |_,_=>false
def pO:D->Bool|.int _ _=>true|.str _=>true|.bool _=>true|.sl _ _ _=>true|.all _=>true|_=>false
def Dy(ops:Array Oper)(env:List (Nat×D))(i:Nat)(op:Op)(dst:Option Nat):Bool:=
 match op,dst with
 |.load _ (.tmp a),some t=>lC ops i a&&(H8 (look env a)&&(lC ops (i+1) t&&pO (look env t)))
 |_,_=>false
def MW(G:List bc)(ops:Array Oper)(env:List (Nat×D))(i j:Nat):Bool:=
 match ops[i]?,ops[j]? with
 |some x,some y=>(match x.guard,y.guard,x.op,y.op with
  |none,none,.load _ (.tmp a),.store _ (.tmp b) _=>lC ops i a&&(lC ops j b&&(match look env a,look env b with|.ptr r _ _,.ptr r' _ _=>!(bT r r')|.iv _ _ _ _,.ptr _ _ _=>true|_,_=>false))
  |none,none,op,.store _ (.tmp b) _=>(match mg env op with|some q=>(q.all λa=>lC ops i a)&&(lC ops j b&&(match look env b with|.ptr _ _ _=>true|_=>false))|none=>false)
  |none,none,op,.call {callee:=.value (.func f),.. }=>(match(match pr G f with|some _=>true|none=>Cb G f)with|true=>false|false=>match mg env op with|some q=>q.all λa=>lC ops i a|none=>false)
  |none,none,op,.call {callee:=.builtin .append,args,.. }=>(match pP op with|some q=>(q.all λa=>lC ops i a&&H8 (look env a))&&(match x.dst with|some t=>lC ops (i+1) t&&H8 (look env t)|none=>true)|none=>Dx ops env i j op args.toList||Dy ops env i op x.dst)
  |_,_,_,_=>false)
 |_,_=>false
def u6(ops:Array Oper)(j:Nat):Bool:=
 match ops[j]? with
 |some y=>match y.guard,y.op with
  |none,.alloc _=>(match y.dst with|none=>true|some u=>(dD ops.size).all λk=>bT k j||(match(ops[k]?).bind (·.dst)with|some d=>!(bT d u)|none=>true))
  |_,_=>false
 |none=>false
def Ah(G:List bc)(ops:Array Oper)(env:List (Nat×D))(b:Array Nat)(i j:Nat):Bool:=
 match ops[i]?,ops[j]? with
 |some x,some y=>
  (x.apart ops y||(b.getD j 0).testBit i)&&((lH G x.op&&lH G y.op)||(b.getD j 0).testBit i||(MW G ops env i j||u6 ops j))
 |_,_=>true
def Rq(G:List bc)(ops:Array Oper)(env:List (Nat×D)):Bool:=
 let b:=Region.before ops
 (dD ops.size).all λj=>(match ops[j]? with|some o=>o.after.all λe=>!Region.binds .any e||bJ e.on j|none=>true)&&(dD j).all λi=>Ah G ops env b i j
def Ig(x:Nat):List Nat->Nat->List Nat
 |l,0=>x::l
 |[],_=>[x]
 |y::l,n+1=>y::Ig x l n
def DH(m:Nat):List Nat->Nat->Nat->Nat
 |[],_,r=>r
 |y::l,k,r=>DH m l (k+1) (match m.testBit y with|true=>k+1|false=>r)
def DI:List Oper->Bool
 |[]=>false
 |o::l=>match o.op with|.buildSlice _ 0 _=>true|_=>DI l
def Gp(e:Bool)(op:Op):Bool:=match pP op with|some _=>true|none=>(match op with|.load _ _=>e|_=>false)
def DJ(e:Bool)(ops:Array Oper)(b:Array Nat):List Nat->List Nat->List Nat
 |[],acc=>acc
 |j ::js,acc=>DJ e ops b js (match ops[j]? with
  |some o=>(match o.guard with
   |none=>(match Gp e o.op with|true=>Ig j acc (DH (b.getD j 0) acc 0 0)|false=>acc++[j])
   |some _=>acc++[j])
  |none=>acc)
def R9(ops:Array Oper)(b:Array Nat):Bool:=
 (dD ops.size).any λj=>(match ops[j]? with|some y=>(match y.op with|.load _ _=>true|_=>false)|none=>false)&&(dD j).any λi=>(match ops[i]? with|some x=>(match x.op with|.call {callee:=.builtin .append,.. }=>true|_=>false)|none=>false)&&!((b.getD j 0).testBit i)
def VR(ops:Array Oper):List Nat:=DJ (DI ops.toList||R9 ops (Region.before ops)) ops (Region.before ops) (dD ops.size) []
def VB(p:List Nat)(n:Nat):Bool:=bT p.length n&&(((dD n).all λi=>cb i p)&&((p.all λi=>bJ i n)&&EB p))
def DB(p:List Nat)(e:Edge):Edge:=⟨pos e.on p 0,e.ground⟩
def MY(p:List Nat)(o:Oper):Oper:=⟨o.dst,o.op,o.type,o.pos,o.after.map (DB p),match o.guard with|none=>none|some (j,w)=>some (pos j p 0,w)⟩
def nD(p:List Nat)(ops:Array Oper):Array Oper:=(p.map λi=>MY p (ops.getD i default)).toArray
def uY(T:fq)(G:List bc)(N M:Nat)(ops:Array Oper)(st:St)(Q:Ex->St->Prop):Prop:=
 match It G ops with
 |true=>Qc T G N M ops ops.toList st λst=>Q .normal st
 |false=>cr (VB (VR ops) ops.size)<|Qc T G N M (nD (VR ops) ops) (nD (VR ops) ops).toList st λst=>cr (Rq G (nD (VR ops) ops) st.env) (Q .normal st)
def HZ(i n:Nat):List D->Option (List D)
 |[]=>none
 |d::l=>match d,l with
  |.iN,.dx::m=>some (.c9 i:: .all n::m)
  |d,l=>match HZ i n l with|some l'=>some (d::l')|none=>none
def Sa(T:fq)(t:TypeId):Bool:=match T.get t with|some ⟨_,_,_,_,some ds,_⟩=>(match HZ 0 0 ds with|some _=>true|none=>false)|_=>false
def wh(T:fq):List Oper->Bool
 |[]=>false
 |o::l=>match o.op with|.alloc t=>(match Sa T t with|true=>true|false=>wh T l)|_=>wh T l
def Sb:fq->Option TypeId
 |[]=>none
 |(u,i)::l=>match i.kind with|.int .u8=>some u|_=>Sb l
def Jap(T:fq):Code->Option TypeId
 |.region _ ops _=>(match wh T ops.toList with|true=>Sb T|false=>none)
 |_=>none
def J2(n:Nat):Rows->Nat->Option (Nat×TypeId×Nat×List D)
 |[],_=>none
 |x::l,i=>match x with
  |some ⟨true,ty,sz,.gen [e]⟩=>(match HZ i n e with|some e'=>some (i,ty,sz,e')|none=>J2 n l (i+1))
  |_=>J2 n l (i+1)
def J3(T:fq)(a:Code)(st:St)(K:St->Prop):Prop:=
 match Jap T a with
 |none=>K st
 |some u=>match J2 st.rows.length st.rows 0 with
  |none=>K st
  |some (i,ty,sz,e)=>D.jY e λe=>tW (st.rows.set i (some ⟨true,ty,sz,.gen [e]⟩)++[some ⟨false,u,1,.ints .u8 []⟩]) λR=>K ⟨st.env,R⟩
def D.Cd(R:Rows)(ks:List Nat):D->D
 |.all r=>match cb r ks with
  |true=>(match R.getD r none with|some ⟨false,_,sz,es⟩=>.sl sz es false|_=>.dead)
  |false=>.all r
 |.ptr r i off=>match cb r ks with
  |true=>(match R.getD r none with|some ⟨true,_,sz,.gen [e]⟩=>(match e.all D.plain with|true=>.iv sz (.gen [e]) i off|false=>.dead)|_=>.dead)
  |false=>.ptr r i off
 |d=>d.ek ks
def D.sJ(R:Rows)(ks:List Nat):List D->List D
 |[]=>[]
 |d::l=>d.Cd R ks::sJ R ks l
def D.IH(R:Rows)(ks:List Nat):D->D
 |.agg cs=>.agg (D.sJ R ks cs)
 |d=>d.Cd R ks
def D.II(R:Rows)(ks:List Nat):List D->List D
 |[]=>[]
 |d::l=>d.IH R ks::II R ks l
def D.Ce(R:Rows)(ks:List Nat):D->D
 |.du ds=>.du (D.II R ks ds)
 |d=>d.IH R ks
def Row.my(R:Rows)(ks:List Nat):Row->Row
 |⟨true,ty,sz,.gen [e]⟩=>⟨true,ty,sz,.gen [D.sJ R ks e]⟩
 |r=>r
def KU(R0:Rows)(ks:List Nat):Rows->Nat->Rows
 |[],_=>[]
 |x::l,i=>(match cb i ks with|true=>none|false=>match x with|some row=>some (row.my R0 ks)|none=>none)::KU R0 ks l (i+1)
def Fa(R:Rows)(ks:List Nat):List (Nat×D)->(List (Nat×D)->Prop)->Prop
 |[],K=>K []
 |(t,d)::l,K=>(d.Ce R ks).force λd=>Fa R ks l λl=>K ((t,d)::l)
def DK:List D->List Nat
 |[]=>[]
 |d::l=>(match d with|.all r=>[r]|_=>[])++DK l
def Sc:D->List Nat|.agg cs=>DK cs|.all r=>[r]|_=>[]
def Gq(R:Rows)(n:Nat)(d:D):List Nat:=
 match d with
 |.ptr r _ off=>match R.getD r none with|some ⟨true,_,_,.gen [e]⟩=>DK ((e.drop off).take n)|_=>[]
 |_=>[]
def Ih:List (Nat×List Nat)->Nat->Option (List Nat)
 |[],_=>none
 |(u,x)::l,t=>match bT u t with|true=>some x|false=>Ih l t
def M6(env:List (Nat×D)):List (Nat×D)->Nat->D
 |[],t=>look env t
 |(u,x)::l,t=>match bT u t with|true=>x|false=>M6 env l t
def wj(env:List (Nat×D))(acc:List (Nat×List Nat)):Operand->List Nat
 |.tmp t=>match Ih acc t with|some l=>l|none=>Sc (look env t)
 |_=>[]
def Ak(env:List (Nat×D))(acc:List (Nat×List Nat)):List Operand->List Nat
 |[]=>[]
 |x::l=>wj env acc x++Ak env acc l
def Kv(T:fq)(env:List (Nat×D))(R:Rows)(acc:List (Nat×List Nat))(pa:List (Nat×D))(o:Oper):List (Nat×List Nat):=
 match o.dst with
 |none=>acc
 |some t=>match o.op with
  |.load ty (.tmp p)=>(t,Gq R (match T.get ty with|some i=>i.size|none=>0) (M6 env pa p))::acc
  |.move x=>(t,wj env acc x)::acc
  |.slice _ x _ _ _=>(t,wj env acc x)::acc
  |_=>acc
def Kw(T:fq)(env:List (Nat×D))(pa:List (Nat×D))(o:Oper):List (Nat×D):=
 match o.dst with
 |none=>pa
 |some t=>match o.op with
  |.fieldAddr s (.tmp p) f=>(match QP T s f with|some (k,_,_)=>(match M6 env pa p with|.ptr r i off=>(t,.ptr r i (off+k))::pa|_=>pa)|none=>pa)
  |.move (.tmp p)=>(t,M6 env pa p)::pa
  |.nilCheck (.tmp p)=>(t,M6 env pa p)::pa
  |_=>pa
def Kx(G:List bc)(f:FuncId):Bool:=match oZ G f with|some x=>x.py||(match x.refs with|[]=>!x.flat|_=>false)|none=>false
def Sd(T:fq)(env:List (Nat×D))(pa:List (Nat×D))(t:TypeId)(p:Nat):List Nat:=
 match T.get t with
 |some ⟨.array _ _ _,_,_,_,_,_⟩=>(match M6 env pa p with|.ptr r _ _=>[r]|_=>[])
 |_=>[]
def SZ(T:fq)(G:List bc)(env:List (Nat×D))(R:Rows):List (Nat×List Nat)->List (Nat×D)->List Oper->List Nat
 |_,_,[]=>[]
 |acc,pa,o::l=>(match o.op with|.call {callee:=.value (.func f),args,.. }=>(match Kx G f with|true=>Ak env acc args.toList|false=>[])|.slice t (.tmp p) _ _ _=>Sd T env pa t p|_=>[])++SZ T G env R (Kv T env R acc pa o) (Kw T env pa o) l
def uw(M:Nat)(R:Rows):List Nat->List Nat
 |[]=>[]
 |r::l=>match gT M r&&(match R.getD r none with|some ⟨false,_,_,_⟩=>true|some ⟨true,_,_,.gen [e]⟩=>e.all D.plain|_=>false)with|true=>r::uw M R l|false=>uw M R l
def IJ(T:fq)(G:List bc)(M:Nat)(ops:Array Oper)(st:St)(K:St->Prop):Prop:=
 match uw M st.rows (SZ T G st.env st.rows [] [] ops.toList)with
 |[]=>K st
 |ks=>Fa st.rows ks st.env λenv=>tW (KU st.rows ks st.rows 0) λR=>K ⟨env,R⟩
def uy(T:fq)(R:Rows)(i:Nat):Option (TypeId×Nat×TypeId×Nat):=
 match R.getD i none with
 |some ⟨true,ty,sz,.gen [[d]]⟩=>(match d with
  |.dx=>(match T.get ty with|some ⟨.slice e n,_,_,_,_,_⟩=>(match bJ 0 n with|true=>some (ty,sz,e,n)|false=>none)|_=>none)
  |.emp=>(match T.get ty with|some ⟨.slice e n,_,_,_,_,_⟩=>(match bJ 0 n with|true=>some (ty,sz,e,n)|false=>none)|_=>none)
  |_=>none)
 |_=>none
def IK(T:fq):List iw->List (Nat×D)->Rows->(Rows->Prop)->Prop
 |[],_,R,K=>K R
 |.ptr i _ _::l,env,R,K=>(match uy T R i with
  |some (ty,sz,e,n)=>Be R ⟨false,e,n,.gen []⟩ λk R=>tW (R.set i (some ⟨true,ty,sz,.gen [[.all k]]⟩)) λR=>IK T l env R K
  |none=>IK T l env R K)
 |_::l,env,R,K=>IK T l env R K
def VS(env:List (Nat×D)):List Operand->List iw
 |[]=>[]
 |.tmp t::l=>(match look env t with|.ptr i o f=>.ptr i o f::VS env l|_=>VS env l)
 |_::l=>VS env l
def Al(env:List (Nat×D)):List Oper->List iw
 |[]=>[]
 |o::l=>(match o.op with|.makeFunc _ _ captured=>VS env captured.toList|_=>[])++Al env l
def pz(T:fq)(G:List bc)(N M:Nat)(L:Code->St->(Ex->St->Prop)->Prop):Code->St->(Ex->St->Prop)->Prop
 |.skip,st,Q=>Q .normal st
 |.label _,st,Q=>Q .normal st
 |.region _ ops draw,st,Q=>IK T (Al st.env ops.toList) st.env st.rows λR=>IJ T G M ops ⟨st.env,R⟩ λst=>match draw with|true=>uY T G N M ops st Q|false=>Qc T G N M ops ops.toList st λst=>Q .normal st
 |.seq a b,st,Q=>pz T G N M L a st λe st=>match e with|.normal=>J3 T a st λst=>pz T G N M L b st Q|.exit i=>Q (.exit i) st|.ret=>Q .ret st
 |.cond c a b,st,Q=>match bz st.env c with
  |.bool t=>DT t (pz T G N M L a (st.kL c true) Q) (pz T G N M L b (st.kL c false) Q)
  |.rk es=>(es.Nil->pz T G N M L a (st.kL c true) Q)/\pz T G N M L b (st.kL c false) Q
  |_=>False
 |.block id c,st,Q=>pz T G N M L c st λe st=>match e with|.normal=>Q .normal st|.exit i=>(match bT i id with|true=>Q .normal st|false=>Q (.exit i) st)|.ret=>Q .ret st
 |.exit id,st,Q=>Q (.exit id) st
 |.ret,st,Q=>Q .ret st
 |.scope c,st,Q=>pz T G N M L c st Q
 |c,st,Q=>L c st Q
def Gh(T:fq)(R:Rows)(env:List (Nat×D)):List ResultVar->(List D->Prop)->Prop
 |[],K=>K []
 |.tmp t::l,K=>(look env t).force λd=>cr d.isVal (Gh T R env l λds=>K (d::ds))
 |.cell a t::l,K=>Ac T t (look env a) R λd _=>cr d.isVal (Gh T R env l λds=>K (d::ds))
def kM(ex:List Nat)(i r:Nat):Bool:=match ex[i]? with|some x=>bT x r|none=>false
def KY(ex:List Nat)(r:Nat):Bool:=ex.all λx=>!(bT x r)
def I0(ex:List Nat)(R:Rows)(i:Nat):Bool:=match ex[i]? with|some r=>(match R.getD r none with|none=>true|some _=>false)|none=>false
def ao.Eq:ao->ao->Prop
 |.ints k l,.ints k' m=>match decide (k=k')with|true=>l=m|false=>(ao.ints k l).l=(ao.ints k' m).l
 |.bu l,.bu m=>l=m
 |.gen es,.gen fs=>es=fs
 |.gen [],.ints _ m=>m=[]
 |.gen [],.bu m=>m=[]
 |.gen [],.av _ m=>m=[]
 |.av k l,.av k' m=>(match Gu k k' l with|some l'=>l'=m|none=>(ao.av k l).l=(ao.av k' m).l)
 |E,F=>E.l=F.l
theorem ao.AA{E F:ao}(h:ao.Eq E F):E.l=F.l:=by
 cases E with
 |gen es=>
  cases es with
  |nil=>cases F<;>simp_all [ao.Eq,ao.l]
  |cons e es=>cases F<;>simp_all [ao.Eq,ao.l]
 |ints k l=>
  cases F with
  |ints k' m=>
   simp only[ao.Eq]at h
   split at h
   ·rename_i hk;subst h;rw[oY hk]
   ·exact h
  |_=>exact h
 |bu l=>
  cases F with
  |bu m=>simp only[ao.Eq]at h;rw[h]
  |_=>exact h
 |av k l=>
  cases F with
  |av k' m=>
   simp only[ao.Eq]at h
   split at h
   ·rename_i l' hc
    obtain⟨e,hm⟩:=WI hc
    subst e
    simp only at hm
    rw[<-h,<-hm]
   ·exact h
  |_=>exact h
theorem ao.oC{E:ao}:E.Nil↔E.l=[]:=by
 cases E<;>simp[ao.Nil,ao.l]
def sN(ex:List Nat):List (Nat×Nat×Nat)->List (Nat×Nat×Nat)->Bool
 |[],[]=>true
 |(i,b,c)::l,(r,y,z)::m=>kM ex i r&&(bT b y&&(bT c z&&sN ex l m))
 |_,_=>false
def pA(ex:List Nat):List iw->List iw->Bool
 |[],[]=>true
 |.ptr i b c::l,.ptr r y z::m=>kM ex i r&&(bT b y&&(bT c z&&pA ex l m))
 |.fn f ps::l,.fn g qs::m=>bT f g&&(sN ex ps qs&&pA ex l m)
 |_,_=>false
def jy(ex:List Nat)(m:Nat)(R:Rows)(d p:D):Prop:=
 match p with
 |.int k n=>match d with|.int j q=>cr (decide (j=k)) (q=n)|_=>False
 |.bool b=>match d with|.bool a=>a=b|_=>False
 |.str s=>match d with|.str u=>u=s|_=>False
 |.iN=>match d with|.iN=>True|_=>False
 |.jL=>match d with|.jL=>True|_=>False
 |.gn f cs=>match d with|.gn g ds=>cr (bT f g&&pA ex cs ds) True|_=>False
 |.ptr i o f=>match d with|.ptr r o' f'=>cr (kM ex i r&&(bT o o'&&bT f f')) True|_=>False
 |.c9 i=>match d with|.iN=>True|.c9 r=>cr (kM ex i r) True|.ptr r o f=>cr (kM ex i r&&(bT o 0&&bT f 0)) True|_=>False
 |.dx=>match d with|.dx=>True|_=>False
 |.emp=>match d with|.dx=>True|.emp=>True|_=>False
 |.sl sz es fr=>match d with
  |.dx=>es.Nil
  |.emp=>es.Nil
  |.sl kG je fr'=>cr (!fr||fr') ((je.Nil\/kG=sz)/\ao.Eq je es)
  |.all r=>match R.getD r none with
   |some ⟨box,_,kG,je⟩=>cr (!box&&bT kG sz&&KY ex r&&gT m r) (ao.Eq je es)
   |none=>False
  |.own r o n=>match R.getD r none with
   |some ⟨box,_,kG,je⟩=>cr (!box&&bT kG sz&&KY ex r&&gT m r) (ao.Eq ((je.drop o).take n) es)
   |none=>False
  |_=>False
 |.all i=>match d with|.all r=>cr (kM ex i r) True|.dx=>cr (I0 ex R i) True|.emp=>cr (I0 ex R i) True|_=>False
 |.own i o n=>match d with|.own r o' n'=>cr (kM ex i r) (o'=o/\n'=n)|_=>False
 |.dead=>cr d.H2 True
 |_=>False
def Fi(ex:List Nat)(m:Nat)(R:Rows):List D->List D->Prop
 |[],[]=>True
 |d::ds,p::ps=>jy ex m R d p/\Fi ex m R ds ps
 |_,_=>False
def rz(ex:List Nat)(m:Nat)(R:Rows)(d p:D):Prop:=
 match p with
 |.agg ps=>match d with|.agg ds=>Fi ex m R ds ps|_=>False
 |p=>jy ex m R d p
def wI(ex:List Nat)(m:Nat)(R:Rows):List D->List D->Prop
 |[],[]=>True
 |d::ds,p::ps=>rz ex m R d p/\wI ex m R ds ps
 |_,_=>False
def Ay(ex:List Nat)(m:Nat)(R:Rows)(d p:D):Prop:=
 match p with
 |.du ps=>match d with|.du ds=>wI ex m R ds ps|_=>False
 |p=>rz ex m R d p
def nf(ex:List Nat)(m:Nat)(R:Rows):List Nat->List Row->Prop
 |[],[]=>True
 |r ::rs,⟨box,ty,sz,es⟩::ps=>(match R.getD r none with
  |some ⟨AD,j0,kG,je⟩=>cr (Bool.xor (!box) AD&&bT ty j0&&bT sz kG) (match box with
   |false=>ao.Eq je es
   |true=>match je,es with|.gen [e'],.gen [e]=>Fi ex m R e' e|_,_=>False)
  |none=>cr (!box&&bJ 0 sz) es.Nil)/\nf ex m R rs ps
 |_,_=>False
def Ii(R:Rows)(p d:D):List (Nat×Nat):=
 match p with
 |.all i=>match d with|.all r=>[(i,r)]|_=>[]
 |_=>[]
def Ij(R:Rows):List D->List D->List (Nat×Nat)
 |p::ps,d::ds=>Ii R p d++Ij R ps ds
 |_,_=>[]
def JF(R:Rows)(p d:D):List (Nat×Nat):=
 match p with
 |.agg ps=>match d with|.agg ds=>Ij R ps ds|_=>[]
 |p=>Ii R p d
def newAt(n0:Nat):List (Nat×Nat)->Nat->Nat
 |[],i=>n0+i
 |(j,r)::l,i=>match bT j i with|true=>r|false=>newAt n0 l i
def news(n0:Nat)(l:List (Nat×Nat)):Nat->Nat->List Nat
 |_,0=>[]
 |i,n+1=>newAt n0 l i::news n0 l (i+1) n
def Ag:List Nat->List Nat->Bool
 |[],[]=>true
 |x::l,y::m=>bT x y&&Ag l m
 |_,_=>false
def Az(M:Nat)(ex:List Nat):Bool:=(Ag (ex.take M) (dD M)&&(ex.drop M).all λr=>gT M r)&&EB (ex.drop M)
def AF(m:Nat)(res:D)(rows:List Row)(d:D)(R:Rows):Prop:=
 ∃ex,Az m ex=true/\Ay ex m R d res/\nf ex m R ex rows
def Gg:List D->Nat->List (Nat×D)
 |[],_=>[]
 |d::ds,i=>(i,d)::Gg ds (i+1)
def nF(T:fq)(G:List bc)(L:Code->St->(Ex->St->Prop)->Prop)(fn:Func)(args:List D)(rows:List Row)(Q:D->Rows->Prop):Prop:=
 match fn.body with
 |some c=>pz T G fn.ntmps rows.length L c ⟨Gg args 0,rows.map some⟩ λe st=>match e with
  |.exit _=>False
  |_=>Gh T st.rows st.env fn.results.toList λds=>match ds with|[d]=>Q d st.rows|ds=>Q (.du ds) st.rows
 |none=>False
def oM:List Nat->List D->List (Nat×D)
 |t::ts,d::ds=>(t,d)::oM ts ds
 |_,_=>[]
def Bb:List iw->List Nat
 |[]=>[]
 |.fn f _::l=>f::Bb l
 |_::l=>Bb l
def Bc:D->List Nat|.gn f cs=>f::Bb cs|_=>[]
def rJ:List D->List Nat
 |[]=>[]
 |d::l=>Bc d++rJ l
def F7:D->List Nat|.agg cs=>rJ cs|d=>Bc d
def pL:List D->List Nat
 |[]=>[]
 |d::l=>F7 d++pL l
def Db:D->List Nat|.du ds=>pL ds|d=>F7 d
def lj:List Row->List Nat
 |[]=>[]
 |⟨true,_,_,.gen [e]⟩::l=>rJ e++lj l
 |_::l=>lj l
def GF:Rows->List Nat
 |[]=>[]
 |some r::l=>lj [r]++GF l
 |none::l=>GF l
def sL(l:List Nat):Bool:=l.all λf=>bJ f YB
def AB:List (Nat×D)->List Nat
 |[]=>[]
 |(_,d)::l=>Db d++AB l
def Ka (T:fq)(G:List bc)(L:Code->St->(Ex->St->Prop)->Prop)(fn:Func)(args:List D)(rows:List Row)(Q:D->Rows->Prop)(M:Nat):Prop:=
 match fn.body with
 |some c =>match gT YB fn.nfree with
  |true =>match bT fn.nfree YB with
   |true=>pz T G fn.ntmps M L c ⟨oM fn.params.toList args,rows.map some⟩ λe st=>match e with
    |.normal=>Q (.bool true) st.rows
    |_=>False
   |false=>match c with
    |.seq a b=>pz T G fn.ntmps M L a ⟨oM fn.params.toList args,rows.map some⟩ λe st=>match e with
     |.normal=>cr (sL (AB st.env++GF st.rows)) (pz T G fn.ntmps M L b st λe st=>match e with
      |.normal=>Q (.bool true) st.rows
      |_=>False)
     |_=>False
    |_=>False
  |false=>pz T G fn.ntmps M L c ⟨Gg args 0,rows.map some⟩ λe st=>match e with
  |.exit _=>False
  |_=>Gh T st.rows st.env fn.results.toList λds=>match ds with|[d]=>Q d st.rows|ds=>Q (.du ds) st.rows
 |none=>False
