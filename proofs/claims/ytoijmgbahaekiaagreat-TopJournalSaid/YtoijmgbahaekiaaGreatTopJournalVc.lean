import Derived.Test.YtoijmgbahaekiaaGreatTopJournalFy
open Nat renaming beq->bV,blt->bK,ble->gK
open BitVec renaming ofInt->dK
open List renaming replicate->gA,range->hY
set_option linter.all false
namespace Go.GD
open Go
def cand(b:Bool)(p:Prop):Prop:=match b with|true=>p|false=>False
def Qqx(b:Bool)(p q:Prop):Prop:=match b with|true=>p|false=>q
theorem Q02{b:Bool}{p:Prop}:cand b p↔b=true/\p:=by cases b<;>simp[cand]
theorem Qwb{b:Bool}{p q:Prop}:Qqx b p q↔(b=true->p)/\(b=false->q):=by cases b<;>simp[Qqx]
abbrev Rows:=List (Option Row)
namespace D
def isSl(n:Nat):D->Bool|.sl m _ _=>bV m n|.nils=>true|.emp=>true|_=>false
def toEs:D->Els|.sl _ es _=>es|_=>.gen []
def isCell:D->Bool|.agg _=>false|.tup _=>false|.dead=>false|_=>true
def isVal:D->Bool|.tup _=>false|.dead=>false|_=>true
def isOne:D->Bool|.agg _=>false|.tup _=>false|_=>true
def plain:D->Bool|.bool _=>true|.int _ _=>true|.str _=>true|.nilp=>true|.nils=>true|.emp=>true|.sl _ _ _=>true|_=>false
def cells:D->List D|.agg cs=>cs|d=>[d]
def force:D->(D->Prop)->Prop
 |.bool b,K=>K (.bool b)
 |.int k n,K=>K (.int k n)
 |.str s,K=>K (.str s)
 |.sl a b c,K=>K (.sl a b c)
 |.all a,K=>K (.all a)
 |.own a b c,K=>K (.own a b c)
 |.ptr a b c,K=>K (.ptr a b c)
 |.pa a b c d e f,K=>K (.pa a b c d e f)
 |.iptr a b c d,K=>K (.iptr a b c d)
 |.nilp,K=>K .nilp
 |.nils,K=>K .nils
 |.emp,K=>K .emp
 |.nilq es,K=>K (.nilq es)
 |.dead,K=>K .dead
 |.clo a b,K=>K (.clo a b)
 |.selfp a,K=>K (.selfp a)
 |.nilif,K=>K .nilif
 |.agg a,K=>K (.agg a)
 |.tup a,K=>K (.tup a)
end D
def D.forceL:List D->(List D->Prop)->Prop
 |[],K=>K []
 |d::l,K=>d.force λd=>forceL l λl=>K (d::l)
def Qcs:Rows->(Rows->Prop)->Prop
 |[],K=>K []
 |d::l,K=>Qcs l λl=>K (d::l)
inductive CTy where
 |int (k:IntKind)|bool|str|sl (n:Nat)|other
inductive TK where
 |int (k:IntKind)|bool|string
 |slice (e:TypeId) (n:Nat)
 |struct (fs:List (Nat×TypeId×Nat))
 |array (len:Nat) (e:TypeId) (n:Nat)
 |other
structure TI where
 kind:TK
 size:Nat
 bytes:Nat
 ctys:List CTy
 zero:Option (List D)
 eq:Bool
abbrev Tab:=List (TypeId×TI)
def Tab.get:Tab->TypeId->Option TI
 |[],_=>none
 |(u,i)::l,t=>match bV u t with|true=>some i|false=>Tab.get l t
def TK.isAgg:TK->Bool|.struct _=>true|.array _ _ _=>true|_=>false
def Qec(pl:Bool):CTy->D->(D->Prop)->Prop
 |.int k,c,K=>cand (c.isInt k) (K (.int k c.toInt))
 |.bool,c,K=>cand c.isBool (K (.bool c.toBool))
 |.str,c,K=>cand c.isStr (K (.str c.toStr))
 |.sl n,c,K=>match pl with
  |true=>cand (c.isSl n) (K (.sl n c.toEs false))
  |false=>cand c.isCell (c.force K)
 |.other,c,K=>match pl with
  |true=>match c with|.nilp=>K .nilp|_=>False
  |false=>cand c.isCell (c.force K)
def Qg8(pl:Bool)(e:List D):List CTy->Nat->(List D->Prop)->Prop
 |[],_,K=>K []
 |t::ts,off,K=>Qec pl t (e.getD off .dead) λd=>Qg8 pl e ts (off+1) λds=>K (d::ds)
def Qez(pl:Bool)(t:TI)(e:List D)(off:Nat)(K:D->Prop):Prop:=
 match t.kind.isAgg with
 |true=>Qg8 pl e t.ctys off λds=>K (.agg ds)
 |false=>match t.ctys with
  |[y]=>Qec pl y (e.getD off .dead) K
  |_=>False
def Q2d:List D->Nat->List D->List D
 |e,_,[]=>e
 |e,off,v::vs=>Q2d (e.set off v) (off+1) vs
def Z6g:Value->Option D
 |.bool b=>some (.bool b)
 |.int k n=>some (.int k n)
 |.string s=>some (.str s.data.toList)
 |.slice none 0 0=>some .nils
 |.pointer none=>some .nilp
 |.nilIface=>some .nilif
 |.nilFunc=>some .dead
 |_=>none
def Qi9:List Value->Option (List D)
 |[]=>some []
 |v::vs=>match Z6g v,Qi9 vs with|some d,some ds=>some (d::ds)|_,_=>none
def Z3o:Value->Option D
 |.agg cs=>(Qi9 cs.toList).map .agg
 |v=>Z6g v
structure St where
 env:List (Nat×D)
 rows:Rows
def look:List (Nat×D)->Nat->D
 |[],_=>.dead
 |(u,d)::l,t=>match bV u t with|true=>d|false=>look l t
def evOp(env:List (Nat×D)):Operand->D
 |.tmp t=>look env t
 |.const v=>(Z3o v).getD .dead
 |.func f=>match bK f YB with|true=>.clo f []|false=>.dead
 |_=>.dead
def iand(k:IntKind)(x y:Int):Int:=k.wrap (dK k.bits x&&&dK k.bits y).toNat
def ior(k:IntKind)(x y:Int):Int:=k.wrap (dK k.bits x|||dK k.bits y).toNat
def ixor(k:IntKind)(x y:Int):Int:=k.wrap (dK k.bits x^^^dK k.bits y).toNat
def Zbq(k:IntKind)(x y:Int):Int:=k.wrap (dK k.bits x&&&~~~dK k.bits y).toNat
def ishl(k:IntKind)(x y:Int):Int:=k.wrap (x*2^(min y.toNat k.bits))
def ishr(k:IntKind)(x y:Int):Int:=x.fdiv (2^(min y.toNat k.bits))
def Z9(op:BinOp)(k:IntKind)(x y:Int)(K:D->Prop):Prop:=
 match op with
 |.add=>K (.int k (k.wrap (x+y)))
 |.sub=>K (.int k (k.wrap (x-y)))
 |.mul=>K (.int k (k.wrap (x*y)))
 |.quo=>cand (decide (y≠0)) (K (.int k (k.wrap (x.tdiv y))))
 |.rem=>cand (decide (y≠0)) (K (.int k (x.tmod y)))
 |.and=>K (.int k (iand k x y))
 |.or=>K (.int k (ior k x y))
 |.xor=>K (.int k (ixor k x y))
 |.andNot=>K (.int k (Zbq k x y))
 |.eql=>K (.bool (x==y))
 |.neq=>K (.bool (x !=y))
 |.lss=>K (.bool (decide (x<y)))
 |.leq=>K (.bool (decide (x<=y)))
 |.gtr=>K (.bool (decide (x>y)))
 |.geq=>K (.bool (decide (x>=y)))
 |_=>False
def eq1:D->D->Bool
 |.int _ a,.int _ b=>a==b
 |.bool a,.bool b=>a==b
 |.str a,.str b=>decide (a=b)
 |_,_=>false
def eqs:List D->List D->Bool
 |[],_=>true
 |a::l,b::m=>eq1 a b&&eqs l m
 |_::_,[]=>false
def fits:List CTy->List D->Bool
 |[],[]=>true
 |.int k::t,d::l=>d.isInt k&&fits t l
 |.bool::t,d::l=>d.isBool&&fits t l
 |.str::t,d::l=>d.isStr&&fits t l
 |_,_=>false
def binVC(T:Tab)(op:BinOp)(t:TypeId)(x y:D)(K:D->Prop):Prop:=
 match x,y with
 |.int k a,.int k' b=>
  match op with
  |.shl=>cand (decide (0<=b)) (K (.int k (ishl k a b)))
  |.shr=>cand (decide (0<=b)) (K (.int k (ishr k a b)))
  |op=>cand (decide (k=k')) (Z9 op k a b K)
 |.str a,.str b=>
  match op with
  |.add=>cand (decide (a.length+b.length<=maxLen)) (K (.str (a++b)))
  |.eql=>K (.bool (decide (a=b)))
  |.neq=>K (.bool (!decide (a=b)))
  |.lss=>K (.bool (Go.Op.bytesLess a b))
  |.leq=>K (.bool (Go.Op.bytesLess a b||decide (a=b)))
  |.gtr=>K (.bool (!(Go.Op.bytesLess a b||decide (a=b))))
  |.geq=>K (.bool (!(Go.Op.bytesLess a b)))
  |_=>False
 |.bool a,.bool b=>
  match T.get t with
  |some ⟨.bool,_,_,_,_,_⟩=>match op with
   |.eql=>K (.bool (a==b))
   |.neq=>K (.bool (!(a==b)))
   |_=>False
  |_=>False
 |.agg a,.agg b=>
  match T.get t with
  |some ti=>cand (ti.kind.isAgg&&bK 0 ti.size&&ti.eq&&fits ti.ctys a&&fits ti.ctys b)<|
   match op with
   |.eql=>K (.bool (eqs a b))
   |.neq=>K (.bool (!(eqs a b)))
   |_=>False
  |none=>False
 |_,_=>False
def Qzc(T:Tab)(s d:TypeId)(x:D)(K:D->Prop):Prop:=
 match T.get s,T.get d with
 |some ⟨.int _,_,_,_,_,_⟩,some ⟨.int k,_,_,_,_,_⟩=>match x with
  |.int _ n=>K (.int k (k.wrap n))
  |_=>False
 |some ⟨.string,_,_,_,_,_⟩,some ⟨.string,_,_,_,_,_⟩=>match x with
  |.str s=>K (.str s)
  |_=>False
 |_,_=>False
def Qor(T:Tab)(s:TypeId)(f:Nat):Option (Nat×TypeId×Nat):=
 match T.get s with
 |some ⟨.struct fs,_,_,_,_,_⟩=>fs[f]?
 |_=>none
def Qog(place:Nat->Option (Nat×Nat))(ev:Operand->D):List (Nat×Operand)->List D->(List D->Prop)->Prop
 |[],cs,K=>D.forceL cs K
 |(i,x)::ps,cs,K=>match place i with
  |some (off,n)=>cand ((ev x).isVal&&bV (ev x).cells.length n&&gK (off+n) cs.length) (Qog place ev ps (Q2d cs off (ev x).cells) K)
  |none=>False
def D.unfr:D->D|.sl a b _=>.sl a b false|d=>d
def Z48:List D->List D
 |[]=>[]
 |d::l=>d.unfr::Z48 l
def Qop(n len:Nat)(ev:Operand->D):List (Nat×Operand)->List (List D)->(List (List D)->Prop)->Prop
 |[],es,K=>K es
 |(i,x)::ps,es,K=>cand (((ev x).isVal&&(Z48 (ev x).cells).all D.plain)&&bV (Z48 (ev x).cells).length n&&bK i len) (Qop n len ev ps (es.set i (Z48 (ev x).cells)) K)
def addR1(row:Row):Rows->Nat->(Nat->Rows->Prop)->Prop
 |[],n,K=>K n [some row]
 |x::l,n,K=>addR1 row l (n+1) λk l=>K k (x::l)
def addR(R:Rows)(row:Row)(K:Nat->Rows->Prop):Prop:=addR1 row R 0 K
def ints(e:List D)(off:Nat):Nat->List Int
 |0=>[]
 |n+1=>(e.getD off .dead).toInt::ints e (off+1) n
def bools(e:List D)(off:Nat):Nat->List Bool
 |0=>[]
 |n+1=>(e.getD off .dead).toBool::bools e (off+1) n
def Qia(k:IntKind)(e:List D)(off:Nat):Nat->Bool
 |0=>true
 |n+1=>(e.getD off .dead).isInt k&&Qia k e (off+1) n
def Qh4(e:List D)(off:Nat):Nat->Bool
 |0=>true
 |n+1=>(e.getD off .dead).isBool&&Qh4 e (off+1) n
def Qr4(k:IntKind)(l:List Int)(j:Nat):Nat->List D
 |0=>[]
 |n+1=>.int k (l.getD j 0)::Qr4 k l (j+1) n
def Qrx(l:List Bool)(j:Nat):Nat->List D
 |0=>[]
 |n+1=>.bool (l.getD j false)::Qrx l (j+1) n
def Qfi(T:Tab)(t:TypeId)(x:D)(R:Rows)(K:D->Rows->Prop):Prop:=
 match T.get t with
 |none=>False
 |some ti=>match x with
  |.ptr r i off=>match R.getD r none with
   |some ⟨box,_,sz,es⟩=>cand (gK (off+ti.size) sz) (Qez (!box) ti (es.get i) off λd=>K d R)
   |none=>False
  |.pa r i off len k n=>match R.getD r none with
   |some ⟨_,_,sz,es⟩=>cand (gK (off+len) sz)<|match ti.kind,k with
    |.int j,some k=>cand (decide (j=k)&&Qia k (es.get i) off len) (K (.int k ((ints (es.get i) off len).getD n 0)) R)
    |.bool,none=>cand (Qh4 (es.get i) off len) (K (.bool ((bools (es.get i) off len).getD n false)) R)
    |_,_=>False
   |none=>False
  |.iptr sz es i off=>cand (gK (off+ti.size) sz) (Qez true ti (es.get i) off λd=>K d R)
  |_=>False
def Z6y(ti:TI)(e:List D)(off len:Nat)(k:Option IntKind)(n:Nat)(d:D)(K:List D->Prop):Prop:=
 match ti.kind,k,d with
 |.int j,some k,.int k' v=>cand (decide (j=k)&&decide (k'=k)&&Qia k e off len) (K (Q2d e off (Qr4 k ((ints e off len).set n v) 0 len)))
 |.bool,none,.bool v=>cand (Qh4 e off len) (K (Q2d e off (Qrx ((bools e off len).set n v) 0 len)))
 |_,_,_=>False
def Qjx(T:Tab)(t:TypeId)(x d:D)(R:Rows)(K:D->Rows->Prop):Prop:=
 match T.get t with
 |none=>False
 |some ti=>match x with
  |.ptr r i off=>match R.getD r none with
   |some ⟨box,ty,sz,es⟩=>cand (bK 0 ti.size&&d.isVal&&bV d.cells.length ti.size&&gK (off+ti.size) sz)<|match box with
    |true=>D.forceL (Q2d (es.get i) off d.cells) λe=>Qcs (R.set r (some ⟨true,ty,sz,.gen [e]⟩)) λR=>K .dead R
    |false=>cand (d.cells.all D.plain) (Qcs (R.set r (some ⟨false,ty,sz,es.set i (Q2d (es.get i) off d.cells)⟩)) λR=>K .dead R)
   |none=>False
  |.pa r i off len k n=>match R.getD r none with
   |some ⟨box,ty,sz,es⟩=>cand (gK (off+len) sz)<|Z6y ti (es.get i) off len k n d λcs=>match box with
    |true=>D.forceL cs λe=>Qcs (R.set r (some ⟨true,ty,sz,.gen [e]⟩)) λR=>K .dead R
    |false=>Qcs (R.set r (some ⟨false,ty,sz,es.set i cs⟩)) λR=>K .dead R
   |none=>False
  |_=>False
def Qon(T:Tab)(t:TypeId)(x:D)(isC:Bool)(n:Int)(R:Rows)(K:D->Rows->Prop):Prop:=
 match T.get t with
 |some ⟨.slice _ esz,_,_,_,_,_⟩=>match x with
  |.sl sz es _=>cand (bV sz esz&&bK 0 esz&&decide (0<=n/\n<es.len)) (K (.iptr sz es n.toNat 0) R)
  |.own r o m=>match R.getD r none with
   |some ⟨_,_,sz,_⟩=>cand (bV sz esz&&bK 0 esz&&decide (0<=n/\n<m)) (K (.ptr r (o+n.toNat) 0) R)
   |none=>False
  |.all r=>match R.getD r none with
   |some ⟨_,_,sz,es⟩=>cand (bV sz esz&&bK 0 esz&&decide (0<=n/\n<es.len)) (K (.ptr r n.toNat 0) R)
   |none=>False
  |_=>False
 |some ⟨.array len e esz,_,_,_,_,_⟩=>cand (bK 0 esz&&decide (0<=n/\n<len))<|match x with
  |.ptr r i off=>match isC with
   |true=>K (.ptr r i (off+n.toNat*esz)) R
   |false=>match T.get e with
    |some ⟨.int k,_,_,_,_,_⟩=>cand (bV esz 1) (K (.pa r i off len (some k) n.toNat) R)
    |some ⟨.bool,_,_,_,_,_⟩=>cand (bV esz 1) (K (.pa r i off len none n.toNat) R)
    |_=>K (.ptr r i (off+n.toNat*esz)) R
  |.iptr sz es i off=>K (.iptr sz es i (off+n.toNat*esz)) R
  |_=>False
 |_=>False
def bnd(x:Option Operand)(ev:Operand->D)(n:Int):Option Int:=match x with|none=>some n|some y=>match ev y with|.int _ m=>some m|_=>none
def Qpc(T:Tab)(t:TypeId)(x:D)(lo hi:Option Operand)(ev:Operand->D)(R:Rows)(K:D->Rows->Prop):Prop:=
 match T.get t with
 |some ⟨.string,_,_,_,_,_⟩=>match x with
  |.str s=>match bnd lo ev 0,bnd hi ev s.length with
   |some l,some h=>cand (decide (0<=l/\l<=h/\h<=s.length)) (K (.str ((s.drop l.toNat).take (h.toNat-l.toNat))) R)
   |_,_=>False
  |_=>False
 |some ⟨.slice _ esz,_,_,_,_,_⟩=>match x with
  |.sl sz es fr=>match bnd lo ev 0,bnd hi ev es.len with
   |some l,some h=>cand (bV sz esz&&bK 0 esz&&decide (0<=l/\l<=h/\h<=es.len)) (K (.sl sz ((es.drop l.toNat).take (h.toNat-l.toNat)) fr) R)
   |_,_=>False
  |.all r=>match R.getD r none with
   |some ⟨_,_,sz,es⟩=>match bnd lo ev 0,bnd hi ev es.len with
    |some l,some h=>cand (bV sz esz&&bK 0 esz&&decide (0<=l/\l<=h/\h<=es.len)) (K (.own r l.toNat (h.toNat-l.toNat)) R)
    |_,_=>False
   |none=>False
  |.own r o n=>match R.getD r none with
   |some ⟨_,_,sz,_⟩=>match bnd lo ev 0,bnd hi ev n with
    |some l,some h=>cand (bV sz esz&&bK 0 esz&&decide (0<=l/\l<=h/\h<=n)) (K (.own r (o+l.toNat) (h.toNat-l.toNat)) R)
    |_,_=>False
   |none=>False
  |_=>False
 |some ⟨.array len e esz,_,_,_,_,_⟩=>match x,lo,hi with
  |.iptr sz es i off,none,none=>match T.get e with
   |some ⟨.int k,_,_,_,_,_⟩=>cand (bV esz 1&&(gK (off+len) sz&&Qia k (es.get i) off len)) (K (.sl 1 (.ints k (ints (es.get i) off len)) false) R)
   |_=>False
  |_,_,_=>False
 |_=>False
def makeVC(T:Tab)(t:TypeId)(n m:Int)(R:Rows)(K:D->Rows->Prop):Prop:=
 match T.get t with
 |some ⟨.slice e _,_,_,_,_,_⟩=>match T.get e with
  |some ⟨_,sz,by',_,some z,_⟩=>cand (bK 0 sz&&bV z.length sz&&z.all D.plain&&decide (0<=n/\n<=m/\m<=9223372036854775807/\(by':Int)*m<=140737488355328))
   (addR R ⟨false,e,sz,Els.repT e n.toNat z⟩ λk R=>K (.all k) R)
  |_=>False
 |_=>False
def lenVC(T:Tab)(t:TypeId)(x:D)(R:Rows)(K:D->Rows->Prop):Prop:=
 match T.get t with
 |some ⟨.string,_,_,_,_,_⟩=>match x with
  |.str s=>K (.int .i64 s.length) R
  |_=>False
 |some ⟨.slice _ _,_,_,_,_,_⟩=>match x with
  |.sl _ es _=>K (.int .i64 es.len) R
  |.own _ _ n=>K (.int .i64 n) R
  |.all r=>match R.getD r none with
   |some ⟨_,_,_,es⟩=>K (.int .i64 es.len) R
   |none=>False
  |.nils=>K (.int .i64 0) R
  |.emp=>K (.int .i64 0) R
  |_=>False
 |_=>False
def Qpp(T:Tab)(t:TypeId)(parts:List (Nat×Operand))(ev:Operand->D)(R:Rows)(K:D->Rows->Prop):Prop:=
 match T.get t with
 |some ⟨.struct fs,_,_,_,some ds,_⟩=>cand (fs.all λf=>bK 0 f.2.2)<|Qog (λi=>(fs[i]?).map λf=>(f.1,f.2.2)) ev parts ds λcs=>K (.agg cs) R
 |some ⟨.array _ _ esz,_,_,_,some ds,_⟩=>cand (bK 0 esz)<|Qog (λi=>some (i*esz,esz)) ev parts ds λcs=>K (.agg cs) R
 |_=>False
def Qgf(T:Tab)(t:TypeId)(len:Nat)(parts:List (Nat×Operand))(ev:Operand->D)(R:Rows)(K:D->Rows->Prop):Prop:=
 match T.get t with
 |some ⟨.slice e _,_,_,_,_,_⟩=>match T.get e with
  |some ⟨_,sz,_,_,some z,_⟩=>cand (bK 0 sz&&bV z.length sz&&gK (len*sz) 16777216&&z.all D.plain)<|
   Qop sz len ev parts (gA len z) λes=>match len with|0=>K .emp R|_+1=>K (.sl sz (Els.ofT e es) true) R
  |_=>False
 |_=>False
def Zad(t:TypeId)(len:Nat):Bool:=(gK 2 len&&rowLits.any λq=>bV q t)||(gK 1 len&&rowLits1.any λq=>bV q t)
def Qqo(T:Tab)(t:TypeId)(len:Nat)(parts:List (Nat×Operand))(ev:Operand->D)(R:Rows)(K:D->Rows->Prop):Prop:=
 match T.get t with
 |some ⟨.slice e _,_,_,_,_,_⟩=>match T.get e with
  |some ⟨_,sz,_,_,some z,_⟩=>cand (bK 0 sz&&bV z.length sz&&gK (len*sz) 16777216&&z.all D.plain)<|
   Qop sz len ev parts (gA len z) λes=>addR R ⟨false,e,sz,Els.ofT e es⟩ λk R=>K (.all k) R
  |_=>False
 |_=>False
def litVC(T:Tab)(t:TypeId)(len:Nat)(parts:List (Nat×Operand))(ev:Operand->D)(R:Rows)(K:D->Rows->Prop):Prop:=
 Qqx (Zad t len) (Qqo T t len parts ev R K) (Qgf T t len parts ev R K)
def ptrOf:Cap->Option (Nat×Nat×Nat)|.ptr r i off=>some (r,i,off)|_=>none
def Z3k:List Cap->Option (List (Nat×Nat×Nat))
 |[]=>some []
 |x::l=>match ptrOf x,Z3k l with|some p,some ps=>some (p::ps)|_,_=>none
def capOf:D->Option Cap
 |.ptr r i off=>some (.ptr r i off)
 |.int k n=>some (.int k n)
 |.all r=>some (.arr r)
 |.sl a b fr=>some (.sl a b fr)
 |.clo f cs=>match Z3k cs with|some ps=>some (.fn f ps)|none=>none
 |_=>none
def Z0u:List D->Option (List Cap)
 |[]=>some []
 |d::l=>match capOf d,Z0u l with|some x,some xs=>some (x::xs)|_,_=>none
def opVC(T:Tab)(o:Op)(ev:Operand->D)(R:Rows)(K:D->Rows->Prop):Prop:=
 match o with
 |.move x|.assign x=>(ev x).force λd=>K d R
 |.alloc t=>match T.get t with
  |some ⟨_,sz,_,_,some ds,_⟩=>cand (bK 0 sz&&bV ds.length sz) (addR R ⟨true,t,sz,.gen [ds]⟩ λk R=>K (.ptr k 0 0) R)
  |_=>False
 |.box t x=>match T.get t with
  |some ⟨_,sz,_,_,_,_⟩=>cand (bK 0 sz&&(ev x).isVal&&bV (ev x).cells.length sz) (D.forceL (ev x).cells λcs=>addR R ⟨true,t,sz,.gen [cs]⟩ λk R=>K (.ptr k 0 0) R)
  |none=>False
 |.build t parts=>Qpp T t parts.toList ev R K
 |.buildSlice t len parts=>litVC T t len parts.toList ev R K
 |.load t a=>Qfi T t (ev a) R K
 |.store t a x=>Qjx T t (ev a) (ev x) R K
 |.nilCheck x=>match ev x with
  |.ptr a b c=>K (.ptr a b c) R
  |.iptr a b c d=>K (.iptr a b c d) R
  |_=>False
 |.binOp op t x y _=>binVC T op t (ev x) (ev y) λd=>K d R
 |.unOp op _ x=>match op,ev x with
  |.neg,.int k n=>K (.int k (k.wrap (0-n))) R
  |.xor,.int k n=>K (.int k (ixor k (if k.signed then-1 else k.max) n)) R
  |.not,.bool b=>K (.bool (!b)) R
  |_,_=>False
 |.convert s d x=>Qzc T s d (ev x) λv=>K v R
 |.fieldAddr s x f=>match Qor T s f with
  |some (o,_,n)=>cand (bK 0 n)<|match ev x with
   |.ptr r i off=>K (.ptr r i (off+o)) R
   |.iptr sz es i off=>K (.iptr sz es i (off+o)) R
   |_=>False
  |none=>False
 |.field s x f=>match Qor T s f with
  |some (o,t,n)=>match ev x,T.get t with
   |.agg cs,some ti=>cand (bK 0 n&&gK (o+n) cs.length)<|match ti.kind.isAgg with
    |true=>D.forceL ((cs.drop o).take n) λl=>K (.agg l) R
    |false=>cand (cs.getD o .dead).isCell ((cs.getD o .dead).force λd=>K d R)
   |_,_=>False
  |none=>False
 |.indexAddr t x ix=>match ev ix with
  |.int _ n=>Qon T t (ev x) (match ix with|.const _=>true|_=>false) n R K
  |_=>False
 |.index t x ix=>match T.get t,ev x,ev ix with
  |some ⟨.string,_,_,_,_,_⟩,.str s,.int _ n=>cand (decide (0<=n/\n<s.length)) (K (.int .u8 ((s.getD n.toNat 0).toNat:Int)) R)
  |some ⟨.array len e esz,_,_,_,_,_⟩,.agg cs,.int _ n=>cand (bV esz 1&&(bV cs.length len&&decide (0<=n/\n<len)))<|match T.get e with
   |some ⟨.int k,_,_,_,_,_⟩=>cand (Qia k cs 0 len) (K (.int k ((ints cs 0 len).getD n.toNat 0)) R)
   |some ⟨.bool,_,_,_,_,_⟩=>cand (Qh4 cs 0 len) (K (.bool ((bools cs 0 len).getD n.toNat false)) R)
   |some ti=>match ti.kind.isAgg with
    |false=>cand (cs.getD n.toNat .dead).isCell ((cs.getD n.toNat .dead).force λd=>K d R)
    |true=>False
   |none=>False
  |_,_,_=>False
 |.extract x i=>match ev x with
  |.tup ds=>cand (ds.getD i .dead).isVal ((ds.getD i .dead).force λd=>K d R)
  |_=>False
 |.slice t x lo hi none=>Qpc T t (ev x) lo hi ev R K
 |.makeSlice t l c=>match ev l,ev c with
  |.int _ n,.int _ m=>makeVC T t n m R K
  |_,_=>False
 |.call {callee:=.builtin .len,args,argTypes}=>match args.toList,argTypes.toList with
  |[x],[t]=>lenVC T t (ev x) R K
  |_,_=>False
 |.makeFunc fn first captured=>match fn with
  |.func f=>cand (bV first.size 0&&bK f YB)<|match Z0u (captured.toList.map ev)with
   |some cs=>K (.clo f cs) R
   |none=>False
  |_=>False
 |_=>False
def pos(r:Nat):List Nat->Nat->Nat
 |[],k=>k
 |x::l,k=>match bV x r with|true=>k|false=>pos r l (k+1)
def memB(r:Nat):List Nat->Bool
 |[]=>false
 |x::l=>match bV x r with|true=>true|false=>memB r l
def subB:List Nat->List Nat->Bool
 |[],_=>true
 |x::l,m=>match memB x m with|true=>subB l m|false=>false
def disB:List Nat->List Nat->Bool
 |[],_=>true
 |x::l,m=>match memB x m with|true=>false|false=>disB l m
def addB:List Nat->List Nat->List Nat
 |ids,[]=>ids
 |ids,x::l=>match memB x ids with|true=>addB ids l|false=>addB (ids++[x]) l
def Qlr:List Nat->Bool
 |[]=>true
 |x::l=>match memB x l with|true=>false|false=>Qlr l
def capL1:Cap->List Nat|.ptr r _ _=>[r]|.arr r=>[r]|.fn _ ps=>ps.map (·.1)|_=>[]
def capL:List Cap->List Nat
 |[]=>[]
 |x::l=>capL1 x++capL l
def Cap.ren(f:Nat->Nat)(keep:Bool):Cap->Cap
 |.ptr r i off=>.ptr (f r) i off
 |.int k n=>.int k n
 |.arr r=>.arr (f r)
 |.sl a b fr=>.sl a b (fr&&keep)
 |.fn g ps=>.fn g (ps.map λp=>(f p.1,p.2))
def Q6i:D->List Nat|.clo _ cs=>capL cs|.selfp r=>[r]|.all r=>[r]|.own r _ _=>[r]|.ptr r _ _=>[r]|.pa r _ _ _ _ _=>[r]|_=>[]
def Q9y:List D->List Nat
 |[]=>[]
 |d::l=>Q6i d++Q9y l
def Z1q:D->List Nat|.agg cs=>Q9y cs|d=>Q6i d
def D.kill1(ks:List Nat):D->D
 |.all r=>match memB r ks with|true=>.dead|false=>.all r
 |.own r o n=>match memB r ks with|true=>.dead|false=>.own r o n
 |.ptr r i off=>match memB r ks with|true=>.dead|false=>.ptr r i off
 |.pa r i off l k n=>match memB r ks with|true=>.dead|false=>.pa r i off l k n
 |.selfp r=>match memB r ks with|true=>.dead|false=>.selfp r
 |.clo f cs=>match disB (capL cs) ks with|true=>.clo f cs|false=>.dead
 |d=>d
def D.kills(ks:List Nat):List D->List D
 |[]=>[]
 |d::l=>d.kill1 ks::kills ks l
def D.kill(ks:List Nat):D->D
 |.agg cs=>.agg (D.kills ks cs)
 |d=>d.kill1 ks
def D.killT(ks:List Nat):List D->List D
 |[]=>[]
 |d::l=>d.kill ks::killT ks l
def D.killV(ks:List Nat):D->D
 |.tup ds=>.tup (D.killT ks ds)
 |d=>d.kill ks
def Row.kill(ks:List Nat):Row->Row
 |⟨true,ty,sz,.gen [e]⟩=>⟨true,ty,sz,.gen [D.kills ks e]⟩
 |r=>r
def Qip(ks:List Nat):Rows->Nat->Rows
 |[],_=>[]
 |x::l,i=>(match memB i ks with|true=>none|false=>match x with|some row=>some (row.kill ks)|none=>none)::Qip ks l (i+1)
def Z5e(ks:List Nat):List (Nat×D)->(List (Nat×D)->Prop)->Prop
 |[],K=>K []
 |(t,d)::l,K=>(d.killV ks).force λd=>Z5e ks l λl=>K ((t,d)::l)
def Q6z(s:List UInt8):List Int:=s.map λb=>(b.toNat:Int)
def bytesOf(l:List Int):List UInt8:=l.map λn=>UInt8.ofNat n.toNat
def srcOf(R:Rows):D->Option (Nat×Els)
 |.nils=>some (0,.gen [])
 |.emp=>some (0,.gen [])
 |.sl sz es _=>some (sz,es)
 |.all r=>match R.getD r none with|some ⟨false,_,sz,es⟩=>some (sz,es)|_=>none
 |.own r o n=>match R.getD r none with|some ⟨false,_,sz,es⟩=>some (sz,(es.drop o).take n)|_=>none
 |_=>none
def srcT(R:Rows)(ke kx:TK)(y:D):Option (Nat×Els):=
 match kx with
 |.slice _ _=>srcOf R y
 |.string=>match ke,y with
  |.int .u8,.str s=>some (1,.ints .u8 (Q6z s))
  |_,_=>none
 |_=>none
def Z87:Els->Bool|.gen []=>true|_=>false
def Qtw(e sz by':Nat)(R:Rows)(ks:List Nat)(es ys:Els)(K:List Nat->D->Rows->Prop):Prop:=
 cand (decide (by'*(es.len+ys.len)<=140737488355328))<|Qcs (Qip ks R 0++[some ⟨false,e,sz,es.app ys⟩]) λR'=>K ks (.all R.length) R'
def Zc (T:Tab)(M:Nat)(t tx:TypeId)(x y:D)(R:Rows)(K:List Nat->D->Rows->Prop):Prop:=
  match T.get t with
  | some ⟨.slice e esz,_,_,_,_,_⟩=>match T.get e,T.get tx with
    | some ⟨ke,sz,by',_,some z,_⟩,some ⟨kx,_,_,_,_,_⟩=>match srcT R ke kx y with
      | some (sy,ys)=>cand ((bK 0 sz&&bV esz sz)&&(bV z.length sz&&z.all D.plain)&&(bK 0 by'&&(bV sy sz||Z87 ys)))<|
        match x with
        | .nils=>Qtw e sz by' R [] (.gen []) ys K
        | .emp=>Qtw e sz by' R [] (.gen []) ys K
        | .all r=>match R.getD r none with
          |some ⟨false,ty,s,es⟩=>cand ((bV s sz&&bV ty e)&&gK M r) (Qtw e sz by' R [r] es ys K)
          |_=>False
        | .own r o n=>match R.getD r none with
          |some ⟨false,ty,s,es⟩=>cand ((bV s sz&&bV ty e)&&(gK M r&&bV o 0)) (Qtw e sz by' R [r] (es.take n) ys K)
          |_=>False
        |_=>False
      |none=>False
    |_,_=>False
  |_=>False
def copyVC(T:Tab)(t tx:TypeId)(x y:D)(R:Rows)(K:D->Rows->Prop):Prop:=
 match T.get t with
 |some ⟨.slice e esz,_,_,_,_,_⟩=>match T.get e,T.get tx with
  |some ⟨ke,sz,_,_,_,_⟩,some ⟨kx,_,_,_,_,_⟩=>match srcT R ke kx y with
   |some (sy,ys)=>cand ((bK 0 sz&&bV esz sz)&&(bV sy sz||Z87 ys))<|
    match x with
    |.all r=>match R.getD r none with
     |some ⟨false,ty,s,es⟩=>cand (bV s sz)<|Qcs (R.set r (some ⟨false,ty,s,(ys.take (min ys.len es.len)).app (es.drop (min ys.len es.len))⟩)) λR'=>K (.int .i64 (min ys.len es.len:Nat)) R'
     |_=>False
    |.own r o n=>match R.getD r none with
     |some ⟨false,ty,s,es⟩=>cand (bV s sz)<|Qcs (R.set r (some ⟨false,ty,s,((es.take o).app (ys.take (min ys.len n))).app (es.drop (o+min ys.len n))⟩)) λR'=>K (.int .i64 (min ys.len n:Nat)) R'
     |_=>False
    |_=>False
   |none=>False
  |_,_=>False
 |_=>False
inductive Ans where
 |no
 |ok (res:D) (rows:List Row)
 |when (p:Prop) (res:D) (rows:List Row)
 |abs (α:Type) (v:α) (res:α->D) (rows:α->List Row)
 |absW (p:Prop) (α:Type) (v:α) (res:α->D) (rows:α->List Row)
structure Q09 where
 f:FuncId
 refs:List Bool
 flat:Bool
 m:List D->List Row->Ans
 gone:Option Nat
 frz:Bool
def Qf0:List Q09->FuncId->Option Q09
 |[],_=>none
 |x::l,f=>match bV x.f f with|true=>some x|false=>Qf0 l f
def Z2j(R:Rows):D->Option D
 |.bool b=>some (.bool b)
 |.int k n=>some (.int k n)
 |.str s=>some (.str s)
 |.nilp=>some .nilp
 |.nilif=>some .nilif
 |.nils=>some (.sl 0 (.gen []) false)
 |.emp=>some (.sl 0 (.gen []) false)
 |.sl a b _=>some (.sl a b false)
 |.all r=>match R.getD r none with|some row=>(match row.box with|false=>some (.sl row.sz row.es false)|true=>none)|none=>none
 |.own r o n=>match R.getD r none with|some row=>(match row.box with|false=>some (.sl row.sz ((row.es.drop o).take n) false)|true=>none)|none=>none
 |_=>none
def Z7w(R:Rows):List D->Option (List D)
 |[]=>some []
 |d::ds=>match Z2j R d,Z7w R ds with|some x,some xs=>some (x::xs)|_,_=>none
def conv(R:Rows):D->Option D
 |.agg cs=>(Z7w R cs).map .agg
 |d=>Z2j R d
def D.ren1(f:Nat->Nat)(keep:Bool):D->D
 |.all r=>.all (f r)
 |.own r o n=>.own (f r) o n
 |.ptr r i off=>.ptr (f r) i off
 |.pa r i off l k n=>.pa (f r) i off l k n
 |.sl a b fr=>.sl a b (fr&&keep)
 |.clo g cs=>.clo g (cs.map (Cap.ren f keep))
 |.selfp r=>.selfp (f r)
 |d=>d
def D.rens(f:Nat->Nat)(keep:Bool):List D->List D
 |[]=>[]
 |d::l=>d.ren1 f keep::rens f keep l
def D.ren(f:Nat->Nat)(keep:Bool):D->D
 |.agg cs=>.agg (D.rens f keep cs)
 |d=>d.ren1 f keep
def D.renT(f:Nat->Nat)(keep:Bool):List D->List D
 |[]=>[]
 |d::l=>d.ren f keep::renT f keep l
def D.renV(f:Nat->Nat)(keep:Bool):D->D
 |.tup ds=>.tup (D.renT f keep ds)
 |d=>d.ren f keep
def Row.ren(f:Nat->Nat)(keep:Bool):Row->Row
 |⟨true,ty,sz,.gen [e]⟩=>⟨true,ty,sz,.gen [D.rens f keep e]⟩
 |r=>r
def Qe(R:Rows):List Nat->List Nat
 |[]=>[]
 |r::l=>(match R.getD r none with|some ⟨true,_,_,.gen [e]⟩=>Q9y e|_=>[])++Qe R l
def Qj1:List Bool->List D->List Nat
 |true::bs,d::ds=>Z1q d++Qj1 bs ds
 |false::bs,_::ds=>Qj1 bs ds
 |_,_=>[]
def Q3x:List Bool->List D->List Nat
 |true::bs,_::ds=>Q3x bs ds
 |false::bs,d::ds=>Z1q d++Q3x bs ds
 |[],d::ds=>Z1q d++Q3x [] ds
 |_,[]=>[]
def Qas(R:Rows)(bs:List Bool)(args:List D):List Nat:=
 let a:=addB [] (Qj1 bs args)
 let b:=addB a (Qe R a)
 addB b (Qe R b)
def Qif(R:Rows)(f:Nat->Nat):List Nat->Option (List Row)
 |[]=>some []
 |r::l=>match R.getD r none,Qif R f l with
  |some row,some rs=>some (row.ren f false::rs)
  |_,_=>none
def Qj9(R:Rows)(f:Nat->Nat):List Bool->List D->Option (List D)
 |true::bs,d::ds=>match d.isVal,Qj9 R f bs ds with|true,some xs=>some (d.ren f false::xs)|_,_=>none
 |false::bs,d::ds=>match conv R d,Qj9 R f bs ds with|some x,some xs=>some (x::xs)|_,_=>none
 |[],d::ds=>match conv R d,Qj9 R f [] ds with|some x,some xs=>some (x::xs)|_,_=>none
 |_,[]=>some []
def bk(ids:List Nat)(n0 i:Nat):Nat:=match ids[i]? with|some r=>r|none=>n0+(i-ids.length)
def Q8o(f:Nat->Nat):List Nat->List Row->Rows->Rows
 |r::ids,row::rows,R=>Q8o f ids rows (R.set r (some (row.ren f true)))
 |_,_,R=>R
def Qcj(f:Nat->Nat)(rows:List Row):Rows:=rows.map λrow=>some (row.ren f true)
inductive Ex where
 |normal|exit (id:Nat)|ret
def St.put(N:Nat)(st:St)(dst:Option Tmp)(d:D)(R:Rows)(K:St->Prop):Prop:=
 match dst with
 |none=>K ⟨st.env,R⟩
 |some t=>cand (bK t N) (K ⟨(t,d)::st.env,R⟩)
def St.know(st:St)(c:Operand)(b:Bool):St:=
 match c with
 |.tmp t=>⟨(t,.bool b)::st.env,st.rows⟩
 |_=>st
def Qxv(R:Rows)(ids:List Nat)(res:D)(rows':List Row)(K:D->Rows->Prop):Prop:=
 cand (gK ids.length rows'.length)<|(res.renV (bk ids R.length) true).force λres=>
  Qcs (Q8o (bk ids R.length) ids rows' R++Qcj (bk ids R.length) (rows'.drop ids.length)) λR=>K res R
def callG(G:List Q09)(f:FuncId)(args:List D)(R:Rows)(K:D->Rows->Prop):Prop:=
 match Qf0 G f with
 |some x=>
  match Qj9 R (λr=>pos r (Qas R x.refs args) 0) x.refs args,Qif R (λr=>pos r (Qas R x.refs args) 0) (Qas R x.refs args)with
  |some az,some rows=>
   cand ((x.flat&&(match Qas R x.refs args with|[]=>true|_=>false)||(match Q3x x.refs args with|[]=>true|_=>false))&&
    (subB (Qj1 x.refs args) (Qas R x.refs args)&&subB (Qe R (Qas R x.refs args)) (Qas R x.refs args))&&
    (Qlr (Qas R x.refs args)&&disB (Q3x x.refs args) (Qas R x.refs args)))<|
   match x.m az rows with
   |.ok res rows'=>Qxv R (Qas R x.refs args) res rows' K
   |.when p res rows'=>p/\Qxv R (Qas R x.refs args) res rows' K
   |.abs _ v res rows'=>∀X,X=v->Qxv R (Qas R x.refs args) (res X) (rows' X) K
   |.absW p _ v res rows'=>p/\∀X,X=v->Qxv R (Qas R x.refs args) (res X) (rows' X) K
   |.no=>False
  |_,_=>False
 |none=>False
def Q8t(G:List Q09)(f:FuncId):Option Nat:=match Qf0 G f with|some x=>x.gone|none=>none
def Qdh(f:Nat->Nat):List Nat->List Row->Rows->Rows
 |r::ids,row::rows,R=>Qdh f ids rows (R.set r (some (row.ren f false)))
 |_,_,R=>R
def Qn(f:Nat->Nat)(rows:List Row):Rows:=rows.map λrow=>some (row.ren f false)
def Z6h(R:Rows)(kid gid:List Nat)(res:D)(rows':List Row)(K:List Nat->D->Rows->Prop):Prop:=
 cand (gK kid.length rows'.length)<|(res.renV (bk kid R.length) false).force λres=>
  Qcs (Qdh (bk kid R.length) kid rows' (Qip gid R 0)++Qn (bk kid R.length) (rows'.drop kid.length)) λR=>K gid res R
def Z7x(G:List Q09)(M:Nat)(f:FuncId)(k:Nat)(args:List D)(R:Rows)(K:List Nat->D->Rows->Prop):Prop:=
 match Qf0 G f with
 |some x=>
  match Qj9 R (λr=>pos r (Qas R x.refs args) 0) x.refs args,Qif R (λr=>pos r (Qas R x.refs args) 0) (Qas R x.refs args)with
  |some az,some rows=>
   cand (((match Q3x x.refs args with|[]=>true|_=>false)&&(match x.refs with|[]=>false|_=>true))&&
    (subB (Qj1 x.refs args) (Qas R x.refs args)&&subB (Qe R (Qas R x.refs args)) (Qas R x.refs args))&&
    (Qlr (Qas R x.refs args)&&((Qas R x.refs args).drop k).all λr=>gK M r))<|
   match x.m az rows with
   |.abs _ v res rows'=>∀X,X=v->Z6h R ((Qas R x.refs args).take k) ((Qas R x.refs args).drop k) (res X) (rows' X) K
   |.absW p _ v res rows'=>p/\∀X,X=v->Z6h R ((Qas R x.refs args).take k) ((Qas R x.refs args).drop k) (res X) (rows' X) K
   |_=>False
  |_,_=>False
 |none=>False
def Qx4(G:List Q09)(f:FuncId):Bool:=match Qf0 G f with|some x=>x.frz|none=>false
def callF(G:List Q09)(M:Nat)(f:FuncId)(args:List D)(R:Rows)(K:List Nat->D->Rows->Prop):Prop:=
 match Qf0 G f with
 |some x=>
  match Qj9 R (λr=>r) [] args,Qif R (λr=>pos r (addB [] (Q3x [] args)) 0) (addB [] (Q3x [] args))with
  |some az,some rows=>
   cand (((match x.refs with|[]=>true|_=>false)&&rows.all λr=>!r.box)&&(Qlr (addB [] (Q3x [] args))&&(subB (Q3x [] args) (addB [] (Q3x [] args))&&(addB [] (Q3x [] args)).all λr=>gK M r)))<|
   match x.m az []with
   |.abs _ v res rows'=>∀X,X=v->Z6h R [] (addB [] (Q3x [] args)) (res X) (rows' X) K
   |.absW p _ v res rows'=>p/\∀X,X=v->Z6h R [] (addB [] (Q3x [] args)) (res X) (rows' X) K
   |_=>False
  |_,_=>False
 |none=>False
def Z5s:D->Bool|.clo _ _=>false|.selfp _=>false|.all _=>false|.own _ _ _=>false|.ptr _ _ _=>false|.pa _ _ _ _ _ _=>false|_=>true
def Z9g:List D->Bool
 |[]=>true
 |d::l=>match Z5s d with|true=>Z9g l|false=>false
def noRef:D->Bool|.agg cs=>Z9g cs|d=>Z5s d
def Z8j:List D->Bool
 |[]=>true
 |d::l=>match noRef d with|true=>Z8j l|false=>false
def noRefV:D->Bool|.tup ds=>Z8j ds|d=>noRef d
def Qz2(R:Rows)(res:D)(rows':List Row)(K:D->Rows->Prop):Prop:=
 match rows' with
 |[]=>cand (noRefV res) (res.force λres=>K res R)
 |_=>(res.renV (bk [] R.length) true).force λres=>Qcs (R++Qcj (bk [] R.length) rows') λR=>K res R
def isNilN:List Nat->Bool|[]=>true|_=>false
def Z00(G:List Q09)(f:FuncId)(args:List D)(R:Rows)(K:D->Rows->Prop):Prop:=
 match Qf0 G f with
 |some x=>match x.refs with
  |[]=>match Qj9 R (λr=>r) [] args with
   |some az=>cand (x.flat||isNilN (Q3x [] args))<|match x.m az []with
    |.ok res rows'=>Qz2 R res rows' K
    |.when p res rows'=>p/\Qz2 R res rows' K
    |.abs _ v res rows'=>∀X,X=v->Qz2 R (res X) (rows' X) K
    |.absW p _ v res rows'=>p/\∀X,X=v->Qz2 R (res X) (rows' X) K
    |.no=>False
   |none=>False
  |_=>callG G f args R K
 |none=>False
def strVC(T:Tab)(e d:TypeId)(x:D)(R:Rows)(K:D->Prop):Prop:=
 match T.get e,T.get d with
 |some ⟨.int .u8,_,_,_,_,_⟩,some ⟨.string,_,_,_,_,_⟩=>match srcOf R x with
  |some (s,es)=>match es.toI .u8 with
   |some l=>cand (bV s 1||Z87 es) (K (.str (bytesOf l)))
   |none=>False
  |none=>False
 |_,_=>False
def Els.Nil:Els->Prop
 |.gen es=>es=[]
 |.ints _ l=>l=[]
 |.bools l=>l=[]
 |.recs _ l=>l=[]
def Zb6(T:Tab)(t:TypeId)(es:Els)(K:D->Prop):Prop:=
 match T.get t with
 |some ⟨.slice _ _,_,_,_,_,_⟩=>K (.nilq es)
 |_=>False
def minVC(mx:Bool)(x y:D)(K:D->Prop):Prop:=
 match x,y with
 |.int k a,.int k' b=>cand (decide (k=k')) (K (.int k (match mx with|true=>(if b>a then b else a)|false=>(if b<a then b else a))))
 |_,_=>False
def doVC(T:Tab)(G:List Q09)(N M:Nat)(o:Oper)(st:St)(K:St->Prop):Prop:=
  match o.op with
  | .pick c a b=>match evOp st.env c with
    | .bool t=>Qqx t ((evOp st.env a).force λd=>st.put N o.dst d st.rows K) ((evOp st.env b).force λd=>st.put N o.dst d st.rows K)
    |_=>False
  | .call {callee:= .value (.func f),args, .. }=>match Q8t G f with
    | none=>match Qx4 G f with
      |false=>Z00 G f (args.toList.map (evOp st.env)) st.rows λd R=>st.put N o.dst d R K
      |true=>callF G M f (args.toList.map (evOp st.env)) st.rows λks d R=>Z5e ks st.env λenv=>St.put N ⟨env,R⟩ o.dst d R K
    |some k=>cand (bK f YB)<|Z7x G M f k (args.toList.map (evOp st.env)) st.rows λks d R=>Z5e ks st.env λenv=>St.put N ⟨env,R⟩ o.dst d R K
  | .call {callee:= .value (.tmp t),args, .. }=>match look st.env t with
    | .clo f cs=>match Q8t G f with
      | none=>match Qx4 G f with
        |false=>Z00 G f (args.toList.map (evOp st.env)++cs.map Cap.d) st.rows λd R=>st.put N o.dst d R K
        |true=>False
      |some k=>cand (bK f YB||bV args.size 1)<|Z7x G M f k (args.toList.map (evOp st.env)++cs.map Cap.d) st.rows λks d R=>Z5e ks st.env λenv=>St.put N ⟨env,R⟩ o.dst d R K
    |_=>False
  | .call {callee:= .builtin .append,args,argTypes}=>match args.toList,argTypes.toList with
    |[x,y],[t,tx]=>Zc T M t tx (evOp st.env x) (evOp st.env y) st.rows λks d R=>Z5e ks st.env λenv=>St.put N ⟨env,R⟩ o.dst d R K
    |_,_=>False
  | .call {callee:= .builtin .copy,args,argTypes}=>match args.toList,argTypes.toList with
    |[x,y],[t,tx]=>copyVC T t tx (evOp st.env x) (evOp st.env y) st.rows λd R=>st.put N o.dst d R K
    |_,_=>False
  | .call {callee:= .builtin .min,args, .. }=>match args.toList with
    |[x,y]=>minVC false (evOp st.env x) (evOp st.env y) λd=>st.put N o.dst d st.rows K
    |_=>False
  | .call {callee:= .builtin .max,args, .. }=>match args.toList with
    |[x,y]=>minVC true (evOp st.env x) (evOp st.env y) λd=>st.put N o.dst d st.rows K
    |_=>False
  | .convert s d x=>match T.get s with
    |some ⟨.slice e _,_,_,_,_,_⟩=>strVC T e d (evOp st.env x) st.rows λd=>st.put N o.dst d st.rows K
    |_=>opVC T (.convert s d x) (evOp st.env) st.rows λd R=>st.put N o.dst d R K
  | .binOp op t x y ty=>match op,evOp st.env x,evOp st.env y with
    | .eql, .sl _ es _, .nils=>Zb6 T t es λd=>st.put N o.dst d st.rows K
    | .eql, .all r, .nils=>match st.rows.getD r none with
      |some ⟨_,_,_,es⟩=>Zb6 T t es λd=>st.put N o.dst d st.rows K
      |none=>False
    |_,_,_=>opVC T (.binOp op t x y ty) (evOp st.env) st.rows λd R=>st.put N o.dst d R K
  |op=>opVC T op (evOp st.env) st.rows λd R=>st.put N o.dst d R K
def Qa1(T:Tab)(G:List Q09)(N M:Nat)(ops:Array Oper):List Oper->St->(St->Prop)->Prop
  |[],st,K=>K st
  | o :: l, st,K=>match o.guard with
    |none=>doVC T G N M o st λst=>Qa1 T G N M ops l st K
    | some (j,want)=>match(ops[j]?).bind (·.dst) with
      | some g=>match look st.env g with
        | .bool b=>Qqx b
            (match want with|true=>doVC T G N M o (st.know (.tmp g) true) λst=>Qa1 T G N M ops l st K|false=>(st.know (.tmp g) true).put N o.dst (.tup []) st.rows λst=>Qa1 T G N M ops l st K)
            (match want with|false=>doVC T G N M o (st.know (.tmp g) false) λst=>Qa1 T G N M ops l st K|true=>(st.know (.tmp g) false).put N o.dst (.tup []) st.rows λst=>Qa1 T G N M ops l st K)
        | .tup []=>st.put N o.dst (.tup []) st.rows λst=>Qa1 T G N M ops l st K
        |_=>False
      |none=>False
def isW(G:List Q09):Op->Bool
 |.store _ _ _=>true
 |.call {callee:=.value (.func f),.. }=>match Qf0 G f with|some x=>(match x.refs with|[]=>x.frz|_=>true)|none=>true
 |.call {callee:=.value (.tmp _),.. }=>true
 |.call {callee:=.builtin .append,.. }=>true
 |.call {callee:=.builtin .copy,.. }=>true
 |_=>false
def Q27(G:List Q09)(o:Op):Bool:=!isW G o
def pairOK(G:List Q09)(ops:Array Oper)(b:Array Nat)(i j:Nat):Bool:=
 match ops[i]?,ops[j]? with
 |some x,some y=>
  (x.apart ops y||(b.getD j 0).testBit i)&&((Q27 G x.op&&Q27 G y.op)||(b.getD j 0).testBit i)
 |_,_=>true
def Qtz(G:List Q09)(ops:Array Oper):Bool:=
 let b:=Region.before ops
 (hY ops.size).all λj=>(match ops[j]? with|some o=>o.after.all λe=>!Region.binds .any e||bK e.on j|none=>true)&&(hY j).all λi=>pairOK G ops b i j
def Q89(ops:Array Oper)(i a:Nat):Bool:=(ops.toList.drop i).all λo=>match o.dst with|some d=>!(bV d a)|none=>true
def Q45:List Operand->List Nat
 |[]=>[]
 |.tmp a::l=>a::Q45 l
 |_::l=>Q45 l
def Q64:Op->Option (List Nat)
 |.assign x=>some (Q45 [x])
 |.move x=>some (Q45 [x])
 |.extract x _=>some (Q45 [x])
 |.nilCheck x=>some (Q45 [x])
 |.fieldAddr _ x _=>some (Q45 [x])
 |.buildSlice t len parts=>(match Zad t len with|true=>none|false=>some (Q45 (parts.toList.map (·.2))))
 |_=>none
def Q8u(env:List (Nat×D))(op:Op):Option (List Nat):=
 match Q64 op with
 |some q=>some q
 |none=>match op with
  |.build _ parts=>some (Q45 (parts.toList.map (·.2)))
  |.binOp _ _ x y _=>match evOp env x with|.int _ _=>some (Q45 [x,y])|.str _=>some (Q45 [x,y])|.bool _=>some (Q45 [x,y])|_=>none
  |.unOp _ _ x=>some (Q45 [x])
  |.convert _ _ x=>match evOp env x with|.int _ _=>some (Q45 [x])|.str _=>some (Q45 [x])|_=>none
  |.field _ x _=>some (Q45 [x])
  |.index _ x y=>some (Q45 [x,y])
  |.slice _ x (some y) (some z) none=>match evOp env x with|.str _=>some (Q45 [x,y,z])|.sl _ _ _=>some (Q45 [x,y,z])|_=>none
  |.slice _ x (some y) none none=>match evOp env x with|.str _=>some (Q45 [x,y])|.sl _ _ _=>some (Q45 [x,y])|_=>none
  |.slice _ x none (some z) none=>match evOp env x with|.str _=>some (Q45 [x,z])|.sl _ _ _=>some (Q45 [x,z])|_=>none
  |.indexAddr _ x y=>match evOp env x with|.sl _ _ _=>some (Q45 [x,y])|_=>none
  |.load _ x=>match evOp env x with|.iptr _ _ _ _=>some (Q45 [x])|_=>none
  |.call {callee:=.builtin .len,args,.. }=>match args.toList with|[x]=>(match evOp env x with|.str _=>some (Q45 [x])|.sl _ _ _=>some (Q45 [x])|_=>none)|_=>none
  |_=>none
def isPtrD:D->Bool|.ptr _ _ _=>true|_=>false
def Qv5:D->Bool|.emp=>true|.nils=>true|_=>false
def Qnx:D->Bool|.int _ _=>true|.str _=>true|.bool _=>true|.sl _ _ _=>true|.emp=>true|.nils=>true|.nilp=>true|_=>false
def Q9n:D->Bool|.all _=>true|.int _ _=>true|.str _=>true|.bool _=>true|.sl _ _ _=>true|.iptr _ _ _ _=>true|.ptr _ _ _=>true|.emp=>true|.nils=>true|.agg cs=>cs.all Qnx|_=>false
def empApp(ops:Array Oper)(env:List (Nat×D))(i j:Nat)(op:Op)(l:List Operand):Bool:=
 match op,l with
 |.load _ (.tmp a),.tmp x::_=>Q89 ops i a&&(Q89 ops j x&&(isPtrD (look env a)&&Qv5 (look env x)))
 |_,_=>false
def datD:D->Bool|.int _ _=>true|.str _=>true|.bool _=>true|.sl _ _ _=>true|.all _=>true|.agg cs=>cs.all Qnx|_=>false
def datApp(ops:Array Oper)(env:List (Nat×D))(i:Nat)(op:Op)(dst:Option Nat):Bool:=
 match op,dst with
 |.load _ (.tmp a),some t=>Q89 ops i a&&(isPtrD (look env a)&&(Q89 ops (i+1) t&&datD (look env t)))
 |_,_=>false
def Zc8(G:List Q09)(ops:Array Oper)(env:List (Nat×D))(i j:Nat):Bool:=
 match ops[i]?,ops[j]? with
 |some x,some y=>(match x.guard,y.guard,x.op,y.op with
  |none,none,.load _ (.tmp a),.store _ (.tmp b) _=>Q89 ops i a&&(Q89 ops j b&&(match look env a,look env b with|.ptr r _ _,.ptr r' _ _=>!(bV r r')|.iptr _ _ _ _,.ptr _ _ _=>true|_,_=>false))
  |none,none,op,.store _ (.tmp b) _=>(match Q8u env op with|some q=>(q.all λa=>Q89 ops i a)&&(Q89 ops j b&&(match look env b with|.ptr _ _ _=>true|_=>false))|none=>false)
  |none,none,op,.call {callee:=.value (.func f),.. }=>(match(match Q8t G f with|some _=>true|none=>Qx4 G f)with|true=>false|false=>match Q8u env op with|some q=>q.all λa=>Q89 ops i a|none=>false)
  |none,none,op,.call {callee:=.builtin .append,args,.. }=>(match Q8u env op with|some q=>(q.all λa=>Q89 ops i a&&Q9n (look env a))&&(match x.dst with|some t=>Q89 ops (i+1) t&&Q9n (look env t)|none=>true)|none=>empApp ops env i j op args.toList||datApp ops env i op x.dst)
  |_,_,_,_=>false)
 |_,_=>false
def allocB(ops:Array Oper)(j:Nat):Bool:=
 match ops[j]? with
 |some y=>match y.guard,y.op with
  |none,.alloc _=>(match y.dst with|none=>true|some u=>(hY ops.size).all λk=>bV k j||(match(ops[k]?).bind (·.dst)with|some d=>!(bV d u)|none=>true))
  |_,_=>false
 |none=>false
def pairOK2(G:List Q09)(ops:Array Oper)(env:List (Nat×D))(b:Array Nat)(i j:Nat):Bool:=
 match ops[i]?,ops[j]? with
 |some x,some y=>
  (x.apart ops y||(b.getD j 0).testBit i)&&((Q27 G x.op&&Q27 G y.op)||(b.getD j 0).testBit i||(Zc8 G ops env i j||allocB ops j))
 |_,_=>true
def Qud(G:List Q09)(ops:Array Oper)(env:List (Nat×D)):Bool:=
 let b:=Region.before ops
 (hY ops.size).all λj=>(match ops[j]? with|some o=>o.after.all λe=>!Region.binds .any e||bK e.on j|none=>true)&&(hY j).all λi=>pairOK2 G ops env b i j
def insAt(x:Nat):List Nat->Nat->List Nat
 |l,0=>x::l
 |[],_=>[x]
 |y::l,n+1=>y::insAt x l n
def lastOf(m:Nat):List Nat->Nat->Nat->Nat
 |[],_,r=>r
 |y::l,k,r=>lastOf m l (k+1) (match m.testBit y with|true=>k+1|false=>r)
def hasEmp:List Oper->Bool
 |[]=>false
 |o::l=>match o.op with|.buildSlice _ 0 _=>true|_=>hasEmp l
def earlyOp(e e2:Bool)(op:Op):Bool:=match Q64 op with|some _=>true|none=>(match op with|.load _ _=>e|.slice _ _ _ _ _=>e2|.binOp _ _ _ _ _=>e2|_=>false)
def permGo(e e2:Bool)(ops:Array Oper)(b:Array Nat):List Nat->List Nat->List Nat
 |[],acc=>acc
 |j ::js,acc=>permGo e e2 ops b js (match ops[j]? with
  |some o=>(match o.guard with
   |none=>(match earlyOp e e2 o.op with|true=>insAt j acc (lastOf (b.getD j 0) acc 0 0)|false=>acc++[j])
   |some _=>acc++[j])
  |none=>acc)
def lateL(ops:Array Oper)(b:Array Nat):Bool:=
 (hY ops.size).any λj=>(match ops[j]? with|some y=>(match y.op with|.load _ _=>true|_=>false)|none=>false)&&(hY j).any λi=>(match ops[i]? with|some x=>(match x.op with|.call {callee:=.builtin .append,.. }=>true|_=>false)|none=>false)&&!((b.getD j 0).testBit i)
def lateS(ops:Array Oper)(b:Array Nat):Bool:=
 (hY ops.size).any λj=>(match ops[j]? with|some y=>(match y.op with|.slice _ _ _ _ _=>true|_=>false)|none=>false)&&(hY j).any λi=>(match ops[i]? with|some x=>(match x.op with|.call {callee:=.builtin .append,.. }=>true|_=>false)|none=>false)&&!((b.getD j 0).testBit i)
def Z8q(ops:Array Oper):List Nat:=permGo (hasEmp ops.toList||lateL ops (Region.before ops)) (lateS ops (Region.before ops)) ops (Region.before ops) (hY ops.size) []
def Z9q(p:List Nat)(n:Nat):Bool:=bV p.length n&&(((hY n).all λi=>memB i p)&&((p.all λi=>bK i n)&&Qlr p))
def remapE(p:List Nat)(e:Edge):Edge:=⟨pos e.on p 0,e.ground⟩
def Z01(p:List Nat)(o:Oper):Oper:=⟨o.dst,o.op,o.type,o.pos,o.after.map (remapE p),match o.guard with|none=>none|some (j,w)=>some (pos j p 0,w)⟩
def Q36(p:List Nat)(ops:Array Oper):Array Oper:=(p.map λi=>Z01 p (ops.getD i default)).toArray
def drawVC(T:Tab)(G:List Q09)(N M:Nat)(ops:Array Oper)(st:St)(Q:Ex->St->Prop):Prop:=
 match Qtz G ops with
 |true=>Qa1 T G N M ops ops.toList st λst=>Q .normal st
 |false=>cand (Z9q (Z8q ops) ops.size)<|Qa1 T G N M (Q36 (Z8q ops) ops) (Q36 (Z8q ops) ops).toList st λst=>cand (Qud G (Q36 (Z8q ops) ops) st.env) (Q .normal st)
def Qr9(i n:Nat):List D->Option (List D)
 |[]=>none
 |d::l=>match d,l with
  |.nilp,.nils::m=>some (.selfp i:: .all n::m)
  |d,l=>match Qr9 i n l with|some l'=>some (d::l')|none=>none
def bldTy(T:Tab)(t:TypeId):Bool:=match T.get t with|some ⟨_,_,_,_,some ds,_⟩=>(match Qr9 0 0 ds with|some _=>true|none=>false)|_=>false
def hasBld(T:Tab):List Oper->Bool
 |[]=>false
 |o::l=>match o.op with|.alloc t=>(match bldTy T t with|true=>true|false=>hasBld T l)|_=>hasBld T l
def u8Of:Tab->Option TypeId
 |[]=>none
 |(u,i)::l=>match i.kind with|.int .u8=>some u|_=>u8Of l
def bldC(T:Tab):Code->Option TypeId
 |.region _ ops _=>(match hasBld T ops.toList with|true=>u8Of T|false=>none)
 |_=>none
def Qmk(n:Nat):Rows->Nat->Option (Nat×TypeId×Nat×List D)
 |[],_=>none
 |x::l,i=>match x with
  |some ⟨true,ty,sz,.gen [e]⟩=>(match Qr9 i n e with|some e'=>some (i,ty,sz,e')|none=>Qmk n l (i+1))
  |_=>Qmk n l (i+1)
def bldK(T:Tab)(a:Code)(st:St)(K:St->Prop):Prop:=
 match bldC T a with
 |none=>K st
 |some u=>match Qmk st.rows.length st.rows 0 with
  |none=>K st
  |some (i,ty,sz,e)=>D.forceL e λe=>Qcs (st.rows.set i (some ⟨true,ty,sz,.gen [e]⟩)++[some ⟨false,u,1,.ints .u8 []⟩]) λR=>K ⟨st.env,R⟩
def D.frz1(R:Rows)(ks:List Nat):D->D
 |.all r=>match memB r ks with
  |true=>(match R.getD r none with|some ⟨false,_,sz,es⟩=>.sl sz es false|_=>.dead)
  |false=>.all r
 |.ptr r i off=>match memB r ks with
  |true=>(match R.getD r none with|some ⟨true,_,sz,.gen [e]⟩=>(match e.all D.plain with|true=>.iptr sz (.gen [e]) i off|false=>.dead)|_=>.dead)
  |false=>.ptr r i off
 |d=>d.kill1 ks
def D.frzs(R:Rows)(ks:List Nat):List D->List D
 |[]=>[]
 |d::l=>d.frz1 R ks::frzs R ks l
def D.frzd(R:Rows)(ks:List Nat):D->D
 |.agg cs=>.agg (D.frzs R ks cs)
 |d=>d.frz1 R ks
def D.frzT(R:Rows)(ks:List Nat):List D->List D
 |[]=>[]
 |d::l=>d.frzd R ks::frzT R ks l
def D.frzV(R:Rows)(ks:List Nat):D->D
 |.tup ds=>.tup (D.frzT R ks ds)
 |d=>d.frzd R ks
def Row.frzr(R:Rows)(ks:List Nat):Row->Row
 |⟨true,ty,sz,.gen [e]⟩=>⟨true,ty,sz,.gen [D.frzs R ks e]⟩
 |r=>r
def Qzi(R0:Rows)(ks:List Nat):Rows->Nat->Rows
 |[],_=>[]
 |x::l,i=>(match memB i ks with|true=>none|false=>match x with|some row=>some (row.frzr R0 ks)|none=>none)::Qzi R0 ks l (i+1)
def frzE(R:Rows)(ks:List Nat):List (Nat×D)->(List (Nat×D)->Prop)->Prop
 |[],K=>K []
 |(t,d)::l,K=>(d.frzV R ks).force λd=>frzE R ks l λl=>K ((t,d)::l)
def allsL:List D->List Nat
 |[]=>[]
 |d::l=>(match d with|.all r=>[r]|_=>[])++allsL l
def allsD:D->List Nat|.agg cs=>allsL cs|.all r=>[r]|_=>[]
def boxAlls(R:Rows)(n:Nat)(d:D):List Nat:=
 match d with
 |.ptr r _ off=>match R.getD r none with|some ⟨true,_,_,.gen [e]⟩=>allsL ((e.drop off).take n)|_=>[]
 |_=>[]
def lookA:List (Nat×List Nat)->Nat->Option (List Nat)
 |[],_=>none
 |(u,x)::l,t=>match bV u t with|true=>some x|false=>lookA l t
def Zb0(env:List (Nat×D)):List (Nat×D)->Nat->D
 |[],t=>look env t
 |(u,x)::l,t=>match bV u t with|true=>x|false=>Zb0 env l t
def frzSrc(env:List (Nat×D))(acc:List (Nat×List Nat)):Operand->List Nat
 |.tmp t=>match lookA acc t with|some l=>l|none=>allsD (look env t)
 |_=>[]
def frzArgs(env:List (Nat×D))(acc:List (Nat×List Nat)):List Operand->List Nat
 |[]=>[]
 |x::l=>frzSrc env acc x++frzArgs env acc l
def frzAcc(T:Tab)(env:List (Nat×D))(R:Rows)(acc:List (Nat×List Nat))(pa:List (Nat×D))(o:Oper):List (Nat×List Nat):=
 match o.dst with
 |none=>acc
 |some t=>match o.op with
  |.load ty (.tmp p)=>(t,boxAlls R (match T.get ty with|some i=>i.size|none=>0) (Zb0 env pa p))::acc
  |.move x=>(t,frzSrc env acc x)::acc
  |.slice _ x _ _ _=>(t,frzSrc env acc x)::acc
  |_=>acc
def frzPtr(T:Tab)(env:List (Nat×D))(pa:List (Nat×D))(o:Oper):List (Nat×D):=
 match o.dst with
 |none=>pa
 |some t=>match o.op with
  |.fieldAddr s (.tmp p) f=>(match Qor T s f with|some (k,_,_)=>(match Zb0 env pa p with|.ptr r i off=>(t,.ptr r i (off+k))::pa|_=>pa)|none=>pa)
  |.move (.tmp p)=>(t,Zb0 env pa p)::pa
  |.nilCheck (.tmp p)=>(t,Zb0 env pa p)::pa
  |_=>pa
def needFz(G:List Q09)(f:FuncId):Bool:=match Qf0 G f with|some x=>x.frz||(match x.refs with|[]=>!x.flat|_=>false)|none=>false
def frzSl(T:Tab)(env:List (Nat×D))(pa:List (Nat×D))(t:TypeId)(p:Nat):List Nat:=
 match T.get t with
 |some ⟨.array _ _ _,_,_,_,_,_⟩=>(match Zb0 env pa p with|.ptr r _ _=>[r]|_=>[])
 |_=>[]
def Z8s(T:Tab)(G:List Q09)(env:List (Nat×D))(R:Rows):List (Nat×List Nat)->List (Nat×D)->List Oper->List Nat
 |_,_,[]=>[]
 |acc,pa,o::l=>(match o.op with|.call {callee:=.value (.func f),args,.. }=>(match needFz G f with|true=>frzArgs env acc args.toList|false=>[])|.slice t (.tmp p) _ _ _=>frzSl T env pa t p|_=>[])++Z8s T G env R (frzAcc T env R acc pa o) (frzPtr T env pa o) l
def okFz(M:Nat)(R:Rows):List Nat->List Nat
 |[]=>[]
 |r::l=>match gK M r&&(match R.getD r none with|some ⟨false,_,_,_⟩=>true|some ⟨true,_,_,.gen [e]⟩=>e.all D.plain|_=>false)with|true=>r::okFz M R l|false=>okFz M R l
def frzK(T:Tab)(G:List Q09)(M:Nat)(ops:Array Oper)(st:St)(K:St->Prop):Prop:=
 match okFz M st.rows (Z8s T G st.env st.rows [] [] ops.toList)with
 |[]=>K st
 |ks=>frzE st.rows ks st.env λenv=>Qcs (Qzi st.rows ks st.rows 0) λR=>K ⟨env,R⟩
def nilRow(T:Tab)(R:Rows)(i:Nat):Option (TypeId×Nat×TypeId×Nat):=
 match R.getD i none with
 |some ⟨true,ty,sz,.gen [[d]]⟩=>(match d with
  |.nils=>(match T.get ty with|some ⟨.slice e n,_,_,_,_,_⟩=>(match bK 0 n with|true=>some (ty,sz,e,n)|false=>none)|_=>none)
  |.emp=>(match T.get ty with|some ⟨.slice e n,_,_,_,_,_⟩=>(match bK 0 n with|true=>some (ty,sz,e,n)|false=>none)|_=>none)
  |_=>none)
 |_=>none
def Z8d(T:Tab):List Cap->List (Nat×D)->Rows->(Rows->Prop)->Prop
 |[],_,R,K=>K R
 |.ptr i _ _::l,env,R,K=>(match nilRow T R i with
  |some (ty,sz,e,n)=>addR R ⟨false,e,n,.gen []⟩ λk R=>Qcs (R.set i (some ⟨true,ty,sz,.gen [[.all k]]⟩)) λR=>Z8d T l env R K
  |none=>Z8d T l env R K)
 |_::l,env,R,K=>Z8d T l env R K
def Z12(env:List (Nat×D)):List Operand->List Cap
 |[]=>[]
 |.tmp t::l=>(match look env t with|.ptr i o f=>.ptr i o f::Z12 env l|_=>Z12 env l)
 |_::l=>Z12 env l
def litCaps(env:List (Nat×D)):List Oper->List Cap
 |[]=>[]
 |o::l=>(match o.op with|.makeFunc _ _ captured=>Z12 env captured.toList|_=>[])++litCaps env l
def splitAt:List (Nat×Nat)->Nat->Option Nat
 |[],_=>none
 |(g,i)::l,f=>match bV g f with|true=>some i|false=>splitAt l f
def Z9u:List (Nat×Operand)->Nat->Operand
 |[],t=>.tmp t
 |(s,x)::l,t=>match bV s t with|true=>x|false=>Z9u l t
def Z14:List (Nat×Operand)->List Oper->Option Operand
 |_,[]=>none
 |mv,o::l=>match o.op with
  |.call {callee:=.value (.func f),args,.. }=>(match splitAt splits f with
   |some i=>(match args.toList[i]? with|some (.tmp t)=>some (Z9u mv t)|_=>none)
   |none=>Z14 mv l)
  |.move x=>Z14 (match o.dst with|some t=>(t,x)::mv|none=>mv) l
  |_=>Z14 mv l
def splitK(ops:List Oper)(st:St)(K:St->Prop):Prop:=
 match Z14 [] ops with
 |none=>K st
 |some x=>match evOp st.env x with
  |.bool t=>Qqx t (K (st.know x true)) (K (st.know x false))
  |_=>K st
def Q7o(T:Tab)(G:List Q09)(N M:Nat)(L:Code->St->(Ex->St->Prop)->Prop):Code->St->(Ex->St->Prop)->Prop
 |.skip,st,Q=>Q .normal st
 |.label _,st,Q=>Q .normal st
 |.region _ ops draw,st,Q=>splitK ops.toList st λst=>Z8d T (litCaps st.env ops.toList) st.env st.rows λR=>frzK T G M ops ⟨st.env,R⟩ λst=>match draw with|true=>drawVC T G N M ops st Q|false=>Qa1 T G N M ops ops.toList st λst=>Q .normal st
 |.seq a b,st,Q=>Q7o T G N M L a st λe st=>match e with|.normal=>bldK T a st λst=>Q7o T G N M L b st Q|.exit i=>Q (.exit i) st|.ret=>Q .ret st
 |.cond c a b,st,Q=>match evOp st.env c with
  |.bool t=>Qqx t (Q7o T G N M L a (st.know c true) Q) (Q7o T G N M L b (st.know c false) Q)
  |.nilq es=>(es.Nil->Q7o T G N M L a (st.know c true) Q)/\Q7o T G N M L b (st.know c false) Q
  |_=>False
 |.block id c,st,Q=>Q7o T G N M L c st λe st=>match e with|.normal=>Q .normal st|.exit i=>(match bV i id with|true=>Q .normal st|false=>Q (.exit i) st)|.ret=>Q .ret st
 |.exit id,st,Q=>Q (.exit id) st
 |.ret,st,Q=>Q .ret st
 |.scope c,st,Q=>Q7o T G N M L c st Q
 |c,st,Q=>L c st Q
def Z2f(T:Tab)(R:Rows)(env:List (Nat×D)):List ResultVar->(List D->Prop)->Prop
 |[],K=>K []
 |.tmp t::l,K=>(look env t).force λd=>cand d.isVal (Z2f T R env l λds=>K (d::ds))
 |.cell a t::l,K=>Qfi T t (look env a) R λd _=>cand d.isVal (Z2f T R env l λds=>K (d::ds))
def inEx(ex:List Nat)(i r:Nat):Bool:=match ex[i]? with|some x=>bV x r|none=>false
def Zbl(ex:List Nat)(r:Nat):Bool:=ex.all λx=>!(bV x r)
def Z6o(ex:List Nat)(R:Rows)(i:Nat):Bool:=match ex[i]? with|some r=>(match R.getD r none with|none=>true|some _=>false)|none=>false
def Els.Eq:Els->Els->Prop
 |.ints k l,.ints k' m=>match decide (k=k')with|true=>l=m|false=>(Els.ints k l).l=(Els.ints k' m).l
 |.bools l,.bools m=>l=m
 |.gen es,.gen fs=>es=fs
 |.gen [],.ints _ m=>m=[]
 |.gen [],.bools m=>m=[]
 |.gen [],.recs _ m=>m=[]
 |.recs k l,.recs k' m=>(match Z6k k k' l with|some l'=>l'=m|none=>(Els.recs k l).l=(Els.recs k' m).l)
 |E,F=>E.l=F.l
theorem Els.Eq_l{E F:Els}(h:Els.Eq E F):E.l=F.l:=by
 cases E with
 |gen es=>
  cases es with
  |nil=>cases F<;>simp_all [Els.Eq,Els.l]
  |cons e es=>cases F<;>simp_all [Els.Eq,Els.l]
 |ints k l=>
  cases F with
  |ints k' m=>
   simp only[Els.Eq]at h
   split at h
   ·rename_i hk;subst h;rw[oY hk]
   ·exact h
  |_=>exact h
 |bools l=>
  cases F with
  |bools m=>simp only[Els.Eq]at h;rw[h]
  |_=>exact h
 |recs k l=>
  cases F with
  |recs k' m=>
   simp only[Els.Eq]at h
   split at h
   ·rename_i l' hc
    obtain⟨e,hm⟩:=Qox hc
    subst e
    simp only at hm
    rw[<-h,<-hm]
   ·exact h
  |_=>exact h
theorem Els.Nil_l{E:Els}:E.Nil↔E.l=[]:=by
 cases E<;>simp[Els.Nil,Els.l]
def ptrX(ex:List Nat):List (Nat×Nat×Nat)->List (Nat×Nat×Nat)->Bool
 |[],[]=>true
 |(i,b,c)::l,(r,y,z)::m=>inEx ex i r&&(bV b y&&(bV c z&&ptrX ex l m))
 |_,_=>false
def capX(ex:List Nat):List Cap->List Cap->Bool
 |[],[]=>true
 |.ptr i b c::l,.ptr r y z::m=>inEx ex i r&&(bV b y&&(bV c z&&capX ex l m))
 |.fn f ps::l,.fn g qs::m=>bV f g&&(ptrX ex ps qs&&capX ex l m)
 |_,_=>false
def retC(ex:List Nat)(m:Nat)(R:Rows)(d p:D):Prop:=
 match p with
 |.int k n=>match d with|.int j q=>cand (decide (j=k)) (q=n)|_=>False
 |.bool b=>match d with|.bool a=>a=b|_=>False
 |.str s=>match d with|.str u=>u=s|_=>False
 |.nilp=>match d with|.nilp=>True|_=>False
 |.nilif=>match d with|.nilif=>True|_=>False
 |.clo f cs=>match d with|.clo g ds=>cand (bV f g&&capX ex cs ds) True|_=>False
 |.ptr i o f=>match d with|.ptr r o' f'=>cand (inEx ex i r&&(bV o o'&&bV f f')) True|_=>False
 |.selfp i=>match d with|.nilp=>True|.selfp r=>cand (inEx ex i r) True|.ptr r o f=>cand (inEx ex i r&&(bV o 0&&bV f 0)) True|_=>False
 |.nils=>match d with|.nils=>True|_=>False
 |.emp=>match d with|.nils=>True|.emp=>True|_=>False
 |.sl sz es fr=>match d with
  |.nils=>es.Nil
  |.emp=>es.Nil
  |.sl sz' es' fr'=>cand (!fr||fr') ((es'.Nil\/sz'=sz)/\Els.Eq es' es)
  |.all r=>match R.getD r none with
   |some ⟨box,_,sz',es'⟩=>cand (!box&&bV sz' sz&&Zbl ex r&&gK m r) (Els.Eq es' es)
   |none=>False
  |.own r o n=>match R.getD r none with
   |some ⟨box,_,sz',es'⟩=>cand (!box&&bV sz' sz&&Zbl ex r&&gK m r) (Els.Eq ((es'.drop o).take n) es)
   |none=>False
  |_=>False
 |.all i=>match d with|.all r=>cand (inEx ex i r) True|.nils=>cand (Z6o ex R i) True|.emp=>cand (Z6o ex R i) True|_=>False
 |.own i o n=>match d with|.own r o' n'=>cand (inEx ex i r) (o'=o/\n'=n)|_=>False
 |.dead=>cand d.isOne True
 |_=>False
def Z1s(ex:List Nat)(m:Nat)(R:Rows):List D->List D->Prop
 |[],[]=>True
 |d::ds,p::ps=>retC ex m R d p/\Z1s ex m R ds ps
 |_,_=>False
def retV(ex:List Nat)(m:Nat)(R:Rows)(d p:D):Prop:=
 match p with
 |.agg ps=>match d with|.agg ds=>Z1s ex m R ds ps|_=>False
 |p=>retC ex m R d p
def retVs(ex:List Nat)(m:Nat)(R:Rows):List D->List D->Prop
 |[],[]=>True
 |d::ds,p::ps=>retV ex m R d p/\retVs ex m R ds ps
 |_,_=>False
def retD(ex:List Nat)(m:Nat)(R:Rows)(d p:D):Prop:=
 match p with
 |.tup ps=>match d with|.tup ds=>retVs ex m R ds ps|_=>False
 |p=>retV ex m R d p
def Q3(ex:List Nat)(m:Nat)(R:Rows):List Nat->List Row->Prop
 |[],[]=>True
 |r ::rs,⟨box,ty,sz,es⟩::ps=>(match R.getD r none with
  |some ⟨box',ty',sz',es'⟩=>cand (Bool.xor (!box) box'&&bV ty ty'&&bV sz sz') (match box with
   |false=>Els.Eq es' es
   |true=>match es',es with|.gen [e'],.gen [e]=>Z1s ex m R e' e|_,_=>False)
  |none=>cand (!box&&bK 0 sz) es.Nil)/\Q3 ex m R rs ps
 |_,_=>False
def newAt(n0:Nat):List (Nat×Nat)->Nat->Nat
 |[],i=>n0+i
 |(j,r)::l,i=>match bV j i with|true=>r|false=>newAt n0 l i
def news(n0:Nat)(l:List (Nat×Nat)):Nat->Nat->List Nat
 |_,0=>[]
 |i,n+1=>newAt n0 l i::news n0 l (i+1) n
def natsB:List Nat->List Nat->Bool
 |[],[]=>true
 |x::l,y::m=>bV x y&&natsB l m
 |_,_=>false
def exOK(M:Nat)(ex:List Nat):Bool:=(natsB (ex.take M) (hY M)&&(ex.drop M).all λr=>gK M r)&&Qlr (ex.drop M)
def RetE(m:Nat)(res:D)(rows:List Row)(d:D)(R:Rows):Prop:=
 ∃ex,exOK m ex=true/\retD ex m R d res/\Q3 ex m R ex rows
def Qmx:List D->Nat->List (Nat×D)
 |[],_=>[]
 |d::ds,i=>(i,d)::Qmx ds (i+1)
def fnVC(T:Tab)(G:List Q09)(L:Code->St->(Ex->St->Prop)->Prop)(fn:Func)(args:List D)(rows:List Row)(Q:D->Rows->Prop):Prop:=
 match fn.body with
 |some c=>Q7o T G fn.ntmps rows.length L c ⟨Qmx args 0,rows.map some⟩ λe st=>match e with
  |.exit _=>False
  |_=>Z2f T st.rows st.env fn.results.toList λds=>match ds with|[d]=>Q d st.rows|ds=>Q (.tup ds) st.rows
 |none=>False
def yEnv:List Nat->List D->List (Nat×D)
 |t::ts,d::ds=>(t,d)::yEnv ts ds
 |_,_=>[]
def fnsC:List Cap->List Nat
 |[]=>[]
 |.fn f _::l=>f::fnsC l
 |_::l=>fnsC l
def fns1:D->List Nat|.clo f cs=>f::fnsC cs|_=>[]
def fnsL:List D->List Nat
 |[]=>[]
 |d::l=>fns1 d++fnsL l
def fnsD:D->List Nat|.agg cs=>fnsL cs|d=>fns1 d
def fnsT:List D->List Nat
 |[]=>[]
 |d::l=>fnsD d++fnsT l
def fnsV:D->List Nat|.tup ds=>fnsT ds|d=>fnsD d
def fnsR:List Row->List Nat
 |[]=>[]
 |⟨true,_,_,.gen [e]⟩::l=>fnsL e++fnsR l
 |_::l=>fnsR l
def Z69:Rows->List Nat
 |[]=>[]
 |some r::l=>fnsR [r]++Z69 l
 |none::l=>Z69 l
def noYs(l:List Nat):Bool:=l.all λf=>bK f YB
def fnsE:List (Nat×D)->List Nat
 |[]=>[]
 |(_,d)::l=>fnsV d++fnsE l
def Z6w (T:Tab)(G:List Q09)(L:Code->St->(Ex->St->Prop)->Prop)(fn:Func)(args:List D)(rows:List Row)(Q:D->Rows->Prop)(M:Nat):Prop:=
 match fn.body with
 |some c =>match gK YB fn.nfree with
  |true =>match bV fn.nfree YB with
   |true=>Q7o T G fn.ntmps M L c ⟨yEnv fn.params.toList args,rows.map some⟩ λe st=>match e with
    |.normal=>Q (.bool true) st.rows
    |_=>False
   |false=>match c with
    |.seq a b=>Q7o T G fn.ntmps M L a ⟨yEnv fn.params.toList args,rows.map some⟩ λe st=>match e with
     |.normal=>cand (noYs (fnsE st.env++Z69 st.rows)) (Q7o T G fn.ntmps M L b st λe st=>match e with
      |.normal=>Q (.bool true) st.rows
      |_=>False)
     |_=>False
    |_=>False
  |false=>Q7o T G fn.ntmps M L c ⟨Qmx args 0,rows.map some⟩ λe st=>match e with
  |.exit _=>False
  |_=>Z2f T st.rows st.env fn.results.toList λds=>match ds with|[d]=>Q d st.rows|ds=>Q (.tup ds) st.rows
 |none=>False
