import Derived.Test.YtmalmklaonainaaGreatMachinePortsFy
set_option linter.all false
namespace Go.GD
open Go
def cand(b:Bool)(p:Prop):Prop:=match b with|true=>p|false=>False
def Qu9(b:Bool)(p q:Prop):Prop:=match b with|true=>p|false=>q
theorem Q04{b:Bool}{p:Prop}:cand b p↔b=true/\p:=by cases b<;>simp [cand]
theorem Z1{b:Bool}{p q:Prop}:Qu9 b p q↔(b=true->p)/\(b=false->q):=by cases b<;>simp [Qu9]
abbrev Rows:=List (Option Row)
namespace D
def isSl(n:Nat):D->Bool| .sl m _ _=>Nat.beq m n| .nils=>true| .emp=>true|_=>false
def toEs:D->Els| .sl _ es _=>es|_=> .gen []
def isCell:D->Bool| .agg _=>false| .tup _=>false| .dead=>false|_=>true
def isVal:D->Bool| .tup _=>false| .dead=>false|_=>true
def isOne:D->Bool| .agg _=>false| .tup _=>false|_=>true
def plain:D->Bool| .bool _=>true| .int _ _=>true| .str _=>true| .nilp=>true| .nils=>true| .emp=>true| .sl _ _ _=>true|_=>false
def cells:D->List D| .agg cs=>cs|d=>[d]
def force:D->(D->Prop)->Prop
 | .bool b,K=>K (.bool b)
 | .int k n,K=>K (.int k n)
 | .str s,K=>K (.str s)
 | .sl a b c,K=>K (.sl a b c)
 | .all a,K=>K (.all a)
 | .own a b c,K=>K (.own a b c)
 | .ptr a b c,K=>K (.ptr a b c)
 | .pa a b c d e f,K=>K (.pa a b c d e f)
 | .iptr a b c d,K=>K (.iptr a b c d)
 | .nilp,K=>K .nilp
 | .nils,K=>K .nils
 | .emp,K=>K .emp
 | .nilq es,K=>K (.nilq es)
 | .dead,K=>K .dead
 | .clo a b,K=>K (.clo a b)
 | .selfp a,K=>K (.selfp a)
 | .nilif,K=>K .nilif
 | .agg a,K=>K (.agg a)
 | .tup a,K=>K (.tup a)
end D
def D.forceL:List D->(List D->Prop)->Prop
 |[],K=>K []
 |d::l,K=>d.force λd=>forceL l λl=>K (d::l)
def Qbm:Rows->(Rows->Prop)->Prop
 |[],K=>K []
 |d::l,K=>Qbm l λl=>K (d::l)
inductive CTy where
 |int (k:IntKind)|bool|str|sl (n:Nat)|other
inductive TK where
 |int (k:IntKind)|bool|string
 |slice (e:TypeId) (n:Nat)
 |struct (fs:List (Nat×TypeId×Nat))
 |array (len:Nat) (e:TypeId) (n:Nat)
 |other
structure TI where
 kind:TK
 size:Nat
 bytes:Nat
 ctys:List CTy
 zero:Option (List D)
 eq:Bool
abbrev Tab:=List (TypeId×TI)
def Tab.get:Tab->TypeId->Option TI
 |[],_=>none
 |(u,i)::l,t=>match Nat.beq u t with|true=>some i|false=>Tab.get l t
def TK.isAgg:TK->Bool| .struct _=>true| .array _ _ _=>true|_=>false
def Qdf(pl:Bool):CTy->D->(D->Prop)->Prop
 | .int k,c,K=>cand (c.isInt k) (K (.int k c.toInt))
 | .bool,c,K=>cand c.isBool (K (.bool c.toBool))
 | .str,c,K=>cand c.isStr (K (.str c.toStr))
 | .sl n,c,K=>match pl with
   |true=>cand (c.isSl n) (K (.sl n c.toEs false))
   |false=>cand c.isCell (c.force K)
 | .other,c,K=>match pl with
   |true=>match c with| .nilp=>K .nilp|_=>False
   |false=>cand c.isCell (c.force K)
def Qkj(pl:Bool)(e:List D):List CTy->Nat->(List D->Prop)->Prop
 |[],_,K=>K []
 |t::ts,off,K=>Qdf pl t (e.getD off .dead) λd=>Qkj pl e ts (off+1) λds=>K (d::ds)
def Qcw(pl:Bool)(t:TI)(e:List D)(off:Nat)(K:D->Prop):Prop:=
 match t.kind.isAgg with
 |true=>Qkj pl e t.ctys off λds=>K (.agg ds)
 | false=>match t.ctys with
   |[y]=>Qdf pl y (e.getD off .dead) K
   |_=>False
def Q1s:List D->Nat->List D->List D
 |e,_,[]=>e
 |e,off,v::vs=>Q1s (e.set off v) (off+1) vs
def Z1n:Value->Option D
 | .bool b=>some (.bool b)
 | .int k n=>some (.int k n)
 | .string s=>some (.str s.data.toList)
 | .slice none 0 0=>some .nils
 | .pointer none=>some .nilp
 | .nilIface=>some .nilif
 | .nilFunc=>some .dead
 |_=>none
def Qh2:List Value->Option (List D)
 |[]=>some []
 |v::vs=>match Z1n v,Qh2 vs with|some d,some ds=>some (d::ds)|_,_=>none
def Z1f:Value->Option D
 | .agg cs=>(Qh2 cs.toList).map .agg
 |v=>Z1n v
structure St where
 env:List (Nat×D)
 rows:Rows
def look:List (Nat×D)->Nat->D
 |[],_=> .dead
 |(u,d)::l,t=>match Nat.beq u t with|true=>d|false=>look l t
def evOp(env:List (Nat×D)):Operand->D
 | .tmp t=>look env t
 | .const v=>(Z1f v).getD .dead
 | .func f=>match Nat.blt f YB with|true=> .clo f []|false=> .dead
 |_=> .dead
def iand(k:IntKind)(x y:Int):Int:=k.wrap (BitVec.ofInt k.bits x&&&BitVec.ofInt k.bits y).toNat
def ior(k:IntKind)(x y:Int):Int:=k.wrap (BitVec.ofInt k.bits x|||BitVec.ofInt k.bits y).toNat
def ixor(k:IntKind)(x y:Int):Int:=k.wrap (BitVec.ofInt k.bits x^^^BitVec.ofInt k.bits y).toNat
def Qbs(k:IntKind)(x y:Int):Int:=k.wrap (BitVec.ofInt k.bits x&&&~~~BitVec.ofInt k.bits y).toNat
def ishl(k:IntKind)(x y:Int):Int:=k.wrap (x*2^(min y.toNat k.bits))
def ishr(k:IntKind)(x y:Int):Int:=x.fdiv (2^(min y.toNat k.bits))
def Z77(op:BinOp)(k:IntKind)(x y:Int)(K:D->Prop):Prop:=
 match op with
 | .add=>K (.int k (k.wrap (x+y)))
 | .sub=>K (.int k (k.wrap (x-y)))
 | .mul=>K (.int k (k.wrap (x*y)))
 | .quo=>cand (decide (y≠0)) (K (.int k (k.wrap (x.tdiv y))))
 | .rem=>cand (decide (y≠0)) (K (.int k (x.tmod y)))
 | .and=>K (.int k (iand k x y))
 | .or=>K (.int k (ior k x y))
 | .xor=>K (.int k (ixor k x y))
 | .andNot=>K (.int k (Qbs k x y))
 | .eql=>K (.bool (x==y))
 | .neq=>K (.bool (x !=y))
 | .lss=>K (.bool (decide (x<y)))
 | .leq=>K (.bool (decide (x<=y)))
 | .gtr=>K (.bool (decide (x>y)))
 | .geq=>K (.bool (decide (x>=y)))
 |_=>False
def eq1:D->D->Bool
 | .int _ a, .int _ b=>a==b
 | .bool a, .bool b=>a==b
 | .str a, .str b=>decide (a=b)
 |_,_=>false
def eqs:List D->List D->Bool
 |[],_=>true
 |a::l,b::m=>eq1 a b&&eqs l m
 |_::_,[]=>false
def fits:List CTy->List D->Bool
 |[],[]=>true
 | .int k::t,d::l=>d.isInt k&&fits t l
 | .bool::t,d::l=>d.isBool&&fits t l
 | .str::t,d::l=>d.isStr&&fits t l
 |_,_=>false
def binVC(T:Tab)(op:BinOp)(t:TypeId)(x y:D)(K:D->Prop):Prop:=
 match x,y with
 | .int k a, .int k' b=>
   match op with
   | .shl=>cand (decide (0<=b)) (K (.int k (ishl k a b)))
   | .shr=>cand (decide (0<=b)) (K (.int k (ishr k a b)))
   |op=>cand (decide (k=k')) (Z77 op k a b K)
 | .str a, .str b=>
   match op with
   | .add=>cand (decide (a.length+b.length<=maxLen)) (K (.str (a++b)))
   | .eql=>K (.bool (decide (a=b)))
   | .neq=>K (.bool (!decide (a=b)))
   |_=>False
 | .bool a, .bool b=>
   match T.get t with
   | some ⟨.bool,_,_,_,_,_⟩=>match op with
     | .eql=>K (.bool (a==b))
     | .neq=>K (.bool (!(a==b)))
     |_=>False
   |_=>False
 | .agg a, .agg b=>
   match T.get t with
   | some ti=>cand (ti.kind.isAgg&&Nat.blt 0 ti.size&&ti.eq&&fits ti.ctys a&&fits ti.ctys b)<|
     match op with
     | .eql=>K (.bool (eqs a b))
     | .neq=>K (.bool (!(eqs a b)))
     |_=>False
   |none=>False
 |_,_=>False
def Qw3(T:Tab)(s d:TypeId)(x:D)(K:D->Prop):Prop:=
 match T.get s,T.get d with
 | some ⟨.int _,_,_,_,_,_⟩,some ⟨.int k,_,_,_,_,_⟩=>match x with
   | .int _ n=>K (.int k (k.wrap n))
   |_=>False
 | some ⟨.string,_,_,_,_,_⟩,some ⟨.string,_,_,_,_,_⟩=>match x with
   | .str s=>K (.str s)
   |_=>False
 |_,_=>False
def Qll(T:Tab)(s:TypeId)(f:Nat):Option (Nat×TypeId×Nat):=
 match T.get s with
 |some ⟨.struct fs,_,_,_,_,_⟩=>fs[f]?
 |_=>none
def Qkz(place:Nat->Option (Nat×Nat))(ev:Operand->D):List (Nat×Operand)->List D->(List D->Prop)->Prop
 |[],cs,K=>D.forceL cs K
 | (i,x)::ps,cs,K=>match place i with
   |some (off,n)=>cand ((ev x).isVal&&Nat.beq (ev x).cells.length n&&Nat.ble (off+n) cs.length) (Qkz place ev ps (Q1s cs off (ev x).cells) K)
   |none=>False
def D.unfr:D->D| .sl a b _=> .sl a b false|d=>d
def Z2b:List D->List D
 |[]=>[]
 |d::l=>d.unfr::Z2b l
def Qow(n len:Nat)(ev:Operand->D):List (Nat×Operand)->List (List D)->(List (List D)->Prop)->Prop
 |[],es,K=>K es
 |(i,x)::ps,es,K=>cand (((ev x).isVal&&(Z2b (ev x).cells).all D.plain)&&Nat.beq (Z2b (ev x).cells).length n&&Nat.blt i len) (Qow n len ev ps (es.set i (Z2b (ev x).cells)) K)
def addR1(row:Row):Rows->Nat->(Nat->Rows->Prop)->Prop
 |[],n,K=>K n [some row]
 |x::l,n,K=>addR1 row l (n+1) λk l=>K k (x::l)
def addR(R:Rows)(row:Row)(K:Nat->Rows->Prop):Prop:=addR1 row R 0 K
def ints(e:List D)(off:Nat):Nat->List Int
 |0=>[]
 |n+1=>(e.getD off .dead).toInt::ints e (off+1) n
def bools(e:List D)(off:Nat):Nat->List Bool
 |0=>[]
 |n+1=>(e.getD off .dead).toBool::bools e (off+1) n
def Qi6(k:IntKind)(e:List D)(off:Nat):Nat->Bool
 |0=>true
 |n+1=>(e.getD off .dead).isInt k&&Qi6 k e (off+1) n
def Qi9(e:List D)(off:Nat):Nat->Bool
 |0=>true
 |n+1=>(e.getD off .dead).isBool&&Qi9 e (off+1) n
def Qoe(k:IntKind)(l:List Int)(j:Nat):Nat->List D
 |0=>[]
 |n+1=> .int k (l.getD j 0)::Qoe k l (j+1) n
def Qoq(l:List Bool)(j:Nat):Nat->List D
 |0=>[]
 |n+1=> .bool (l.getD j false)::Qoq l (j+1) n
def Qe3(T:Tab)(t:TypeId)(x:D)(R:Rows)(K:D->Rows->Prop):Prop:=
 match T.get t with
 |none=>False
 | some ti=>match x with
   | .ptr r i off=>match R.getD r none with
     |some ⟨box,_,sz,es⟩=>cand (Nat.ble (off+ti.size) sz) (Qcw (!box) ti (es.get i) off λd=>K d R)
     |none=>False
   | .pa r i off len k n=>match R.getD r none with
     | some ⟨_,_,sz,es⟩=>cand (Nat.ble (off+len) sz)<|match ti.kind,k with
       | .int j,some k=>cand (decide (j=k)&&Qi6 k (es.get i) off len) (K (.int k ((ints (es.get i) off len).getD n 0)) R)
       | .bool,none=>cand (Qi9 (es.get i) off len) (K (.bool ((bools (es.get i) off len).getD n false)) R)
       |_,_=>False
     |none=>False
   | .iptr sz es i off=>cand (Nat.ble (off+ti.size) sz) (Qcw true ti (es.get i) off λd=>K d R)
   |_=>False
def Qid(T:Tab)(t:TypeId)(x d:D)(R:Rows)(K:D->Rows->Prop):Prop:=
 match T.get t with
 |none=>False
 | some ti=>match x with
   | .ptr r i off=>match R.getD r none with
     | some ⟨box,ty,sz,es⟩=>cand (Nat.blt 0 ti.size&&d.isVal&&Nat.beq d.cells.length ti.size&&Nat.ble (off+ti.size) sz)<|match box with
       |true=>D.forceL (Q1s (es.get i) off d.cells) λe=>Qbm (R.set r (some ⟨true,ty,sz, .gen [e]⟩)) λR=>K .dead R
       |false=>cand (d.cells.all D.plain) (Qbm (R.set r (some ⟨false,ty,sz,es.set i (Q1s (es.get i) off d.cells)⟩)) λR=>K .dead R)
     |none=>False
   | .pa r i off len k n=>match R.getD r none with
     | some ⟨box,ty,sz,es⟩=>cand (box&&Nat.ble (off+len) sz)<|match ti.kind,k,d with
       | .int j,some k, .int k' v=>cand (decide (j=k)&&decide (k'=k)&&Qi6 k (es.get i) off len)<|
         D.forceL (Q1s (es.get i) off (Qoe k ((ints (es.get i) off len).set n v) 0 len)) λe=>Qbm (R.set r (some ⟨true,ty,sz, .gen [e]⟩)) λR=>K .dead R
       | .bool,none, .bool v=>cand (Qi9 (es.get i) off len)<|
         D.forceL (Q1s (es.get i) off (Qoq ((bools (es.get i) off len).set n v) 0 len)) λe=>Qbm (R.set r (some ⟨true,ty,sz, .gen [e]⟩)) λR=>K .dead R
       |_,_,_=>False
     |none=>False
   |_=>False
def Qlx(T:Tab)(t:TypeId)(x:D)(isC:Bool)(n:Int)(R:Rows)(K:D->Rows->Prop):Prop:=
 match T.get t with
 | some ⟨.slice _ esz,_,_,_,_,_⟩=>match x with
   | .sl sz es _=>cand (Nat.beq sz esz&&Nat.blt 0 esz&&decide (0<=n/\n<es.len)) (K (.iptr sz es n.toNat 0) R)
   | .own r o m=>match R.getD r none with
     |some ⟨_,_,sz,_⟩=>cand (Nat.beq sz esz&&Nat.blt 0 esz&&decide (0<=n/\n<m)) (K (.ptr r (o+n.toNat) 0) R)
     |none=>False
   | .all r=>match R.getD r none with
     |some ⟨_,_,sz,es⟩=>cand (Nat.beq sz esz&&Nat.blt 0 esz&&decide (0<=n/\n<es.len)) (K (.ptr r n.toNat 0) R)
     |none=>False
   |_=>False
 | some ⟨.array len e esz,_,_,_,_,_⟩=>cand (Nat.blt 0 esz&&decide (0<=n/\n<len))<|match x with
   | .ptr r i off=>match isC with
     |true=>K (.ptr r i (off+n.toNat*esz)) R
     | false=>match T.get e with
       |some ⟨.int k,_,_,_,_,_⟩=>cand (Nat.beq esz 1) (K (.pa r i off len (some k) n.toNat) R)
       |some ⟨.bool,_,_,_,_,_⟩=>cand (Nat.beq esz 1) (K (.pa r i off len none n.toNat) R)
       |_=>K (.ptr r i (off+n.toNat*esz)) R
   | .iptr sz es i off=>K (.iptr sz es i (off+n.toNat*esz)) R
   |_=>False
 |_=>False
def bnd(x:Option Operand)(ev:Operand->D)(n:Int):Option Int:=match x with|none=>some n|some y=>match ev y with| .int _ m=>some m|_=>none
def Qn(T:Tab)(t:TypeId)(x:D)(lo hi:Option Operand)(ev:Operand->D)(R:Rows)(K:D->Rows->Prop):Prop:=
 match T.get t with
 | some ⟨.string,_,_,_,_,_⟩=>match x with
   | .str s=>match bnd lo ev 0,bnd hi ev s.length with
     |some l,some h=>cand (decide (0<=l/\l<=h/\h<=s.length)) (K (.str ((s.drop l.toNat).take (h.toNat-l.toNat))) R)
     |_,_=>False
   |_=>False
 | some ⟨.slice _ esz,_,_,_,_,_⟩=>match x with
   | .sl sz es fr=>match bnd lo ev 0,bnd hi ev es.len with
     |some l,some h=>cand (Nat.beq sz esz&&Nat.blt 0 esz&&decide (0<=l/\l<=h/\h<=es.len)) (K (.sl sz ((es.drop l.toNat).take (h.toNat-l.toNat)) fr) R)
     |_,_=>False
   | .all r=>match R.getD r none with
     | some ⟨_,_,sz,es⟩=>match bnd lo ev 0,bnd hi ev es.len with
       |some l,some h=>cand (Nat.beq sz esz&&Nat.blt 0 esz&&decide (0<=l/\l<=h/\h<=es.len)) (K (.own r l.toNat (h.toNat-l.toNat)) R)
       |_,_=>False
     |none=>False
   | .own r o n=>match R.getD r none with
     | some ⟨_,_,sz,_⟩=>match bnd lo ev 0,bnd hi ev n with
       |some l,some h=>cand (Nat.beq sz esz&&Nat.blt 0 esz&&decide (0<=l/\l<=h/\h<=n)) (K (.own r (o+l.toNat) (h.toNat-l.toNat)) R)
       |_,_=>False
     |none=>False
   |_=>False
 | some ⟨.array len e esz,_,_,_,_,_⟩=>match x,lo,hi with
   | .iptr sz es i off,none,none=>match T.get e with
     |some ⟨.int k,_,_,_,_,_⟩=>cand (Nat.beq esz 1&&(Nat.ble (off+len) sz&&Qi6 k (es.get i) off len)) (K (.sl 1 (.ints k (ints (es.get i) off len)) false) R)
     |_=>False
   |_,_,_=>False
 |_=>False
def makeVC(T:Tab)(t:TypeId)(n m:Int)(R:Rows)(K:D->Rows->Prop):Prop:=
 match T.get t with
 | some ⟨.slice e _,_,_,_,_,_⟩=>match T.get e with
   |some ⟨_,sz,by',_,some z,_⟩=>cand (Nat.blt 0 sz&&Nat.beq z.length sz&&z.all D.plain&&decide (0<=n/\n<=m/\m<=9223372036854775807/\(by':Int)*m<=140737488355328))
       (addR R ⟨false,e,sz,Els.repT e n.toNat z⟩ λk R=>K (.all k) R)
   |_=>False
 |_=>False
def lenVC(T:Tab)(t:TypeId)(x:D)(R:Rows)(K:D->Rows->Prop):Prop:=
 match T.get t with
 | some ⟨.string,_,_,_,_,_⟩=>match x with
   | .str s=>K (.int .i64 s.length) R
   |_=>False
 | some ⟨.slice _ _,_,_,_,_,_⟩=>match x with
   | .sl _ es _=>K (.int .i64 es.len) R
   | .own _ _ n=>K (.int .i64 n) R
   | .all r=>match R.getD r none with
     |some ⟨_,_,_,es⟩=>K (.int .i64 es.len) R
     |none=>False
   | .nils=>K (.int .i64 0) R
   | .emp=>K (.int .i64 0) R
   |_=>False
 |_=>False
def Qmr(T:Tab)(t:TypeId)(parts:List (Nat×Operand))(ev:Operand->D)(R:Rows)(K:D->Rows->Prop):Prop:=
 match T.get t with
 |some ⟨.struct fs,_,_,_,some ds,_⟩=>cand (fs.all λf=>Nat.blt 0 f.2.2)<|Qkz (λi=>(fs[i]?).map λf=>(f.1,f.2.2)) ev parts ds λcs=>K (.agg cs) R
 |some ⟨.array _ _ esz,_,_,_,some ds,_⟩=>cand (Nat.blt 0 esz)<|Qkz (λi=>some (i*esz,esz)) ev parts ds λcs=>K (.agg cs) R
 |_=>False
def Qey(T:Tab)(t:TypeId)(len:Nat)(parts:List (Nat×Operand))(ev:Operand->D)(R:Rows)(K:D->Rows->Prop):Prop:=
 match T.get t with
 | some ⟨.slice e _,_,_,_,_,_⟩=>match T.get e with
   |some ⟨_,sz,_,_,some z,_⟩=>cand (Nat.blt 0 sz&&Nat.beq z.length sz&&Nat.ble (len*sz) 16777216&&z.all D.plain)<|
       Qow sz len ev parts (List.replicate len z) λes=>match len with|0=>K .emp R|_+1=>K (.sl sz (Els.ofT e es) true) R
   |_=>False
 |_=>False
def ptrOf:Cap->Option (Nat×Nat×Nat)| .ptr r i off=>some (r,i,off)|_=>none
def Z1m:List Cap->Option (List (Nat×Nat×Nat))
 |[]=>some []
 |x::l=>match ptrOf x,Z1m l with|some p,some ps=>some (p::ps)|_,_=>none
def capOf:D->Option Cap
 | .ptr r i off=>some (.ptr r i off)
 | .int k n=>some (.int k n)
 | .all r=>some (.arr r)
 | .sl a b fr=>some (.sl a b fr)
 | .clo f cs=>match Z1m cs with|some ps=>some (.fn f ps)|none=>none
 |_=>none
def Qwt:List D->Option (List Cap)
 |[]=>some []
 |d::l=>match capOf d,Qwt l with|some x,some xs=>some (x::xs)|_,_=>none
def opVC(T:Tab)(o:Op)(ev:Operand->D)(R:Rows)(K:D->Rows->Prop):Prop:=
  match o with
  | .move x| .assign x=>(ev x).force λd=>K d R
  | .alloc t=>match T.get t with
    |some ⟨_,sz,_,_,some ds,_⟩=>cand (Nat.blt 0 sz&&Nat.beq ds.length sz) (addR R ⟨true,t,sz, .gen [ds]⟩ λk R=>K (.ptr k 0 0) R)
    |_=>False
  | .box t x=>match T.get t with
    |some ⟨_,sz,_,_,_,_⟩=>cand (Nat.blt 0 sz&&(ev x).isVal&&Nat.beq (ev x).cells.length sz) (D.forceL (ev x).cells λcs=>addR R ⟨true,t,sz, .gen [cs]⟩ λk R=>K (.ptr k 0 0) R)
    |none=>False
  | .build t parts=>Qmr T t parts.toList ev R K
  | .buildSlice t len parts=>Qey T t len parts.toList ev R K
  | .load t a=>Qe3 T t (ev a) R K
  | .store t a x=>Qid T t (ev a) (ev x) R K
  | .nilCheck x=>match ev x with
    | .ptr a b c=>K (.ptr a b c) R
    | .iptr a b c d=>K (.iptr a b c d) R
    |_=>False
  | .binOp op t x y _=>binVC T op t (ev x) (ev y) λd=>K d R
  | .unOp op _ x=>match op,ev x with
    | .neg, .int k n=>K (.int k (k.wrap (0-n))) R
    | .xor, .int k n=>K (.int k (ixor k (if k.signed then-1 else k.max) n)) R
    | .not, .bool b=>K (.bool (!b)) R
    |_,_=>False
  | .convert s d x=>Qw3 T s d (ev x) λv=>K v R
  | .fieldAddr s x f=>match Qll T s f with
    | some (o,_,n)=>cand (Nat.blt 0 n)<|match ev x with
      | .ptr r i off=>K (.ptr r i (off+o)) R
      | .iptr sz es i off=>K (.iptr sz es i (off+o)) R
      |_=>False
    |none=>False
  | .field s x f=>match Qll T s f with
    | some (o,t,n)=>match ev x,T.get t with
      | .agg cs,some ti=>cand (Nat.blt 0 n&&Nat.ble (o+n) cs.length)<|match ti.kind.isAgg with
        |true=>D.forceL ((cs.drop o).take n) λl=>K (.agg l) R
        |false=>cand (cs.getD o .dead).isCell ((cs.getD o .dead).force λd=>K d R)
      |_,_=>False
    |none=>False
  | .indexAddr t x ix=>match ev ix with
    | .int _ n=>Qlx T t (ev x) (match ix with| .const _=>true|_=>false) n R K
    |_=>False
  | .index t x ix=>match T.get t,ev x,ev ix with
    |some ⟨.string,_,_,_,_,_⟩, .str s, .int _ n=>cand (decide (0<=n/\n<s.length)) (K (.int .u8 ((s.getD n.toNat 0).toNat:Int)) R)
    | some ⟨.array len e esz,_,_,_,_,_⟩, .agg cs, .int _ n=>cand (Nat.beq esz 1&&(Nat.beq cs.length len&&decide (0<=n/\n<len)))<|match T.get e with
      |some ⟨.int k,_,_,_,_,_⟩=>cand (Qi6 k cs 0 len) (K (.int k ((ints cs 0 len).getD n.toNat 0)) R)
      |some ⟨.bool,_,_,_,_,_⟩=>cand (Qi9 cs 0 len) (K (.bool ((bools cs 0 len).getD n.toNat false)) R)
      |_=>False
    |_,_,_=>False
  | .extract x i=>match ev x with
    | .tup ds=>cand (ds.getD i .dead).isVal ((ds.getD i .dead).force λd=>K d R)
    |_=>False
  | .slice t x lo hi none=>Qn T t (ev x) lo hi ev R K
  | .makeSlice t l c=>match ev l,ev c with
    | .int _ n, .int _ m=>makeVC T t n m R K
    |_,_=>False
  | .call {callee:= .builtin .len,args,argTypes}=>match args.toList,argTypes.toList with
    |[x],[t]=>lenVC T t (ev x) R K
    |_,_=>False
  | .makeFunc fn first captured=>match fn with
    | .func f=>cand (Nat.beq first.size 0&&Nat.blt f YB)<|match Qwt (captured.toList.map ev) with
      |some cs=>K (.clo f cs) R
      |none=>False
    |_=>False
  |_=>False
def pos(r:Nat):List Nat->Nat->Nat
 |[],k=>k
 |x::l,k=>match Nat.beq x r with|true=>k|false=>pos r l (k+1)
def memB(r:Nat):List Nat->Bool
 |[]=>false
 |x::l=>match Nat.beq x r with|true=>true|false=>memB r l
def subB:List Nat->List Nat->Bool
 |[],_=>true
 |x::l,m=>match memB x m with|true=>subB l m|false=>false
def disB:List Nat->List Nat->Bool
 |[],_=>true
 |x::l,m=>match memB x m with|true=>false|false=>disB l m
def addB:List Nat->List Nat->List Nat
 |ids,[]=>ids
 |ids,x::l=>match memB x ids with|true=>addB ids l|false=>addB (ids++[x]) l
def Qjn:List Nat->Bool
 |[]=>true
 |x::l=>match memB x l with|true=>false|false=>Qjn l
def capL1:Cap->List Nat| .ptr r _ _=>[r]| .arr r=>[r]| .fn _ ps=>ps.map (·.1)|_=>[]
def capL:List Cap->List Nat
 |[]=>[]
 |x::l=>capL1 x++capL l
def Cap.ren(f:Nat->Nat)(keep:Bool):Cap->Cap
 | .ptr r i off=> .ptr (f r) i off
 | .int k n=> .int k n
 | .arr r=> .arr (f r)
 | .sl a b fr=> .sl a b (fr&&keep)
 | .fn g ps=> .fn g (ps.map λp=>(f p.1,p.2))
def Q5v:D->List Nat| .clo _ cs=>capL cs| .selfp r=>[r]| .all r=>[r]| .own r _ _=>[r]| .ptr r _ _=>[r]| .pa r _ _ _ _ _=>[r]|_=>[]
def Q8x:List D->List Nat
 |[]=>[]
 |d::l=>Q5v d++Q8x l
def Qzd:D->List Nat| .agg cs=>Q8x cs|d=>Q5v d
def D.kill1(ks:List Nat):D->D
 | .all r=>match memB r ks with|true=> .dead|false=> .all r
 | .own r o n=>match memB r ks with|true=> .dead|false=> .own r o n
 | .ptr r i off=>match memB r ks with|true=> .dead|false=> .ptr r i off
 | .pa r i off l k n=>match memB r ks with|true=> .dead|false=> .pa r i off l k n
 | .selfp r=>match memB r ks with|true=> .dead|false=> .selfp r
 | .clo f cs=>match disB (capL cs) ks with|true=> .clo f cs|false=> .dead
 |d=>d
def D.kills(ks:List Nat):List D->List D
 |[]=>[]
 |d::l=>d.kill1 ks::kills ks l
def D.kill(ks:List Nat):D->D
 | .agg cs=> .agg (D.kills ks cs)
 |d=>d.kill1 ks
def D.killT(ks:List Nat):List D->List D
 |[]=>[]
 |d::l=>d.kill ks::killT ks l
def D.killV(ks:List Nat):D->D
 | .tup ds=> .tup (D.killT ks ds)
 |d=>d.kill ks
def Row.kill(ks:List Nat):Row->Row
 |⟨true,ty,sz, .gen [e]⟩=>⟨true,ty,sz, .gen [D.kills ks e]⟩
 |r=>r
def Qh5(ks:List Nat):Rows->Nat->Rows
 |[],_=>[]
 |x::l,i=>(match memB i ks with|true=>none|false=>match x with|some row=>some (row.kill ks)|none=>none)::Qh5 ks l (i+1)
def Z3e(ks:List Nat):List (Nat×D)->(List (Nat×D)->Prop)->Prop
 |[],K=>K []
 |(t,d)::l,K=>(d.killV ks).force λd=>Z3e ks l λl=>K ((t,d)::l)
def Q82(s:List UInt8):List Int:=s.map λb=>(b.toNat:Int)
def bytesOf(l:List Int):List UInt8:=l.map λn=>UInt8.ofNat n.toNat
def srcOf(R:Rows):D->Option (Nat×Els)
 | .nils=>some (0, .gen [])
 | .emp=>some (0, .gen [])
 | .sl sz es _=>some (sz,es)
 | .all r=>match R.getD r none with|some ⟨false,_,sz,es⟩=>some (sz,es)|_=>none
 | .own r o n=>match R.getD r none with|some ⟨false,_,sz,es⟩=>some (sz,(es.drop o).take n)|_=>none
 |_=>none
def srcT(R:Rows)(ke kx:TK)(y:D):Option (Nat×Els):=
 match kx with
 | .slice _ _=>srcOf R y
 | .string=>match ke,y with
   | .int .u8, .str s=>some (1, .ints .u8 (Q82 s))
   |_,_=>none
 |_=>none
def Z49:Els->Bool| .gen []=>true|_=>false
def Qrs(e sz by':Nat)(R:Rows)(ks:List Nat)(es ys:Els)(K:List Nat->D->Rows->Prop):Prop:=
 cand (decide (by'*(es.len+ys.len)<=140737488355328))<|Qbm (Qh5 ks R 0++[some ⟨false,e,sz,es.app ys⟩]) λR'=>K ks (.all R.length) R'
def Z9o (T:Tab)(M:Nat)(t tx:TypeId)(x y:D)(R:Rows)(K:List Nat->D->Rows->Prop):Prop:=
  match T.get t with
  | some ⟨.slice e esz,_,_,_,_,_⟩=>match T.get e,T.get tx with
    | some ⟨ke,sz,by',_,some z,_⟩,some ⟨kx,_,_,_,_,_⟩=>match srcT R ke kx y with
      | some (sy,ys)=>cand ((Nat.blt 0 sz&&Nat.beq esz sz)&&(Nat.beq z.length sz&&z.all D.plain)&&(Nat.blt 0 by'&&(Nat.beq sy sz||Z49 ys)))<|
        match x with
        | .nils=>Qrs e sz by' R [] (.gen []) ys K
        | .emp=>Qrs e sz by' R [] (.gen []) ys K
        | .all r=>match R.getD r none with
          |some ⟨false,ty,s,es⟩=>cand ((Nat.beq s sz&&Nat.beq ty e)&&Nat.ble M r) (Qrs e sz by' R [r] es ys K)
          |_=>False
        | .own r o n=>match R.getD r none with
          |some ⟨false,ty,s,es⟩=>cand ((Nat.beq s sz&&Nat.beq ty e)&&(Nat.ble M r&&Nat.beq o 0)) (Qrs e sz by' R [r] (es.take n) ys K)
          |_=>False
        |_=>False
      |none=>False
    |_,_=>False
  |_=>False
def copyVC(T:Tab)(t tx:TypeId)(x y:D)(R:Rows)(K:D->Rows->Prop):Prop:=
  match T.get t with
  | some ⟨.slice e esz,_,_,_,_,_⟩=>match T.get e,T.get tx with
    | some ⟨ke,sz,_,_,_,_⟩,some ⟨kx,_,_,_,_,_⟩=>match srcT R ke kx y with
      | some (sy,ys)=>cand ((Nat.blt 0 sz&&Nat.beq esz sz)&&(Nat.beq sy sz||Z49 ys))<|
        match x with
        | .all r=>match R.getD r none with
          |some ⟨false,ty,s,es⟩=>cand (Nat.beq s sz)<|Qbm (R.set r (some ⟨false,ty,s,(ys.take (min ys.len es.len)).app (es.drop (min ys.len es.len))⟩)) λR'=>K (.int .i64 (min ys.len es.len:Nat)) R'
          |_=>False
        | .own r o n=>match R.getD r none with
          |some ⟨false,ty,s,es⟩=>cand (Nat.beq s sz)<|Qbm (R.set r (some ⟨false,ty,s,((es.take o).app (ys.take (min ys.len n))).app (es.drop (o+min ys.len n))⟩)) λR'=>K (.int .i64 (min ys.len n:Nat)) R'
          |_=>False
        |_=>False
      |none=>False
    |_,_=>False
  |_=>False
inductive Ans where
 |no
 |ok (res:D) (rows:List Row)
 |when (p:Prop) (res:D) (rows:List Row)
 |abs (α:Type) (v:α) (res:α->D) (rows:α->List Row)
 |absW (p:Prop) (α:Type) (v:α) (res:α->D) (rows:α->List Row)
structure Q0d where
 f:FuncId
 refs:List Bool
 flat:Bool
 m:List D->List Row->Ans
 gone:Option Nat
 frz:Bool
def Qdt:List Q0d->FuncId->Option Q0d
 |[],_=>none
 |x::l,f=>match Nat.beq x.f f with|true=>some x|false=>Qdt l f
def Qzf(R:Rows):D->Option D
 | .bool b=>some (.bool b)
 | .int k n=>some (.int k n)
 | .str s=>some (.str s)
 | .nilp=>some .nilp
 | .nilif=>some .nilif
 | .nils=>some (.sl 0 (.gen []) false)
 | .emp=>some (.sl 0 (.gen []) false)
 | .sl a b _=>some (.sl a b false)
 | .all r=>match R.getD r none with|some row=>(match row.box with|false=>some (.sl row.sz row.es false)|true=>none)|none=>none
 | .own r o n=>match R.getD r none with|some row=>(match row.box with|false=>some (.sl row.sz ((row.es.drop o).take n) false)|true=>none)|none=>none
 |_=>none
def Z5q(R:Rows):List D->Option (List D)
 |[]=>some []
 |d::ds=>match Qzf R d,Z5q R ds with|some x,some xs=>some (x::xs)|_,_=>none
def conv(R:Rows):D->Option D
 | .agg cs=>(Z5q R cs).map .agg
 |d=>Qzf R d
def D.ren1(f:Nat->Nat)(keep:Bool):D->D
 | .all r=> .all (f r)
 | .own r o n=> .own (f r) o n
 | .ptr r i off=> .ptr (f r) i off
 | .pa r i off l k n=> .pa (f r) i off l k n
 | .sl a b fr=> .sl a b (fr&&keep)
 | .clo g cs=> .clo g (cs.map (Cap.ren f keep))
 | .selfp r=> .selfp (f r)
 |d=>d
def D.rens(f:Nat->Nat)(keep:Bool):List D->List D
 |[]=>[]
 |d::l=>d.ren1 f keep::rens f keep l
def D.ren(f:Nat->Nat)(keep:Bool):D->D
 | .agg cs=> .agg (D.rens f keep cs)
 |d=>d.ren1 f keep
def D.renT(f:Nat->Nat)(keep:Bool):List D->List D
 |[]=>[]
 |d::l=>d.ren f keep::renT f keep l
def D.renV(f:Nat->Nat)(keep:Bool):D->D
 | .tup ds=> .tup (D.renT f keep ds)
 |d=>d.ren f keep
def Row.ren(f:Nat->Nat)(keep:Bool):Row->Row
 |⟨true,ty,sz, .gen [e]⟩=>⟨true,ty,sz, .gen [D.rens f keep e]⟩
 |r=>r
def Qcy(R:Rows):List Nat->List Nat
 |[]=>[]
 |r::l=>(match R.getD r none with|some ⟨true,_,_, .gen [e]⟩=>Q8x e|_=>[])++Qcy R l
def Qhj:List Bool->List D->List Nat
 |true::bs,d::ds=>Qzd d++Qhj bs ds
 |false::bs,_::ds=>Qhj bs ds
 |_,_=>[]
def Q3m:List Bool->List D->List Nat
 |true::bs,_::ds=>Q3m bs ds
 |false::bs,d::ds=>Qzd d++Q3m bs ds
 |[],d::ds=>Qzd d++Q3m [] ds
 |_,[]=>[]
def Q9p(R:Rows)(bs:List Bool)(args:List D):List Nat:=
 let a:=addB [] (Qhj bs args)
 let b:=addB a (Qcy R a)
 addB b (Qcy R b)
def Qgz(R:Rows)(f:Nat->Nat):List Nat->Option (List Row)
 |[]=>some []
 | r::l=>match R.getD r none,Qgz R f l with
   |some row,some rs=>some (row.ren f false::rs)
   |_,_=>none
def Qih(R:Rows)(f:Nat->Nat):List Bool->List D->Option (List D)
 |true::bs,d::ds=>match d.isVal,Qih R f bs ds with|true,some xs=>some (d.ren f false::xs)|_,_=>none
 |false::bs,d::ds=>match conv R d,Qih R f bs ds with|some x,some xs=>some (x::xs)|_,_=>none
 |[],d::ds=>match conv R d,Qih R f [] ds with|some x,some xs=>some (x::xs)|_,_=>none
 |_,[]=>some []
def bk(ids:List Nat)(n0:Nat)(i:Nat):Nat:=match ids[i]? with|some r=>r|none=>n0+(i-ids.length)
def Q7i(f:Nat->Nat):List Nat->List Row->Rows->Rows
 |r::ids,row::rows,R=>Q7i f ids rows (R.set r (some (row.ren f true)))
 |_,_,R=>R
def Qbi(f:Nat->Nat)(rows:List Row):Rows:=rows.map λrow=>some (row.ren f true)
inductive Ex where
 |normal|exit (id:Nat)|ret
def St.put(N:Nat)(st:St)(dst:Option Tmp)(d:D)(R:Rows)(K:St->Prop):Prop:=
 match dst with
 |none=>K ⟨st.env,R⟩
 |some t=>cand (Nat.blt t N) (K ⟨(t,d)::st.env,R⟩)
def St.know(st:St)(c:Operand)(b:Bool):St:=
 match c with
 | .tmp t=>⟨(t, .bool b)::st.env,st.rows⟩
 |_=>st
def Qu4(R:Rows)(ids:List Nat)(res:D)(rows':List Row)(K:D->Rows->Prop):Prop:=
 cand (Nat.ble ids.length rows'.length)<|(res.renV (bk ids R.length) true).force λres=>
   Qbm (Q7i (bk ids R.length) ids rows' R++Qbi (bk ids R.length) (rows'.drop ids.length)) λR=>K res R
def callG(G:List Q0d)(f:FuncId)(args:List D)(R:Rows)(K:D->Rows->Prop):Prop:=
 match Qdt G f with
 | some x=>
   match Qih R (λr=>pos r (Q9p R x.refs args) 0) x.refs args,Qgz R (λr=>pos r (Q9p R x.refs args) 0) (Q9p R x.refs args) with
   | some az,some rows=>
     cand ((x.flat&&(match Q9p R x.refs args with|[]=>true|_=>false)||(match Q3m x.refs args with|[]=>true|_=>false))&&
       (subB (Qhj x.refs args) (Q9p R x.refs args)&&subB (Qcy R (Q9p R x.refs args)) (Q9p R x.refs args))&&
       (Qjn (Q9p R x.refs args)&&disB (Q3m x.refs args) (Q9p R x.refs args)))<|
     match x.m az rows with
     | .ok res rows'=>Qu4 R (Q9p R x.refs args) res rows' K
     | .when p res rows'=>p/\Qu4 R (Q9p R x.refs args) res rows' K
     | .abs _ v res rows'=> ∀X,X=v->Qu4 R (Q9p R x.refs args) (res X) (rows' X) K
     | .absW p _ v res rows'=>p/\ ∀X,X=v->Qu4 R (Q9p R x.refs args) (res X) (rows' X) K
     | .no=>False
   |_,_=>False
 |none=>False
def Q83(G:List Q0d)(f:FuncId):Option Nat:=match Qdt G f with|some x=>x.gone|none=>none
def Qbt(f:Nat->Nat):List Nat->List Row->Rows->Rows
 |r::ids,row::rows,R=>Qbt f ids rows (R.set r (some (row.ren f false)))
 |_,_,R=>R
def Ql7(f:Nat->Nat)(rows:List Row):Rows:=rows.map λrow=>some (row.ren f false)
def Z3j(R:Rows)(kid gid:List Nat)(res:D)(rows':List Row)(K:List Nat->D->Rows->Prop):Prop:=
 cand (Nat.ble kid.length rows'.length)<|(res.renV (bk kid R.length) false).force λres=>
   Qbm (Qbt (bk kid R.length) kid rows' (Qh5 gid R 0)++Ql7 (bk kid R.length) (rows'.drop kid.length)) λR=>K gid res R
def Z57(G:List Q0d)(M:Nat)(f:FuncId)(k:Nat)(args:List D)(R:Rows)(K:List Nat->D->Rows->Prop):Prop:=
 match Qdt G f with
 | some x=>
   match Qih R (λr=>pos r (Q9p R x.refs args) 0) x.refs args,Qgz R (λr=>pos r (Q9p R x.refs args) 0) (Q9p R x.refs args) with
   | some az,some rows=>
     cand (((match Q3m x.refs args with|[]=>true|_=>false)&&(match x.refs with|[]=>false|_=>true))&&
       (subB (Qhj x.refs args) (Q9p R x.refs args)&&subB (Qcy R (Q9p R x.refs args)) (Q9p R x.refs args))&&
       (Qjn (Q9p R x.refs args)&&((Q9p R x.refs args).drop k).all λr=>Nat.ble M r))<|
     match x.m az rows with
     | .abs _ v res rows'=> ∀X,X=v->Z3j R ((Q9p R x.refs args).take k) ((Q9p R x.refs args).drop k) (res X) (rows' X) K
     | .absW p _ v res rows'=>p/\ ∀X,X=v->Z3j R ((Q9p R x.refs args).take k) ((Q9p R x.refs args).drop k) (res X) (rows' X) K
     |_=>False
   |_,_=>False
 |none=>False
def Qsw(G:List Q0d)(f:FuncId):Bool:=match Qdt G f with|some x=>x.frz|none=>false
def callF(G:List Q0d)(M:Nat)(f:FuncId)(args:List D)(R:Rows)(K:List Nat->D->Rows->Prop):Prop:=
 match Qdt G f with
 | some x=>
   match Qih R (λr=>r) [] args,Qgz R (λr=>pos r (addB [] (Q3m [] args)) 0) (addB [] (Q3m [] args)) with
   | some az,some rows=>
     cand (((match x.refs with|[]=>true|_=>false)&&rows.all λr=>!r.box)&&(Qjn (addB [] (Q3m [] args))&&(subB (Q3m [] args) (addB [] (Q3m [] args))&&(addB [] (Q3m [] args)).all λr=>Nat.ble M r)))<|
     match x.m az [] with
     | .abs _ v res rows'=> ∀X,X=v->Z3j R [] (addB [] (Q3m [] args)) (res X) (rows' X) K
     | .absW p _ v res rows'=>p/\ ∀X,X=v->Z3j R [] (addB [] (Q3m [] args)) (res X) (rows' X) K
     |_=>False
   |_,_=>False
 |none=>False
def Z3a:D->Bool| .clo _ _=>false| .selfp _=>false| .all _=>false| .own _ _ _=>false| .ptr _ _ _=>false| .pa _ _ _ _ _ _=>false|_=>true
def Z70:List D->Bool
 |[]=>true
 |d::l=>match Z3a d with|true=>Z70 l|false=>false
def noRef:D->Bool| .agg cs=>Z70 cs|d=>Z3a d
def Z68:List D->Bool
 |[]=>true
 |d::l=>match noRef d with|true=>Z68 l|false=>false
def noRefV:D->Bool| .tup ds=>Z68 ds|d=>noRef d
def Qx(R:Rows)(res:D)(rows':List Row)(K:D->Rows->Prop):Prop:=
 match rows' with
 |[]=>cand (noRefV res) (res.force λres=>K res R)
 |_=>(res.renV (bk [] R.length) true).force λres=>Qbm (R++Qbi (bk [] R.length) rows') λR=>K res R
def isNilN:List Nat->Bool|[]=>true|_=>false
def Qvu(G:List Q0d)(f:FuncId)(args:List D)(R:Rows)(K:D->Rows->Prop):Prop:=
 match Qdt G f with
 | some x=>match x.refs with
   | []=>match Qih R (λr=>r) [] args with
     | some az=>cand (x.flat||isNilN (Q3m [] args))<|match x.m az [] with
       | .ok res rows'=>Qx R res rows' K
       | .when p res rows'=>p/\Qx R res rows' K
       | .abs _ v res rows'=> ∀X,X=v->Qx R (res X) (rows' X) K
       | .absW p _ v res rows'=>p/\ ∀X,X=v->Qx R (res X) (rows' X) K
       | .no=>False
     |none=>False
   |_=>callG G f args R K
 |none=>False
def strVC(T:Tab)(e d:TypeId)(x:D)(R:Rows)(K:D->Prop):Prop:=
 match T.get e,T.get d with
 | some ⟨.int .u8,_,_,_,_,_⟩,some ⟨.string,_,_,_,_,_⟩=>match srcOf R x with
   | some (s,es)=>match es.toI .u8 with
     |some l=>cand (Nat.beq s 1||Z49 es) (K (.str (bytesOf l)))
     |none=>False
   |none=>False
 |_,_=>False
def Els.Nil:Els->Prop
 | .gen es=>es=[]
 | .ints _ l=>l=[]
 | .bools l=>l=[]
 | .recs _ l=>l=[]
def nilVC(T:Tab)(t:TypeId)(es:Els)(K:D->Prop):Prop:=
 match T.get t with
 |some ⟨.slice _ _,_,_,_,_,_⟩=>K (.nilq es)
 |_=>False
def minVC(mx:Bool)(x y:D)(K:D->Prop):Prop:=
 match x,y with
 | .int k a, .int k' b=>cand (decide (k=k')) (K (.int k (match mx with|true=>(if b>a then b else a)|false=>(if b<a then b else a))))
 |_,_=>False
def doVC(T:Tab)(G:List Q0d)(N M:Nat)(o:Oper)(st:St)(K:St->Prop):Prop:=
  match o.op with
  | .pick c a b=>match evOp st.env c with
    | .bool t=>Qu9 t ((evOp st.env a).force λd=>st.put N o.dst d st.rows K) ((evOp st.env b).force λd=>st.put N o.dst d st.rows K)
    |_=>False
  | .call {callee:= .value (.func f),args, .. }=>match Q83 G f with
    | none=>match Qsw G f with
      |false=>Qvu G f (args.toList.map (evOp st.env)) st.rows λd R=>st.put N o.dst d R K
      |true=>callF G M f (args.toList.map (evOp st.env)) st.rows λks d R=>Z3e ks st.env λenv=>St.put N ⟨env,R⟩ o.dst d R K
    |some k=>cand (Nat.blt f YB)<|Z57 G M f k (args.toList.map (evOp st.env)) st.rows λks d R=>Z3e ks st.env λenv=>St.put N ⟨env,R⟩ o.dst d R K
  | .call {callee:= .value (.tmp t),args, .. }=>match look st.env t with
    | .clo f cs=>match Q83 G f with
      | none=>match Qsw G f with
        |false=>Qvu G f (args.toList.map (evOp st.env)++cs.map Cap.d) st.rows λd R=>st.put N o.dst d R K
        |true=>False
      |some k=>cand (Nat.blt f YB||Nat.beq args.size 1)<|Z57 G M f k (args.toList.map (evOp st.env)++cs.map Cap.d) st.rows λks d R=>Z3e ks st.env λenv=>St.put N ⟨env,R⟩ o.dst d R K
    |_=>False
  | .call {callee:= .builtin .append,args,argTypes}=>match args.toList,argTypes.toList with
    |[x,y],[t,tx]=>Z9o T M t tx (evOp st.env x) (evOp st.env y) st.rows λks d R=>Z3e ks st.env λenv=>St.put N ⟨env,R⟩ o.dst d R K
    |_,_=>False
  | .call {callee:= .builtin .copy,args,argTypes}=>match args.toList,argTypes.toList with
    |[x,y],[t,tx]=>copyVC T t tx (evOp st.env x) (evOp st.env y) st.rows λd R=>st.put N o.dst d R K
    |_,_=>False
  | .call {callee:= .builtin .min,args, .. }=>match args.toList with
    |[x,y]=>minVC false (evOp st.env x) (evOp st.env y) λd=>st.put N o.dst d st.rows K
    |_=>False
  | .call {callee:= .builtin .max,args, .. }=>match args.toList with
    |[x,y]=>minVC true (evOp st.env x) (evOp st.env y) λd=>st.put N o.dst d st.rows K
    |_=>False
  | .convert s d x=>match T.get s with
    |some ⟨.slice e _,_,_,_,_,_⟩=>strVC T e d (evOp st.env x) st.rows λd=>st.put N o.dst d st.rows K
    |_=>opVC T (.convert s d x) (evOp st.env) st.rows λd R=>st.put N o.dst d R K
  | .binOp op t x y ty=>match op,evOp st.env x,evOp st.env y with
    | .eql, .sl _ es _, .nils=>nilVC T t es λd=>st.put N o.dst d st.rows K
    |_,_,_=>opVC T (.binOp op t x y ty) (evOp st.env) st.rows λd R=>st.put N o.dst d R K
  |op=>opVC T op (evOp st.env) st.rows λd R=>st.put N o.dst d R K
def Q8y(T:Tab)(G:List Q0d)(N M:Nat)(ops:Array Oper):List Oper->St->(St->Prop)->Prop
  |[],st,K=>K st
  | o :: l, st,K=>match o.guard with
    |none=>doVC T G N M o st λst=>Q8y T G N M ops l st K
    | some (j,want)=>match(ops[j]?).bind (·.dst) with
      | some g=>match look st.env g with
        | .bool b=>Qu9 b
            (match want with|true=>doVC T G N M o (st.know (.tmp g) true) λst=>Q8y T G N M ops l st K|false=>(st.know (.tmp g) true).put N o.dst (.tup []) st.rows λst=>Q8y T G N M ops l st K)
            (match want with|false=>doVC T G N M o (st.know (.tmp g) false) λst=>Q8y T G N M ops l st K|true=>(st.know (.tmp g) false).put N o.dst (.tup []) st.rows λst=>Q8y T G N M ops l st K)
        | .tup []=>st.put N o.dst (.tup []) st.rows λst=>Q8y T G N M ops l st K
        |_=>False
      |none=>False
def isW(G:List Q0d):Op->Bool
 | .store _ _ _=>true
 | .call {callee:= .value (.func f), .. }=>match Qdt G f with|some x=>(match x.refs with|[]=>x.frz|_=>true)|none=>true
 | .call {callee:= .value (.tmp _), .. }=>true
 | .call {callee:= .builtin .append, .. }=>true
 | .call {callee:= .builtin .copy, .. }=>true
 |_=>false
def Q1x(G:List Q0d)(o:Op):Bool:=!isW G o
def pairOK(G:List Q0d)(ops:Array Oper)(b:Array Nat)(i j:Nat):Bool:=
 match ops[i]?,ops[j]? with
 | some x,some y=>
   (x.apart ops y||(b.getD j 0).testBit i)&&((Q1x G x.op&&Q1x G y.op)||(b.getD j 0).testBit i)
 |_,_=>true
def Qtd(G:List Q0d)(ops:Array Oper):Bool:=
 let b:=Region.before ops
 (List.range ops.size).all λj=>(match ops[j]? with|some o=>o.after.all λe=>!Region.binds .any e||Nat.blt e.on j|none=>true)&&(List.range j).all λi=>pairOK G ops b i j
def Q7c(ops:Array Oper)(i a:Nat):Bool:=(ops.toList.drop i).all λo=>match o.dst with|some d=>!(Nat.beq d a)|none=>true
def Q4w:List Operand->List Nat
 |[]=>[]
 | .tmp a::l=>a::Q4w l
 |_::l=>Q4w l
def Q4r:Op->Option (List Nat)
 | .assign x=>some (Q4w [x])
 | .move x=>some (Q4w [x])
 | .extract x _=>some (Q4w [x])
 | .nilCheck x=>some (Q4w [x])
 | .fieldAddr _ x _=>some (Q4w [x])
 | .buildSlice _ _ parts=>some (Q4w (parts.toList.map (·.2)))
 |_=>none
def Q8j(env:List (Nat×D))(op:Op):Option (List Nat):=
 match Q4r op with
 |some q=>some q
 | none=>match op with
   | .build _ parts=>some (Q4w (parts.toList.map (·.2)))
   | .binOp _ _ x y _=>match evOp env x with| .int _ _=>some (Q4w [x,y])| .str _=>some (Q4w [x,y])| .bool _=>some (Q4w [x,y])|_=>none
   | .unOp _ _ x=>some (Q4w [x])
   | .convert _ _ x=>match evOp env x with| .int _ _=>some (Q4w [x])| .str _=>some (Q4w [x])|_=>none
   | .field _ x _=>some (Q4w [x])
   | .index _ x y=>some (Q4w [x,y])
   | .slice _ x (some y) (some z) none=>match evOp env x with| .str _=>some (Q4w [x,y,z])|_=>none
   | .slice _ x (some y) none none=>match evOp env x with| .str _=>some (Q4w [x,y])|_=>none
   | .slice _ x none (some z) none=>match evOp env x with| .str _=>some (Q4w [x,z])|_=>none
   | .indexAddr _ x y=>match evOp env x with| .sl _ _ _=>some (Q4w [x,y])|_=>none
   | .load _ x=>match evOp env x with| .iptr _ _ _ _=>some (Q4w [x])|_=>none
   | .call {callee:= .builtin .len,args, .. }=>match args.toList with|[x]=>(match evOp env x with| .str _=>some (Q4w [x])| .sl _ _ _=>some (Q4w [x])|_=>none)|_=>none
   |_=>none
def Qos:D->Bool| .ptr _ _ _=>true|_=>false
def Qr8:D->Bool| .emp=>true| .nils=>true|_=>false
def empApp(ops:Array Oper)(env:List (Nat×D))(i j:Nat)(op:Op)(l:List Operand):Bool:=
 match op,l with
 | .load _ (.tmp a), .tmp x::_=>Q7c ops i a&&(Q7c ops j x&&(Qos (look env a)&&Qr8 (look env x)))
 |_,_=>false
def datD:D->Bool| .int _ _=>true| .str _=>true| .bool _=>true| .sl _ _ _=>true| .all _=>true|_=>false
def datApp(ops:Array Oper)(env:List (Nat×D))(i:Nat)(op:Op)(dst:Option Nat):Bool:=
 match op,dst with
 | .load _ (.tmp a),some t=>Q7c ops i a&&(Qos (look env a)&&(Q7c ops (i+1) t&&datD (look env t)))
 |_,_=>false
def Z8b(G:List Q0d)(ops:Array Oper)(env:List (Nat×D))(i j:Nat):Bool:=
 match ops[i]?,ops[j]? with
 | some x,some y=>(match x.guard,y.guard,x.op,y.op with
   |none,none, .load _ (.tmp a), .store _ (.tmp b) _=>Q7c ops i a&&(Q7c ops j b&&(match look env a,look env b with| .ptr r _ _, .ptr r' _ _=>!(Nat.beq r r')| .iptr _ _ _ _, .ptr _ _ _=>true|_,_=>false))
   |none,none,op, .store _ (.tmp b) _=>(match Q8j env op with|some q=>(q.all λa=>Q7c ops i a)&&(Q7c ops j b&&(match look env b with| .ptr _ _ _=>true|_=>false))|none=>false)
   |none,none,op, .call {callee:= .value (.func f), .. }=>(match(match Q83 G f with|some _=>true|none=>Qsw G f) with|true=>false|false=>match Q8j env op with|some q=>q.all λa=>Q7c ops i a|none=>false)
   |none,none,op, .call {callee:= .builtin .append,args, .. }=>(match Q4r op with|some q=>(q.all λa=>Q7c ops i a&&Qos (look env a))&&(match x.dst with|some t=>Q7c ops (i+1) t&&Qos (look env t)|none=>true)|none=>empApp ops env i j op args.toList||datApp ops env i op x.dst)
   |_,_,_,_=>false)
 |_,_=>false
def allocB(ops:Array Oper)(j:Nat):Bool:=
 match ops[j]? with
 | some y=>match y.guard,y.op with
   |none, .alloc _=>(match y.dst with|none=>true|some u=>(List.range ops.size).all λk=>Nat.beq k j||(match(ops[k]?).bind (·.dst) with|some d=>!(Nat.beq d u)|none=>true))
   |_,_=>false
 |none=>false
def pairOK2(G:List Q0d)(ops:Array Oper)(env:List (Nat×D))(b:Array Nat)(i j:Nat):Bool:=
 match ops[i]?,ops[j]? with
 | some x,some y=>
   (x.apart ops y||(b.getD j 0).testBit i)&&((Q1x G x.op&&Q1x G y.op)||(b.getD j 0).testBit i||(Z8b G ops env i j||allocB ops j))
 |_,_=>true
def Qrt(G:List Q0d)(ops:Array Oper)(env:List (Nat×D)):Bool:=
 let b:=Region.before ops
 (List.range ops.size).all λj=>(match ops[j]? with|some o=>o.after.all λe=>!Region.binds .any e||Nat.blt e.on j|none=>true)&&(List.range j).all λi=>pairOK2 G ops env b i j
def insAt(x:Nat):List Nat->Nat->List Nat
 |l,0=>x::l
 |[],_=>[x]
 |y::l,n+1=>y::insAt x l n
def lastOf(m:Nat):List Nat->Nat->Nat->Nat
 |[],_,r=>r
 |y::l,k,r=>lastOf m l (k+1) (match m.testBit y with|true=>k+1|false=>r)
def hasEmp:List Oper->Bool
 |[]=>false
 |o::l=>match o.op with| .buildSlice _ 0 _=>true|_=>hasEmp l
def earlyOp(e:Bool)(op:Op):Bool:=match Q4r op with|some _=>true|none=>(match op with| .load _ _=>e|_=>false)
def permGo(e:Bool)(ops:Array Oper)(b:Array Nat):List Nat->List Nat->List Nat
 |[],acc=>acc
 | j ::js,acc=>permGo e ops b js (match ops[j]? with
   | some o=>(match o.guard with
     |none=>(match earlyOp e o.op with|true=>insAt j acc (lastOf (b.getD j 0) acc 0 0)|false=>acc++[j])
     |some _=>acc++[j])
   |none=>acc)
def lateL(ops:Array Oper)(b:Array Nat):Bool:=
 (List.range ops.size).any λj=>(match ops[j]? with|some y=>(match y.op with| .load _ _=>true|_=>false)|none=>false)&&(List.range j).any λi=>(match ops[i]? with|some x=>(match x.op with| .call {callee:= .builtin .append, .. }=>true|_=>false)|none=>false)&&!((b.getD j 0).testBit i)
def Z7e(ops:Array Oper):List Nat:=permGo (hasEmp ops.toList||lateL ops (Region.before ops)) ops (Region.before ops) (List.range ops.size) []
def Z7o(p:List Nat)(n:Nat):Bool:=Nat.beq p.length n&&(((List.range n).all λi=>memB i p)&&((p.all λi=>Nat.blt i n)&&Qjn p))
def remapE(p:List Nat)(e:Edge):Edge:=⟨pos e.on p 0,e.ground⟩
def Qx5(p:List Nat)(o:Oper):Oper:=⟨o.dst,o.op,o.type,o.pos,o.after.map (remapE p),match o.guard with|none=>none|some (j,w)=>some (pos j p 0,w)⟩
def Q33(p:List Nat)(ops:Array Oper):Array Oper:=(p.map λi=>Qx5 p (ops.getD i default)).toArray
def drawVC(T:Tab)(G:List Q0d)(N M:Nat)(ops:Array Oper)(st:St)(Q:Ex->St->Prop):Prop:=
 match Qtd G ops with
 |true=>Q8y T G N M ops ops.toList st λst=>Q .normal st
 |false=>cand (Z7o (Z7e ops) ops.size)<|Q8y T G N M (Q33 (Z7e ops) ops) (Q33 (Z7e ops) ops).toList st λst=>cand (Qrt G (Q33 (Z7e ops) ops) st.env) (Q .normal st)
def Qof(i n:Nat):List D->Option (List D)
 |[]=>none
 | d::l=>match d,l with
   | .nilp, .nils::m=>some (.selfp i:: .all n::m)
   |d,l=>match Qof i n l with|some l'=>some (d::l')|none=>none
def bldTy(T:Tab)(t:TypeId):Bool:=match T.get t with|some ⟨_,_,_,_,some ds,_⟩=>(match Qof 0 0 ds with|some _=>true|none=>false)|_=>false
def hasBld(T:Tab):List Oper->Bool
 |[]=>false
 |o::l=>match o.op with| .alloc t=>(match bldTy T t with|true=>true|false=>hasBld T l)|_=>hasBld T l
def u8Of:Tab->Option TypeId
 |[]=>none
 |(u,i)::l=>match i.kind with| .int .u8=>some u|_=>u8Of l
def bldC(T:Tab):Code->Option TypeId
 | .region _ ops _=>(match hasBld T ops.toList with|true=>u8Of T|false=>none)
 |_=>none
def Qkb(n:Nat):Rows->Nat->Option (Nat×TypeId×Nat×List D)
 |[],_=>none
 | x::l,i=>match x with
   |some ⟨true,ty,sz, .gen [e]⟩=>(match Qof i n e with|some e'=>some (i,ty,sz,e')|none=>Qkb n l (i+1))
   |_=>Qkb n l (i+1)
def bldK(T:Tab)(a:Code)(st:St)(K:St->Prop):Prop:=
 match bldC T a with
 |none=>K st
 | some u=>match Qkb st.rows.length st.rows 0 with
   |none=>K st
   |some (i,ty,sz,e)=>D.forceL e λe=>Qbm (st.rows.set i (some ⟨true,ty,sz, .gen [e]⟩)++[some ⟨false,u,1, .ints .u8 []⟩]) λR=>K ⟨st.env,R⟩
def D.frz1(R:Rows)(ks:List Nat):D->D
 | .all r=>match memB r ks with
   |true=>(match R.getD r none with|some ⟨false,_,sz,es⟩=> .sl sz es false|_=> .dead)
   |false=> .all r
 | .ptr r i off=>match memB r ks with
   |true=>(match R.getD r none with|some ⟨true,_,sz, .gen [e]⟩=>(match e.all D.plain with|true=> .iptr sz (.gen [e]) i off|false=> .dead)|_=> .dead)
   |false=> .ptr r i off
 |d=>d.kill1 ks
def D.frzs(R:Rows)(ks:List Nat):List D->List D
 |[]=>[]
 |d::l=>d.frz1 R ks::frzs R ks l
def D.frzd(R:Rows)(ks:List Nat):D->D
 | .agg cs=> .agg (D.frzs R ks cs)
 |d=>d.frz1 R ks
def D.frzT(R:Rows)(ks:List Nat):List D->List D
 |[]=>[]
 |d::l=>d.frzd R ks::frzT R ks l
def D.frzV(R:Rows)(ks:List Nat):D->D
 | .tup ds=> .tup (D.frzT R ks ds)
 |d=>d.frzd R ks
def Row.frzr(R:Rows)(ks:List Nat):Row->Row
 |⟨true,ty,sz, .gen [e]⟩=>⟨true,ty,sz, .gen [D.frzs R ks e]⟩
 |r=>r
def Qx9(R0:Rows)(ks:List Nat):Rows->Nat->Rows
 |[],_=>[]
 |x::l,i=>(match memB i ks with|true=>none|false=>match x with|some row=>some (row.frzr R0 ks)|none=>none)::Qx9 R0 ks l (i+1)
def frzE(R:Rows)(ks:List Nat):List (Nat×D)->(List (Nat×D)->Prop)->Prop
 |[],K=>K []
 |(t,d)::l,K=>(d.frzV R ks).force λd=>frzE R ks l λl=>K ((t,d)::l)
def allsL:List D->List Nat
 |[]=>[]
 |d::l=>(match d with| .all r=>[r]|_=>[])++allsL l
def allsD:D->List Nat| .agg cs=>allsL cs| .all r=>[r]|_=>[]
def boxAlls(R:Rows)(n:Nat)(d:D):List Nat:=
 match d with
 | .ptr r _ off=>match R.getD r none with|some ⟨true,_,_, .gen [e]⟩=>allsL ((e.drop off).take n)|_=>[]
 |_=>[]
def lookA:List (Nat×List Nat)->Nat->Option (List Nat)
 |[],_=>none
 |(u,x)::l,t=>match Nat.beq u t with|true=>some x|false=>lookA l t
def Z92(env:List (Nat×D)):List (Nat×D)->Nat->D
 |[],t=>look env t
 |(u,x)::l,t=>match Nat.beq u t with|true=>x|false=>Z92 env l t
def frzSrc(env:List (Nat×D))(acc:List (Nat×List Nat)):Operand->List Nat
 | .tmp t=>match lookA acc t with|some l=>l|none=>allsD (look env t)
 |_=>[]
def frzArgs(env:List (Nat×D))(acc:List (Nat×List Nat)):List Operand->List Nat
 |[]=>[]
 |x::l=>frzSrc env acc x++frzArgs env acc l
def frzAcc(T:Tab)(env:List (Nat×D))(R:Rows)(acc:List (Nat×List Nat))(pa:List (Nat×D))(o:Oper):List (Nat×List Nat):=
 match o.dst with
 |none=>acc
 | some t=>match o.op with
   | .load ty (.tmp p)=>(t,boxAlls R (match T.get ty with|some i=>i.size|none=>0) (Z92 env pa p))::acc
   | .move x=>(t,frzSrc env acc x)::acc
   | .slice _ x _ _ _=>(t,frzSrc env acc x)::acc
   |_=>acc
def frzPtr(T:Tab)(env:List (Nat×D))(pa:List (Nat×D))(o:Oper):List (Nat×D):=
 match o.dst with
 |none=>pa
 | some t=>match o.op with
   | .fieldAddr s (.tmp p) f=>(match Qll T s f with|some (k,_,_)=>(match Z92 env pa p with| .ptr r i off=>(t, .ptr r i (off+k))::pa|_=>pa)|none=>pa)
   | .move (.tmp p)=>(t,Z92 env pa p)::pa
   | .nilCheck (.tmp p)=>(t,Z92 env pa p)::pa
   |_=>pa
def needFz(G:List Q0d)(f:FuncId):Bool:=match Qdt G f with|some x=>x.frz||(match x.refs with|[]=>!x.flat|_=>false)|none=>false
def frzSl(T:Tab)(env:List (Nat×D))(pa:List (Nat×D))(t:TypeId)(p:Nat):List Nat:=
 match T.get t with
 |some ⟨.array _ _ _,_,_,_,_,_⟩=>(match Z92 env pa p with| .ptr r _ _=>[r]|_=>[])
 |_=>[]
def Z6g(T:Tab)(G:List Q0d)(env:List (Nat×D))(R:Rows):List (Nat×List Nat)->List (Nat×D)->List Oper->List Nat
 |_,_,[]=>[]
 |acc,pa,o::l=>(match o.op with| .call {callee:= .value (.func f),args, .. }=>(match needFz G f with|true=>frzArgs env acc args.toList|false=>[])| .slice t (.tmp p) _ _ _=>frzSl T env pa t p|_=>[])++Z6g T G env R (frzAcc T env R acc pa o) (frzPtr T env pa o) l
def okFz(M:Nat)(R:Rows):List Nat->List Nat
 |[]=>[]
 |r::l=>match Nat.ble M r&&(match R.getD r none with|some ⟨false,_,_,_⟩=>true|some ⟨true,_,_, .gen [e]⟩=>e.all D.plain|_=>false) with|true=>r::okFz M R l|false=>okFz M R l
def frzK(T:Tab)(G:List Q0d)(M:Nat)(ops:Array Oper)(st:St)(K:St->Prop):Prop:=
 match okFz M st.rows (Z6g T G st.env st.rows [] [] ops.toList) with
 |[]=>K st
 |ks=>frzE st.rows ks st.env λenv=>Qbm (Qx9 st.rows ks st.rows 0) λR=>K ⟨env,R⟩
def Q80(T:Tab)(G:List Q0d)(N M:Nat)(L:Code->St->(Ex->St->Prop)->Prop):Code->St->(Ex->St->Prop)->Prop
 | .skip,st,Q=>Q .normal st
 | .label _,st,Q=>Q .normal st
 | .region _ ops draw,st,Q=>frzK T G M ops st λst=>match draw with|true=>drawVC T G N M ops st Q|false=>Q8y T G N M ops ops.toList st λst=>Q .normal st
 | .seq a b,st,Q=>Q80 T G N M L a st λe st=>match e with| .normal=>bldK T a st λst=>Q80 T G N M L b st Q| .exit i=>Q (.exit i) st| .ret=>Q .ret st
 | .cond c a b,st,Q=>match evOp st.env c with
   | .bool t=>Qu9 t (Q80 T G N M L a (st.know c true) Q) (Q80 T G N M L b (st.know c false) Q)
   | .nilq es=>(es.Nil->Q80 T G N M L a (st.know c true) Q)/\Q80 T G N M L b (st.know c false) Q
   |_=>False
 | .block id c,st,Q=>Q80 T G N M L c st λe st=>match e with| .normal=>Q .normal st| .exit i=>(match Nat.beq i id with|true=>Q .normal st|false=>Q (.exit i) st)| .ret=>Q .ret st
 | .exit id,st,Q=>Q (.exit id) st
 | .ret,st,Q=>Q .ret st
 | .scope c,st,Q=>Q80 T G N M L c st Q
 |c,st,Q=>L c st Q
def Qz5(T:Tab)(R:Rows)(env:List (Nat×D)):List ResultVar->(List D->Prop)->Prop
 |[],K=>K []
 | .tmp t::l,K=>(look env t).force λd=>cand d.isVal (Qz5 T R env l λds=>K (d::ds))
 | .cell a t::l,K=>Qe3 T t (look env a) R λd _=>cand d.isVal (Qz5 T R env l λds=>K (d::ds))
def inEx(ex:List Nat)(i r:Nat):Bool:=match ex[i]? with|some x=>Nat.beq x r|none=>false
def Z96(ex:List Nat)(r:Nat):Bool:=ex.all λx=>!(Nat.beq x r)
def Z5c(ex:List Nat)(R:Rows)(i:Nat):Bool:=match ex[i]? with|some r=>(match R.getD r none with|none=>true|some _=>false)|none=>false
def Els.Eq:Els->Els->Prop
 | .ints k l, .ints k' m=>match decide (k=k') with|true=>l=m|false=>(Els.ints k l).l=(Els.ints k' m).l
 | .bools l, .bools m=>l=m
 | .gen es, .gen fs=>es=fs
 | .gen [], .ints _ m=>m=[]
 | .gen [], .bools m=>m=[]
 | .gen [], .recs _ m=>m=[]
 | .recs k l, .recs k' m=>(match Z2o k k' l with|some l'=>l'=m|none=>(Els.recs k l).l=(Els.recs k' m).l)
 |E,F=>E.l=F.l
theorem Els.Eq_l{E F:Els}(h:Els.Eq E F):E.l=F.l:=by
  cases E with
  | gen es=>
    cases es with
    |nil=>cases F<;>simp_all [Els.Eq,Els.l]
    |cons e es=>cases F<;>simp_all [Els.Eq,Els.l]
  | ints k l=>
    cases F with
    | ints k' m=>
      simp only[Els.Eq]at h
      split at h
      . rename_i hk;subst h;rw[oY hk]
      . exact h
    |_=>exact h
  | bools l=>
    cases F with
    |bools m=>simp only[Els.Eq]at h;rw[h]
    |_=>exact h
  | recs k l=>
    cases F with
    | recs k' m=>
      simp only[Els.Eq]at h
      split at h
      . rename_i l' hc
        obtain⟨e,hm⟩:=Qmw hc
        subst e
        simp only at hm
        rw[<-h,<-hm]
      . exact h
    |_=>exact h
theorem Els.Nil_l{E:Els}:E.Nil↔E.l=[]:=by
 cases E<;>simp [Els.Nil,Els.l]
def ptrX(ex:List Nat):List (Nat×Nat×Nat)->List (Nat×Nat×Nat)->Bool
 |[],[]=>true
 |(i,b,c)::l,(r,y,z)::m=>inEx ex i r&&(Nat.beq b y&&(Nat.beq c z&&ptrX ex l m))
 |_,_=>false
def capX(ex:List Nat):List Cap->List Cap->Bool
 |[],[]=>true
 | .ptr i b c::l, .ptr r y z::m=>inEx ex i r&&(Nat.beq b y&&(Nat.beq c z&&capX ex l m))
 | .fn f ps::l, .fn g qs::m=>Nat.beq f g&&(ptrX ex ps qs&&capX ex l m)
 |_,_=>false
def retC(ex:List Nat)(m:Nat)(R:Rows)(d:D)(p:D):Prop:=
 match p with
 | .int k n=>match d with| .int j q=>cand (decide (j=k)) (q=n)|_=>False
 | .bool b=>match d with| .bool a=>a=b|_=>False
 | .str s=>match d with| .str u=>u=s|_=>False
 | .nilp=>match d with| .nilp=>True|_=>False
 | .nilif=>match d with| .nilif=>True|_=>False
 | .clo f cs=>match d with| .clo g ds=>cand (Nat.beq f g&&capX ex cs ds) True|_=>False
 | .ptr i o f=>match d with| .ptr r o' f'=>cand (inEx ex i r&&(Nat.beq o o'&&Nat.beq f f')) True|_=>False
 | .selfp i=>match d with| .nilp=>True| .selfp r=>cand (inEx ex i r) True| .ptr r o f=>cand (inEx ex i r&&(Nat.beq o 0&&Nat.beq f 0)) True|_=>False
 | .nils=>match d with| .nils=>True|_=>False
 | .emp=>match d with| .nils=>True| .emp=>True|_=>False
 | .sl sz es fr=>match d with
   | .nils=>es.Nil
   | .emp=>es.Nil
   | .sl sz' es' fr'=>cand (!fr||fr') ((es'.Nil\/sz'=sz)/\Els.Eq es' es)
   | .all r=>match R.getD r none with
     |some ⟨box,_,sz',es'⟩=>cand (!box&&Nat.beq sz' sz&&Z96 ex r&&Nat.ble m r) (Els.Eq es' es)
     |none=>False
   | .own r o n=>match R.getD r none with
     |some ⟨box,_,sz',es'⟩=>cand (!box&&Nat.beq sz' sz&&Z96 ex r&&Nat.ble m r) (Els.Eq ((es'.drop o).take n) es)
     |none=>False
   |_=>False
 | .all i=>match d with| .all r=>cand (inEx ex i r) True| .nils=>cand (Z5c ex R i) True| .emp=>cand (Z5c ex R i) True|_=>False
 | .own i o n=>match d with| .own r o' n'=>cand (inEx ex i r) (o'=o/\n'=n)|_=>False
 | .dead=>cand d.isOne True
 |_=>False
def Qz7(ex:List Nat)(m:Nat)(R:Rows):List D->List D->Prop
 |[],[]=>True
 |d::ds,p::ps=>retC ex m R d p/\Qz7 ex m R ds ps
 |_,_=>False
def retV(ex:List Nat)(m:Nat)(R:Rows)(d p:D):Prop:=
 match p with
 | .agg ps=>match d with| .agg ds=>Qz7 ex m R ds ps|_=>False
 |p=>retC ex m R d p
def retVs(ex:List Nat)(m:Nat)(R:Rows):List D->List D->Prop
 |[],[]=>True
 |d::ds,p::ps=>retV ex m R d p/\retVs ex m R ds ps
 |_,_=>False
def retD(ex:List Nat)(m:Nat)(R:Rows)(d p:D):Prop:=
 match p with
 | .tup ps=>match d with| .tup ds=>retVs ex m R ds ps|_=>False
 |p=>retV ex m R d p
def Q2n(ex:List Nat)(m:Nat)(R:Rows):List Nat->List Row->Prop
 |[],[]=>True
 | r ::rs,⟨box,ty,sz,es⟩::ps=>(match R.getD r none with
   | some ⟨box',ty',sz',es'⟩=>cand (Bool.xor (!box) box'&&Nat.beq ty ty'&&Nat.beq sz sz') (match box with
     |false=>Els.Eq es' es
     |true=>match es',es with| .gen [e'], .gen [e]=>Qz7 ex m R e' e|_,_=>False)
   |none=>cand (!box&&Nat.blt 0 sz) es.Nil)/\Q2n ex m R rs ps
 |_,_=>False
def newAt(n0:Nat):List (Nat×Nat)->Nat->Nat
 |[],i=>n0+i
 |(j,r)::l,i=>match Nat.beq j i with|true=>r|false=>newAt n0 l i
def news(n0:Nat)(l:List (Nat×Nat)):Nat->Nat->List Nat
 |_,0=>[]
 |i,n+1=>newAt n0 l i::news n0 l (i+1) n
def natsB:List Nat->List Nat->Bool
 |[],[]=>true
 |x::l,y::m=>Nat.beq x y&&natsB l m
 |_,_=>false
def exOK(M:Nat)(ex:List Nat):Bool:=(natsB (ex.take M) (List.range M)&&(ex.drop M).all λr=>Nat.ble M r)&&Qjn (ex.drop M)
def RetE(m:Nat)(res:D)(rows:List Row)(d:D)(R:Rows):Prop:=
 ∃ex,exOK m ex=true/\retD ex m R d res/\Q2n ex m R ex rows
def Qlz:List D->Nat->List (Nat×D)
 |[],_=>[]
 |d::ds,i=>(i,d)::Qlz ds (i+1)
def fnVC(T:Tab)(G:List Q0d)(L:Code->St->(Ex->St->Prop)->Prop)(fn:Func)(args:List D)(rows:List Row)(Q:D->Rows->Prop):Prop:=
 match fn.body with
 | some c=>Q80 T G fn.ntmps rows.length L c ⟨Qlz args 0,rows.map some⟩ λe st=>match e with
   | .exit _=>False
   |_=>Qz5 T st.rows st.env fn.results.toList λds=>match ds with|[d]=>Q d st.rows|ds=>Q (.tup ds) st.rows
 |none=>False
def yEnv:List Nat->List D->List (Nat×D)
 |t::ts,d::ds=>(t,d)::yEnv ts ds
 |_,_=>[]
def fnsC:List Cap->List Nat
 |[]=>[]
 | .fn f _::l=>f::fnsC l
 |_::l=>fnsC l
def fns1:D->List Nat| .clo f cs=>f::fnsC cs|_=>[]
def fnsL:List D->List Nat
 |[]=>[]
 |d::l=>fns1 d++fnsL l
def fnsD:D->List Nat| .agg cs=>fnsL cs|d=>fns1 d
def fnsT:List D->List Nat
 |[]=>[]
 |d::l=>fnsD d++fnsT l
def fnsV:D->List Nat| .tup ds=>fnsT ds|d=>fnsD d
def fnsR:List Row->List Nat
 |[]=>[]
 |⟨true,_,_, .gen [e]⟩::l=>fnsL e++fnsR l
 |_::l=>fnsR l
def Z3n:Rows->List Nat
 |[]=>[]
 |some r::l=>fnsR [r]++Z3n l
 |none::l=>Z3n l
def noYs(l:List Nat):Bool:=l.all λf=>Nat.blt f YB
def fnsE:List (Nat×D)->List Nat
 |[]=>[]
 |(_,d)::l=>fnsV d++fnsE l
def fnVCM (T:Tab)(G:List Q0d)(L:Code->St->(Ex->St->Prop)->Prop)(fn:Func)(args:List D)(rows:List Row)(Q:D->Rows->Prop)(M:Nat):Prop:=
  match fn.body with
  | some c =>match Nat.ble YB fn.nfree with
    | true =>match Nat.beq fn.nfree YB with
      | true=>Q80 T G fn.ntmps M L c ⟨yEnv fn.params.toList args,rows.map some⟩ λe st=>match e with
        | .normal=>Q (.bool true) st.rows
        |_=>False
      | false=>match c with
        | .seq a b=>Q80 T G fn.ntmps M L a ⟨yEnv fn.params.toList args,rows.map some⟩ λe st=>match e with
          | .normal=>cand (noYs (fnsE st.env++Z3n st.rows)) (Q80 T G fn.ntmps M L b st λe st=>match e with
            | .normal=>Q (.bool true) st.rows
            |_=>False)
          |_=>False
        |_=>False
    |false=>Q80 T G fn.ntmps M L c ⟨Qlz args 0,rows.map some⟩ λe st=>match e with
    | .exit _=>False
    |_=>Qz5 T st.rows st.env fn.results.toList λds=>match ds with|[d]=>Q d st.rows|ds=>Q (.tup ds) st.rows
  |none=>False
