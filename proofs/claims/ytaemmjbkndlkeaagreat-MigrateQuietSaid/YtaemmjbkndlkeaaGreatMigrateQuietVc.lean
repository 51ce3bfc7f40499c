import Derived.Test.YtaemmjbkndlkeaaGreatMigrateQuietFy
open Nat renaming beq->bX,blt->bN,ble->gD
open BitVec renaming ofInt->dR
open List renaming replicate->cO,range->cW
set_option linter.all false
namespace Go.GD
open Go
variable {b:Bool}{p:Prop}
def cu(b:Bool)(p:Prop):Prop:=match b with|true=>p|false=>False
def w7(b:Bool)(p q:Prop):Prop:=match b with|true=>p|false=>q
theorem dd:cu b p↔b=true/\p:=by cases b<;>simp[cu]
theorem YQ{p q:Prop}:w7 b p q↔(b=true->p)/\(b=false->q):=by cases b<;>simp[w7]
abbrev Rows:=List (Option Row)
namespace D
def EZ(n:Nat):D->Bool|.sl m _ _=>bX m n|.c9=>true|.emp=>true|_=>false
def toEs:D->ai|.sl _ es _=>es|_=>.gen []
def uS:D->Bool|.agg _=>false|.dw _=>false|.dead=>false|_=>true
def isVal:D->Bool|.dw _=>false|.dead=>false|_=>true
def Hh:D->Bool|.agg _=>false|.dw _=>false|_=>true
def plain:D->Bool|.bool _=>true|.int _ _=>true|.str _=>true|.iI=>true|.c9=>true|.emp=>true|.sl _ _ _=>true|_=>false
def cells:D->List D|.agg cs=>cs|d=>[d]
def force:D->(D->Prop)->Prop
 |.bool b,K=>K (.bool b)
 |.int k n,K=>K (.int k n)
 |.str s,K=>K (.str s)
 |.sl a b c,K=>K (.sl a b c)
 |.all a,K=>K (.all a)
 |.own a b c,K=>K (.own a b c)
 |.ptr a b c,K=>K (.ptr a b c)
 |.pa a b c d e f,K=>K (.pa a b c d e f)
 |.iv a b c d,K=>K (.iv a b c d)
 |.iI,K=>K .iI
 |.c9,K=>K .c9
 |.emp,K=>K .emp
 |.mM es,K=>K (.mM es)
 |.dead,K=>K .dead
 |.gl a b,K=>K (.gl a b)
 |.gh a,K=>K (.gh a)
 |.jI,K=>K .jI
 |.agg a,K=>K (.agg a)
 |.dw a,K=>K (.dw a)
end D
def D.jX:List D->(List D->Prop)->Prop
 |[],K=>K []
 |d::l,K=>d.force λd=>jX l λl=>K (d::l)
def Qi:Rows->(Rows->Prop)->Prop
 |[],K=>K []
 |d::l,K=>Qi l λl=>K (d::l)
inductive tu where
 |int (k:IntKind)|bool|str|sl (n:Nat)|other
inductive TK where
 |int (k:IntKind)|bool|string
 |slice (e:TypeId) (n:Nat)
 |struct (fs:List (Nat×TypeId×Nat))
 |array (len:Nat) (e:TypeId) (n:Nat)
 |other
structure TI where
 kind:TK
 size:Nat
 bytes:Nat
 sI:List tu
 zero:Option (List D)
 eq:Bool
abbrev iB:=List (TypeId×TI)
def iB.get:iB->TypeId->Option TI
 |[],_=>none
 |(u,i)::l,t=>match bX u t with|true=>some i|false=>iB.get l t
def TK.isAgg:TK->Bool|.struct _=>true|.array _ _ _=>true|_=>false
def uD(pl:Bool):tu->D->(D->Prop)->Prop
 |.int k,c,K=>cu (c.isInt k) (K (.int k c.toInt))
 |.bool,c,K=>cu c.isBool (K (.bool c.toBool))
 |.str,c,K=>cu c.isStr (K (.str c.toStr))
 |.sl n,c,K=>match pl with
  |true=>cu (c.EZ n) (K (.sl n c.toEs false))
  |false=>cu c.uS (c.force K)
 |.other,c,K=>match pl with
  |true=>match c with|.iI=>K .iI|_=>False
  |false=>cu c.uS (c.force K)
def Jb(pl:Bool)(e:List D):List tu->Nat->(List D->Prop)->Prop
 |[],_,K=>K []
 |t::ts,off,K=>uD pl t (e.getD off .dead) λd=>Jb pl e ts (off+1) λds=>K (d::ds)
def uE(pl:Bool)(t:TI)(e:List D)(off:Nat)(K:D->Prop):Prop:=
 match t.kind.isAgg with
 |true=>Jb pl e t.sI off λds=>K (.agg ds)
 |false=>match t.sI with
  |[y]=>uD pl y (e.getD off .dead) K
  |_=>False
def kS:List D->Nat->List D->List D
 |e,_,[]=>e
 |e,off,v::vs=>kS (e.set off v) (off+1) vs
def PS:Value->Option D
 |.bool b=>some (.bool b)
 |.int k n=>some (.int k n)
 |.string s=>some (.str s.data.toList)
 |.slice none 0 0=>some .c9
 |.pointer none=>some .iI
 |.nilIface=>some .jI
 |.nilFunc=>some .dead
 |_=>none
def Qq:List Value->Option (List D)
 |[]=>some []
 |v::vs=>match PS v,Qq vs with|some d,some ds=>some (d::ds)|_,_=>none
def FO:Value->Option D
 |.agg cs=>(Qq cs.toList).map .agg
 |v=>PS v
structure St where
 env:List (Nat×D)
 rows:Rows
def look:List (Nat×D)->Nat->D
 |[],_=>.dead
 |(u,d)::l,t=>match bX u t with|true=>d|false=>look l t
def cq(env:List (Nat×D)):Operand->D
 |.tmp t=>look env t
 |.const v=>(FO v).getD .dead
 |.func f=>match bN f YB with|true=>.gl f []|false=>.dead
 |_=>.dead
def bc(k:IntKind)(x y:Int):Int:=k.wrap (dR k.bits x&&&dR k.bits y).toNat
def iN(k:IntKind)(x y:Int):Int:=k.wrap (dR k.bits x|||dR k.bits y).toNat
def rA(k:IntKind)(x y:Int):Int:=k.wrap (dR k.bits x^^^dR k.bits y).toNat
def oJ(k:IntKind)(x y:Int):Int:=k.wrap (dR k.bits x&&&~~~dR k.bits y).toNat
def eu(k:IntKind)(x y:Int):Int:=k.wrap (x*2^(min y.toNat k.bits))
def bm(k:IntKind)(x y:Int):Int:=x.fdiv (2^(min y.toNat k.bits))
def Uy(op:BinOp)(k:IntKind)(x y:Int)(K:D->Prop):Prop:=
 match op with
 |.add=>K (.int k (k.wrap (x+y)))
 |.sub=>K (.int k (k.wrap (x-y)))
 |.mul=>K (.int k (k.wrap (x*y)))
 |.quo=>cu (decide (y≠0)) (K (.int k (k.wrap (x.tdiv y))))
 |.rem=>cu (decide (y≠0)) (K (.int k (x.tmod y)))
 |.and=>K (.int k (bc k x y))
 |.or=>K (.int k (iN k x y))
 |.xor=>K (.int k (rA k x y))
 |.andNot=>K (.int k (oJ k x y))
 |.eql=>K (.bool (x==y))
 |.neq=>K (.bool (x !=y))
 |.lss=>K (.bool (decide (x<y)))
 |.leq=>K (.bool (decide (x<=y)))
 |.gtr=>K (.bool (decide (x>y)))
 |.geq=>K (.bool (decide (x>=y)))
 |_=>False
def Ph:D->D->Bool
 |.int _ a,.int _ b=>a==b
 |.bool a,.bool b=>a==b
 |.str a,.str b=>decide (a=b)
 |_,_=>false
def eqs:List D->List D->Bool
 |[],_=>true
 |a::l,b::m=>Ph a b&&eqs l m
 |_::_,[]=>false
def fits:List tu->List D->Bool
 |[],[]=>true
 |.int k::t,d::l=>d.isInt k&&fits t l
 |.bool::t,d::l=>d.isBool&&fits t l
 |.str::t,d::l=>d.isStr&&fits t l
 |_,_=>false
def sJ(T:iB)(op:BinOp)(t:TypeId)(x y:D)(K:D->Prop):Prop:=
 match x,y with
 |.int k a,.int k' b=>
  match op with
  |.shl=>cu (decide (0<=b)) (K (.int k (eu k a b)))
  |.shr=>cu (decide (0<=b)) (K (.int k (bm k a b)))
  |op=>cu (decide (k=k')) (Uy op k a b K)
 |.str a,.str b=>
  match op with
  |.add=>cu (decide (a.length+b.length<=maxLen)) (K (.str (a++b)))
  |.eql=>K (.bool (decide (a=b)))
  |.neq=>K (.bool (!decide (a=b)))
  |_=>False
 |.bool a,.bool b=>
  match T.get t with
  |some ⟨.bool,_,_,_,_,_⟩=>match op with
   |.eql=>K (.bool (a==b))
   |.neq=>K (.bool (!(a==b)))
   |_=>False
  |_=>False
 |.agg a,.agg b=>
  match T.get t with
  |some ti=>cu (ti.kind.isAgg&&bN 0 ti.size&&ti.eq&&fits ti.sI a&&fits ti.sI b)<|
   match op with
   |.eql=>K (.bool (eqs a b))
   |.neq=>K (.bool (!(eqs a b)))
   |_=>False
  |none=>False
 |_,_=>False
def L7(T:iB)(s d:TypeId)(x:D)(K:D->Prop):Prop:=
 match T.get s,T.get d with
 |some ⟨.int _,_,_,_,_,_⟩,some ⟨.int k,_,_,_,_,_⟩=>match x with
  |.int _ n=>K (.int k (k.wrap n))
  |_=>False
 |some ⟨.string,_,_,_,_,_⟩,some ⟨.string,_,_,_,_,_⟩=>match x with
  |.str s=>K (.str s)
  |_=>False
 |_,_=>False
def PQ(T:iB)(s:TypeId)(f:Nat):Option (Nat×TypeId×Nat):=
 match T.get s with
 |some ⟨.struct fs,_,_,_,_,_⟩=>fs[f]?
 |_=>none
def Fg(place:Nat->Option (Nat×Nat))(ev:Operand->D):List (Nat×Operand)->List D->(List D->Prop)->Prop
 |[],cs,K=>D.jX cs K
 |(i,x)::ps,cs,K=>match place i with
  |some (off,n)=>cu ((ev x).isVal&&bX (ev x).cells.length n&&gD (off+n) cs.length) (Fg place ev ps (kS cs off (ev x).cells) K)
  |none=>False
def D.PZ:D->D|.sl a b _=>.sl a b false|d=>d
def Hd:List D->List D
 |[]=>[]
 |d::l=>d.PZ::Hd l
def Fi(n len:Nat)(ev:Operand->D):List (Nat×Operand)->List (List D)->(List (List D)->Prop)->Prop
 |[],es,K=>K es
 |(i,x)::ps,es,K=>cu (((ev x).isVal&&(Hd (ev x).cells).all D.plain)&&bX (Hd (ev x).cells).length n&&bN i len) (Fi n len ev ps (es.set i (Hd (ev x).cells)) K)
def wE(row:Row):Rows->Nat->(Nat->Rows->Prop)->Prop
 |[],n,K=>K n [some row]
 |x::l,n,K=>wE row l (n+1) λk l=>K k (x::l)
def uB(R:Rows)(row:Row)(K:Nat->Rows->Prop):Prop:=wE row R 0 K
def ints(e:List D)(off:Nat):Nat->List Int
 |0=>[]
 |n+1=>(e.getD off .dead).toInt::ints e (off+1) n
def ag(e:List D)(off:Nat):Nat->List Bool
 |0=>[]
 |n+1=>(e.getD off .dead).toBool::ag e (off+1) n
def CE(k:IntKind)(e:List D)(off:Nat):Nat->Bool
 |0=>true
 |n+1=>(e.getD off .dead).isInt k&&CE k e (off+1) n
def G3(e:List D)(off:Nat):Nat->Bool
 |0=>true
 |n+1=>(e.getD off .dead).isBool&&G3 e (off+1) n
def Ha(k:IntKind)(l:List Int)(j:Nat):Nat->List D
 |0=>[]
 |n+1=>.int k (l.getD j 0)::Ha k l (j+1) n
def Hb(l:List Bool)(j:Nat):Nat->List D
 |0=>[]
 |n+1=>.bool (l.getD j false)::Hb l (j+1) n
def wG(T:iB)(t:TypeId)(x:D)(R:Rows)(K:D->Rows->Prop):Prop:=
 match T.get t with
 |none=>False
 |some ti=>match x with
  |.ptr r i off=>match R.getD r none with
   |some ⟨box,_,sz,es⟩=>cu (gD (off+ti.size) sz) (uE (!box) ti (es.get i) off λd=>K d R)
   |none=>False
  |.pa r i off len k n=>match R.getD r none with
   |some ⟨_,_,sz,es⟩=>cu (gD (off+len) sz)<|match ti.kind,k with
    |.int j,some k=>cu (decide (j=k)&&CE k (es.get i) off len) (K (.int k ((ints (es.get i) off len).getD n 0)) R)
    |.bool,none=>cu (G3 (es.get i) off len) (K (.bool ((ag (es.get i) off len).getD n false)) R)
    |_,_=>False
   |none=>False
  |.iv sz es i off=>cu (gD (off+ti.size) sz) (uE true ti (es.get i) off λd=>K d R)
  |_=>False
def Hc(T:iB)(t:TypeId)(x d:D)(R:Rows)(K:D->Rows->Prop):Prop:=
 match T.get t with
 |none=>False
 |some ti=>match x with
  |.ptr r i off=>match R.getD r none with
   |some ⟨box,ty,sz,es⟩=>cu (bN 0 ti.size&&d.isVal&&bX d.cells.length ti.size&&gD (off+ti.size) sz)<|match box with
    |true=>D.jX (kS (es.get i) off d.cells) λe=>Qi (R.set r (some ⟨true,ty,sz,.gen [e]⟩)) λR=>K .dead R
    |false=>cu (d.cells.all D.plain) (Qi (R.set r (some ⟨false,ty,sz,es.set i (kS (es.get i) off d.cells)⟩)) λR=>K .dead R)
   |none=>False
  |.pa r i off len k n=>match R.getD r none with
   |some ⟨box,ty,sz,es⟩=>cu (box&&gD (off+len) sz)<|match ti.kind,k,d with
    |.int j,some k,.int k' v=>cu (decide (j=k)&&decide (k'=k)&&CE k (es.get i) off len)<|
     D.jX (kS (es.get i) off (Ha k ((ints (es.get i) off len).set n v) 0 len)) λe=>Qi (R.set r (some ⟨true,ty,sz,.gen [e]⟩)) λR=>K .dead R
    |.bool,none,.bool v=>cu (G3 (es.get i) off len)<|
     D.jX (kS (es.get i) off (Hb ((ag (es.get i) off len).set n v) 0 len)) λe=>Qi (R.set r (some ⟨true,ty,sz,.gen [e]⟩)) λR=>K .dead R
    |_,_,_=>False
   |none=>False
  |_=>False
def UA(T:iB)(t:TypeId)(x:D)(Uz:Bool)(n:Int)(R:Rows)(K:D->Rows->Prop):Prop:=
 match T.get t with
 |some ⟨.slice _ iJ,_,_,_,_,_⟩=>match x with
  |.sl sz es _=>cu (bX sz iJ&&bN 0 iJ&&decide (0<=n/\n<es.len)) (K (.iv sz es n.toNat 0) R)
  |.own r o m=>match R.getD r none with
   |some ⟨_,_,sz,_⟩=>cu (bX sz iJ&&bN 0 iJ&&decide (0<=n/\n<m)) (K (.ptr r (o+n.toNat) 0) R)
   |none=>False
  |.all r=>match R.getD r none with
   |some ⟨_,_,sz,es⟩=>cu (bX sz iJ&&bN 0 iJ&&decide (0<=n/\n<es.len)) (K (.ptr r n.toNat 0) R)
   |none=>False
  |_=>False
 |some ⟨.array len e iJ,_,_,_,_,_⟩=>cu (bN 0 iJ&&decide (0<=n/\n<len))<|match x with
  |.ptr r i off=>match Uz with
   |true=>K (.ptr r i (off+n.toNat*iJ)) R
   |false=>match T.get e with
    |some ⟨.int k,_,_,_,_,_⟩=>cu (bX iJ 1) (K (.pa r i off len (some k) n.toNat) R)
    |some ⟨.bool,_,_,_,_,_⟩=>cu (bX iJ 1) (K (.pa r i off len none n.toNat) R)
    |_=>K (.ptr r i (off+n.toNat*iJ)) R
  |.iv sz es i off=>K (.iv sz es i (off+n.toNat*iJ)) R
  |_=>False
 |_=>False
def rO(x:Option Operand)(ev:Operand->D)(n:Int):Option Int:=match x with|none=>some n|some y=>match ev y with|.int _ m=>some m|_=>none
def L8(T:iB)(t:TypeId)(x:D)(lo hi:Option Operand)(ev:Operand->D)(R:Rows)(K:D->Rows->Prop):Prop:=
 match T.get t with
 |some ⟨.string,_,_,_,_,_⟩=>match x with
  |.str s=>match rO lo ev 0,rO hi ev s.length with
   |some l,some h=>cu (decide (0<=l/\l<=h/\h<=s.length)) (K (.str ((s.drop l.toNat).take (h.toNat-l.toNat))) R)
   |_,_=>False
  |_=>False
 |some ⟨.slice _ iJ,_,_,_,_,_⟩=>match x with
  |.sl sz es fr=>match rO lo ev 0,rO hi ev es.len with
   |some l,some h=>cu (bX sz iJ&&bN 0 iJ&&decide (0<=l/\l<=h/\h<=es.len)) (K (.sl sz ((es.drop l.toNat).take (h.toNat-l.toNat)) fr) R)
   |_,_=>False
  |.all r=>match R.getD r none with
   |some ⟨_,_,sz,es⟩=>match rO lo ev 0,rO hi ev es.len with
    |some l,some h=>cu (bX sz iJ&&bN 0 iJ&&decide (0<=l/\l<=h/\h<=es.len)) (K (.own r l.toNat (h.toNat-l.toNat)) R)
    |_,_=>False
   |none=>False
  |.own r o n=>match R.getD r none with
   |some ⟨_,_,sz,_⟩=>match rO lo ev 0,rO hi ev n with
    |some l,some h=>cu (bX sz iJ&&bN 0 iJ&&decide (0<=l/\l<=h/\h<=n)) (K (.own r (o+l.toNat) (h.toNat-l.toNat)) R)
    |_,_=>False
   |none=>False
  |_=>False
 |some ⟨.array len e iJ,_,_,_,_,_⟩=>match x,lo,hi with
  |.iv sz es i off,none,none=>match T.get e with
   |some ⟨.int k,_,_,_,_,_⟩=>cu (bX iJ 1&&(gD (off+len) sz&&CE k (es.get i) off len)) (K (.sl 1 (.ints k (ints (es.get i) off len)) false) R)
   |_=>False
  |_,_,_=>False
 |_=>False
def uH(T:iB)(t:TypeId)(n m:Int)(R:Rows)(K:D->Rows->Prop):Prop:=
 match T.get t with
 |some ⟨.slice e _,_,_,_,_,_⟩=>match T.get e with
  |some ⟨_,sz,lB,_,some z,_⟩=>cu (bN 0 sz&&bX z.length sz&&z.all D.plain&&decide (0<=n/\n<=m/\m<=9223372036854775807/\(lB:Int)*m<=140737488355328))
   (uB R ⟨false,e,sz,ai.Fh e n.toNat z⟩ λk R=>K (.all k) R)
  |_=>False
 |_=>False
def sO(T:iB)(t:TypeId)(x:D)(R:Rows)(K:D->Rows->Prop):Prop:=
 match T.get t with
 |some ⟨.string,_,_,_,_,_⟩=>match x with
  |.str s=>K (.int .i64 s.length) R
  |_=>False
 |some ⟨.slice _ _,_,_,_,_,_⟩=>match x with
  |.sl _ es _=>K (.int .i64 es.len) R
  |.own _ _ n=>K (.int .i64 n) R
  |.all r=>match R.getD r none with
   |some ⟨_,_,_,es⟩=>K (.int .i64 es.len) R
   |none=>False
  |.c9=>K (.int .i64 0) R
  |.emp=>K (.int .i64 0) R
  |_=>False
 |_=>False
def L9(T:iB)(t:TypeId)(parts:List (Nat×Operand))(ev:Operand->D)(R:Rows)(K:D->Rows->Prop):Prop:=
 match T.get t with
 |some ⟨.struct fs,_,_,_,some ds,_⟩=>cu (fs.all λf=>bN 0 f.2.2)<|Fg (λi=>(fs[i]?).map λf=>(f.1,f.2.2)) ev parts ds λcs=>K (.agg cs) R
 |some ⟨.array _ _ iJ,_,_,_,some ds,_⟩=>cu (bN 0 iJ)<|Fg (λi=>some (i*iJ,iJ)) ev parts ds λcs=>K (.agg cs) R
 |_=>False
def Ma(T:iB)(t:TypeId)(len:Nat)(parts:List (Nat×Operand))(ev:Operand->D)(R:Rows)(K:D->Rows->Prop):Prop:=
 match T.get t with
 |some ⟨.slice e _,_,_,_,_,_⟩=>match T.get e with
  |some ⟨_,sz,_,_,some z,_⟩=>cu (bN 0 sz&&bX z.length sz&&gD (len*sz) 16777216&&z.all D.plain)<|
   Fi sz len ev parts (cO len z) λes=>match len with|0=>K .emp R|_+1=>K (.sl sz (ai.P1 e es) true) R
  |_=>False
 |_=>False
def Ur(t:TypeId)(len:Nat):Bool:=gD 2 len&&Ft.any λq=>bX q t
def Zy(T:iB)(t:TypeId)(len:Nat)(parts:List (Nat×Operand))(ev:Operand->D)(R:Rows)(K:D->Rows->Prop):Prop:=
 match T.get t with
 |some ⟨.slice e _,_,_,_,_,_⟩=>match T.get e with
  |some ⟨_,sz,_,_,some z,_⟩=>cu (bN 0 sz&&bX z.length sz&&gD (len*sz) 16777216&&z.all D.plain)<|
   Fi sz len ev parts (cO len z) λes=>uB R ⟨false,e,sz,ai.P1 e es⟩ λk R=>K (.all k) R
  |_=>False
 |_=>False
def Ho(T:iB)(t:TypeId)(len:Nat)(parts:List (Nat×Operand))(ev:Operand->D)(R:Rows)(K:D->Rows->Prop):Prop:=
 w7 (Ur t len) (Zy T t len parts ev R K) (Ma T t len parts ev R K)
def G4:iD->Option (Nat×Nat×Nat)|.ptr r i off=>some (r,i,off)|_=>none
def PH:List iD->Option (List (Nat×Nat×Nat))
 |[]=>some []
 |x::l=>match G4 x,PH l with|some p,some ps=>some (p::ps)|_,_=>none
def CG:D->Option iD
 |.ptr r i off=>some (.ptr r i off)
 |.int k n=>some (.int k n)
 |.all r=>some (.arr r)
 |.sl a b fr=>some (.sl a b fr)
 |.gl f cs=>match PH cs with|some ps=>some (.fn f ps)|none=>none
 |_=>none
def Kb:List D->Option (List iD)
 |[]=>some []
 |d::l=>match CG d,Kb l with|some x,some xs=>some (x::xs)|_,_=>none
def ic(T:iB)(o:Op)(ev:Operand->D)(R:Rows)(K:D->Rows->Prop):Prop:=
 match o with
 |.move x|.assign x=>(ev x).force λd=>K d R
 |.alloc t=>match T.get t with
  |some ⟨_,sz,_,_,some ds,_⟩=>cu (bN 0 sz&&bX ds.length sz) (uB R ⟨true,t,sz,.gen [ds]⟩ λk R=>K (.ptr k 0 0) R)
  |_=>False
 |.box t x=>match T.get t with
  |some ⟨_,sz,_,_,_,_⟩=>cu (bN 0 sz&&(ev x).isVal&&bX (ev x).cells.length sz) (D.jX (ev x).cells λcs=>uB R ⟨true,t,sz,.gen [cs]⟩ λk R=>K (.ptr k 0 0) R)
  |none=>False
 |.build t parts=>L9 T t parts.toList ev R K
 |.buildSlice t len parts=>Ho T t len parts.toList ev R K
 |.load t a=>wG T t (ev a) R K
 |.store t a x=>Hc T t (ev a) (ev x) R K
 |.nilCheck x=>match ev x with
  |.ptr a b c=>K (.ptr a b c) R
  |.iv a b c d=>K (.iv a b c d) R
  |_=>False
 |.binOp op t x y _=>sJ T op t (ev x) (ev y) λd=>K d R
 |.unOp op _ x=>match op,ev x with
  |.neg,.int k n=>K (.int k (k.wrap (0-n))) R
  |.xor,.int k n=>K (.int k (rA k (if k.signed then-1 else k.max) n)) R
  |.not,.bool b=>K (.bool (!b)) R
  |_,_=>False
 |.convert s d x=>L7 T s d (ev x) λv=>K v R
 |.fieldAddr s x f=>match PQ T s f with
  |some (o,_,n)=>cu (bN 0 n)<|match ev x with
   |.ptr r i off=>K (.ptr r i (off+o)) R
   |.iv sz es i off=>K (.iv sz es i (off+o)) R
   |_=>False
  |none=>False
 |.field s x f=>match PQ T s f with
  |some (o,t,n)=>match ev x,T.get t with
   |.agg cs,some ti=>cu (bN 0 n&&gD (o+n) cs.length)<|match ti.kind.isAgg with
    |true=>D.jX ((cs.drop o).take n) λl=>K (.agg l) R
    |false=>cu (cs.getD o .dead).uS ((cs.getD o .dead).force λd=>K d R)
   |_,_=>False
  |none=>False
 |.indexAddr t x ix=>match ev ix with
  |.int _ n=>UA T t (ev x) (match ix with|.const _=>true|_=>false) n R K
  |_=>False
 |.index t x ix=>match T.get t,ev x,ev ix with
  |some ⟨.string,_,_,_,_,_⟩,.str s,.int _ n=>cu (decide (0<=n/\n<s.length)) (K (.int .u8 ((s.getD n.toNat 0).toNat:Int)) R)
  |some ⟨.array len e iJ,_,_,_,_,_⟩,.agg cs,.int _ n=>cu (bX iJ 1&&(bX cs.length len&&decide (0<=n/\n<len)))<|match T.get e with
   |some ⟨.int k,_,_,_,_,_⟩=>cu (CE k cs 0 len) (K (.int k ((ints cs 0 len).getD n.toNat 0)) R)
   |some ⟨.bool,_,_,_,_,_⟩=>cu (G3 cs 0 len) (K (.bool ((ag cs 0 len).getD n.toNat false)) R)
   |_=>False
  |_,_,_=>False
 |.extract x i=>match ev x with
  |.dw ds=>cu (ds.getD i .dead).isVal ((ds.getD i .dead).force λd=>K d R)
  |_=>False
 |.slice t x lo hi none=>L8 T t (ev x) lo hi ev R K
 |.makeSlice t l c=>match ev l,ev c with
  |.int _ n,.int _ m=>uH T t n m R K
  |_,_=>False
 |.call {callee:=.builtin .len,args,argTypes}=>match args.toList,argTypes.toList with
  |[x],[t]=>sO T t (ev x) R K
  |_,_=>False
 |.makeFunc fn first captured=>match fn with
  |.func f=>cu (bX first.size 0&&bN f YB)<|match Kb (captured.toList.map ev)with
   |some cs=>K (.gl f cs) R
   |none=>False
  |_=>False
 |_=>False
def pos(r:Nat):List Nat->Nat->Nat
 |[],k=>k
 |x::l,k=>match bX x r with|true=>k|false=>pos r l (k+1)
def cw(r:Nat):List Nat->Bool
 |[]=>false
 |x::l=>match bX x r with|true=>true|false=>cw r l
def pq:List Nat->List Nat->Bool
 |[],_=>true
 |x::l,m=>match cw x m with|true=>pq l m|false=>false
def nJ:List Nat->List Nat->Bool
 |[],_=>true
 |x::l,m=>match cw x m with|true=>false|false=>nJ l m
def lq:List Nat->List Nat->List Nat
 |ids,[]=>ids
 |ids,x::l=>match cw x ids with|true=>lq ids l|false=>lq (ids++[x]) l
def CI:List Nat->Bool
 |[]=>true
 |x::l=>match cw x l with|true=>false|false=>CI l
def CB:iD->List Nat|.ptr r _ _=>[r]|.arr r=>[r]|.fn _ ps=>ps.map (·.1)|_=>[]
def om:List iD->List Nat
 |[]=>[]
 |x::l=>CB x++om l
def iD.jh(f:Nat->Nat)(du:Bool):iD->iD
 |.ptr r i off=>.ptr (f r) i off
 |.int k n=>.int k n
 |.arr r=>.arr (f r)
 |.sl a b fr=>.sl a b (fr&&du)
 |.fn g ps=>.fn g (ps.map λp=>(f p.1,p.2))
def nI:D->List Nat|.gl _ cs=>om cs|.gh r=>[r]|.all r=>[r]|.own r _ _=>[r]|.ptr r _ _=>[r]|.pa r _ _ _ _ _=>[r]|_=>[]
def pP:List D->List Nat
 |[]=>[]
 |d::l=>nI d++pP l
def EW:D->List Nat|.agg cs=>pP cs|d=>nI d
def D.ed(ks:List Nat):D->D
 |.all r=>match cw r ks with|true=>.dead|false=>.all r
 |.own r o n=>match cw r ks with|true=>.dead|false=>.own r o n
 |.ptr r i off=>match cw r ks with|true=>.dead|false=>.ptr r i off
 |.pa r i off l k n=>match cw r ks with|true=>.dead|false=>.pa r i off l k n
 |.gh r=>match cw r ks with|true=>.dead|false=>.gh r
 |.gl f cs=>match nJ (om cs) ks with|true=>.gl f cs|false=>.dead
 |d=>d
def D.kj(ks:List Nat):List D->List D
 |[]=>[]
 |d::l=>d.ed ks::kj ks l
def D.kill(ks:List Nat):D->D
 |.agg cs=>.agg (D.kj ks cs)
 |d=>d.ed ks
def D.pH(ks:List Nat):List D->List D
 |[]=>[]
 |d::l=>d.kill ks::pH ks l
def D.gp(ks:List Nat):D->D
 |.dw ds=>.dw (D.pH ks ds)
 |d=>d.kill ks
def Row.kill(ks:List Nat):Row->Row
 |⟨true,ty,sz,.gen [e]⟩=>⟨true,ty,sz,.gen [D.kj ks e]⟩
 |r=>r
def rL(ks:List Nat):Rows->Nat->Rows
 |[],_=>[]
 |x::l,i=>(match cw i ks with|true=>none|false=>match x with|some row=>some (row.kill ks)|none=>none)::rL ks l (i+1)
def FZ(ks:List Nat):List (Nat×D)->(List (Nat×D)->Prop)->Prop
 |[],K=>K []
 |(t,d)::l,K=>(d.gp ks).force λd=>FZ ks l λl=>K ((t,d)::l)
def o5(s:List UInt8):List Int:=s.map λb=>(b.toNat:Int)
def bytesOf(l:List Int):List UInt8:=l.map λn=>UInt8.ofNat n.toNat
def sc(R:Rows):D->Option (Nat×ai)
 |.c9=>some (0,.gen [])
 |.emp=>some (0,.gen [])
 |.sl sz es _=>some (sz,es)
 |.all r=>match R.getD r none with|some ⟨false,_,sz,es⟩=>some (sz,es)|_=>none
 |.own r o n=>match R.getD r none with|some ⟨false,_,sz,es⟩=>some (sz,(es.drop o).take n)|_=>none
 |_=>none
def Cs(R:Rows)(ke kx:TK)(y:D):Option (Nat×ai):=
 match kx with
 |.slice _ _=>sc R y
 |.string=>match ke,y with
  |.int .u8,.str s=>some (1,.ints .u8 (o5 s))
  |_,_=>none
 |_=>none
def H9:ai->Bool|.gen []=>true|_=>false
def Cv(e sz lB:Nat)(R:Rows)(ks:List Nat)(es ys:ai)(K:List Nat->D->Rows->Prop):Prop:=
 cu (decide (lB*(es.len+ys.len)<=140737488355328))<|Qi (rL ks R 0++[some ⟨false,e,sz,es.app ys⟩]) λR'=>K ks (.all R.length) R'
def LS (T:iB)(M:Nat)(t tx:TypeId)(x y:D)(R:Rows)(K:List Nat->D->Rows->Prop):Prop:=
 match T.get t with
 |some ⟨.slice e iJ,_,_,_,_,_⟩=>match T.get e,T.get tx with
  |some ⟨ke,sz,lB,_,some z,_⟩,some ⟨kx,_,_,_,_,_⟩=>match Cs R ke kx y with
   |some (sy,ys)=>cu ((bN 0 sz&&bX iJ sz)&&(bX z.length sz&&z.all D.plain)&&(bN 0 lB&&(bX sy sz||H9 ys)))<|
    match x with
    |.c9=>Cv e sz lB R [] (.gen []) ys K
    |.emp=>Cv e sz lB R [] (.gen []) ys K
    |.all r=>match R.getD r none with
     |some ⟨false,ty,s,es⟩=>cu ((bX s sz&&bX ty e)&&gD M r) (Cv e sz lB R [r] es ys K)
     |_=>False
    |.own r o n=>match R.getD r none with
     |some ⟨false,ty,s,es⟩=>cu ((bX s sz&&bX ty e)&&(gD M r&&bX o 0)) (Cv e sz lB R [r] (es.take n) ys K)
     |_=>False
    |_=>False
   |none=>False
  |_,_=>False
 |_=>False
def tQ(T:iB)(t tx:TypeId)(x y:D)(R:Rows)(K:D->Rows->Prop):Prop:=
 match T.get t with
 |some ⟨.slice e iJ,_,_,_,_,_⟩=>match T.get e,T.get tx with
  |some ⟨ke,sz,_,_,_,_⟩,some ⟨kx,_,_,_,_,_⟩=>match Cs R ke kx y with
   |some (sy,ys)=>cu ((bN 0 sz&&bX iJ sz)&&(bX sy sz||H9 ys))<|
    match x with
    |.all r=>match R.getD r none with
     |some ⟨false,ty,s,es⟩=>cu (bX s sz)<|Qi (R.set r (some ⟨false,ty,s,(ys.take (min ys.len es.len)).app (es.drop (min ys.len es.len))⟩)) λR'=>K (.int .i64 (min ys.len es.len:Nat)) R'
     |_=>False
    |.own r o n=>match R.getD r none with
     |some ⟨false,ty,s,es⟩=>cu (bX s sz)<|Qi (R.set r (some ⟨false,ty,s,((es.take o).app (ys.take (min ys.len n))).app (es.drop (o+min ys.len n))⟩)) λR'=>K (.int .i64 (min ys.len n:Nat)) R'
     |_=>False
    |_=>False
   |none=>False
  |_,_=>False
 |_=>False
inductive Ans where
 |no
 |ok (res:D) (rows:List Row)
 |when (p:Prop) (res:D) (rows:List Row)
 |abs (α:Type) (v:α) (res:α->D) (rows:α->List Row)
 |lr (p:Prop) (α:Type) (v:α) (res:α->D) (rows:α->List Row)
structure ba where
 f:FuncId
 refs:List Bool
 flat:Bool
 m:List D->List Row->Ans
 gone:Option Nat
 oV:Bool
def oG:List ba->FuncId->Option ba
 |[],_=>none
 |x::l,f=>match bX x.f f with|true=>some x|false=>oG l f
def EV(R:Rows):D->Option D
 |.bool b=>some (.bool b)
 |.int k n=>some (.int k n)
 |.str s=>some (.str s)
 |.iI=>some .iI
 |.jI=>some .jI
 |.c9=>some (.sl 0 (.gen []) false)
 |.emp=>some (.sl 0 (.gen []) false)
 |.sl a b _=>some (.sl a b false)
 |.all r=>match R.getD r none with|some row=>(match row.box with|false=>some (.sl row.sz row.es false)|true=>none)|none=>none
 |.own r o n=>match R.getD r none with|some row=>(match row.box with|false=>some (.sl row.sz ((row.es.drop o).take n) false)|true=>none)|none=>none
 |_=>none
def I9(R:Rows):List D->Option (List D)
 |[]=>some []
 |d::ds=>match EV R d,I9 R ds with|some x,some xs=>some (x::xs)|_,_=>none
def conv(R:Rows):D->Option D
 |.agg cs=>(I9 R cs).map .agg
 |d=>EV R d
def D.mr(f:Nat->Nat)(du:Bool):D->D
 |.all r=>.all (f r)
 |.own r o n=>.own (f r) o n
 |.ptr r i off=>.ptr (f r) i off
 |.pa r i off l k n=>.pa (f r) i off l k n
 |.sl a b fr=>.sl a b (fr&&du)
 |.gl g cs=>.gl g (cs.map (iD.jh f du))
 |.gh r=>.gh (f r)
 |d=>d
def D.mu(f:Nat->Nat)(du:Bool):List D->List D
 |[]=>[]
 |d::l=>d.mr f du::mu f du l
def D.jh(f:Nat->Nat)(du:Bool):D->D
 |.agg cs=>.agg (D.mu f du cs)
 |d=>d.mr f du
def D.Aw(f:Nat->Nat)(du:Bool):List D->List D
 |[]=>[]
 |d::l=>d.jh f du::Aw f du l
def D.sL(f:Nat->Nat)(du:Bool):D->D
 |.dw ds=>.dw (D.Aw f du ds)
 |d=>d.jh f du
def Row.jh(f:Nat->Nat)(du:Bool):Row->Row
 |⟨true,ty,sz,.gen [e]⟩=>⟨true,ty,sz,.gen [D.mu f du e]⟩
 |r=>r
def CA(R:Rows):List Nat->List Nat
 |[]=>[]
 |r::l=>(match R.getD r none with|some ⟨true,_,_,.gen [e]⟩=>pP e|_=>[])++CA R l
def CJ:List Bool->List D->List Nat
 |true::bs,d::ds=>EW d++CJ bs ds
 |false::bs,_::ds=>CJ bs ds
 |_,_=>[]
def lH:List Bool->List D->List Nat
 |true::bs,_::ds=>lH bs ds
 |false::bs,d::ds=>EW d++lH bs ds
 |[],d::ds=>EW d++lH [] ds
 |_,[]=>[]
def mq(R:Rows)(bs:List Bool)(args:List D):List Nat:=
 let a:=lq [] (CJ bs args)
 let b:=lq a (CA R a)
 lq b (CA R b)
def Bd(R:Rows)(f:Nat->Nat):List Nat->Option (List Row)
 |[]=>some []
 |r::l=>match R.getD r none,Bd R f l with
  |some row,some rs=>some (row.jh f false::rs)
  |_,_=>none
def sH(R:Rows)(f:Nat->Nat):List Bool->List D->Option (List D)
 |true::bs,d::ds=>match d.isVal,sH R f bs ds with|true,some xs=>some (d.jh f false::xs)|_,_=>none
 |false::bs,d::ds=>match conv R d,sH R f bs ds with|some x,some xs=>some (x::xs)|_,_=>none
 |[],d::ds=>match conv R d,sH R f [] ds with|some x,some xs=>some (x::xs)|_,_=>none
 |_,[]=>some []
def bk(ids:List Nat)(n0 i:Nat):Nat:=match ids[i]? with|some r=>r|none=>n0+(i-ids.length)
def tG(f:Nat->Nat):List Nat->List Row->Rows->Rows
 |r::ids,row::rows,R=>tG f ids rows (R.set r (some (row.jh f true)))
 |_,_,R=>R
def Bg(f:Nat->Nat)(rows:List Row):Rows:=rows.map λrow=>some (row.jh f true)
inductive Ex where
 |normal|exit (id:Nat)|ret
def St.put(N:Nat)(st:St)(dst:Option Tmp)(d:D)(R:Rows)(K:St->Prop):Prop:=
 match dst with
 |none=>K ⟨st.env,R⟩
 |some t=>cu (bN t N) (K ⟨(t,d)::st.env,R⟩)
def St.jT(st:St)(c:Operand)(b:Bool):St:=
 match c with
 |.tmp t=>⟨(t,.bool b)::st.env,st.rows⟩
 |_=>st
def DU(R:Rows)(ids:List Nat)(res:D)(aj:List Row)(K:D->Rows->Prop):Prop:=
 cu (gD ids.length aj.length)<|(res.sL (bk ids R.length) true).force λres=>
  Qi (tG (bk ids R.length) ids aj R++Bg (bk ids R.length) (aj.drop ids.length)) λR=>K res R
def sM(G:List ba)(f:FuncId)(args:List D)(R:Rows)(K:D->Rows->Prop):Prop:=
 match oG G f with
 |some x=>
  match sH R (λr=>pos r (mq R x.refs args) 0) x.refs args,Bd R (λr=>pos r (mq R x.refs args) 0) (mq R x.refs args)with
  |some az,some rows=>
   cu ((x.flat&&(match mq R x.refs args with|[]=>true|_=>false)||(match lH x.refs args with|[]=>true|_=>false))&&
    (pq (CJ x.refs args) (mq R x.refs args)&&pq (CA R (mq R x.refs args)) (mq R x.refs args))&&
    (CI (mq R x.refs args)&&nJ (lH x.refs args) (mq R x.refs args)))<|
   match x.m az rows with
   |.ok res aj=>DU R (mq R x.refs args) res aj K
   |.when p res aj=>p/\DU R (mq R x.refs args) res aj K
   |.abs _ v res aj=>∀X,X=v->DU R (mq R x.refs args) (res X) (aj X) K
   |.lr p _ v res aj=>p/\∀X,X=v->DU R (mq R x.refs args) (res X) (aj X) K
   |.no=>False
  |_,_=>False
 |none=>False
def oU(G:List ba)(f:FuncId):Option Nat:=match oG G f with|some x=>x.gone|none=>none
def ET(f:Nat->Nat):List Nat->List Row->Rows->Rows
 |r::ids,row::rows,R=>ET f ids rows (R.set r (some (row.jh f false)))
 |_,_,R=>R
def Px(f:Nat->Nat)(rows:List Row):Rows:=rows.map λrow=>some (row.jh f false)
def GW(R:Rows)(Mk gid:List Nat)(res:D)(aj:List Row)(K:List Nat->D->Rows->Prop):Prop:=
 cu (gD Mk.length aj.length)<|(res.sL (bk Mk R.length) false).force λres=>
  Qi (ET (bk Mk R.length) Mk aj (rL gid R 0)++Px (bk Mk R.length) (aj.drop Mk.length)) λR=>K gid res R
def HP(G:List ba)(M:Nat)(f:FuncId)(k:Nat)(args:List D)(R:Rows)(K:List Nat->D->Rows->Prop):Prop:=
 match oG G f with
 |some x=>
  match sH R (λr=>pos r (mq R x.refs args) 0) x.refs args,Bd R (λr=>pos r (mq R x.refs args) 0) (mq R x.refs args)with
  |some az,some rows=>
   cu (((match lH x.refs args with|[]=>true|_=>false)&&(match x.refs with|[]=>false|_=>true))&&
    (pq (CJ x.refs args) (mq R x.refs args)&&pq (CA R (mq R x.refs args)) (mq R x.refs args))&&
    (CI (mq R x.refs args)&&((mq R x.refs args).drop k).all λr=>gD M r))<|
   match x.m az rows with
   |.abs _ v res aj=>∀X,X=v->GW R ((mq R x.refs args).take k) ((mq R x.refs args).drop k) (res X) (aj X) K
   |.lr p _ v res aj=>p/\∀X,X=v->GW R ((mq R x.refs args).take k) ((mq R x.refs args).drop k) (res X) (aj X) K
   |_=>False
  |_,_=>False
 |none=>False
def BD(G:List ba)(f:FuncId):Bool:=match oG G f with|some x=>x.oV|none=>false
def Cz(G:List ba)(M:Nat)(f:FuncId)(args:List D)(R:Rows)(K:List Nat->D->Rows->Prop):Prop:=
 match oG G f with
 |some x=>
  match sH R (λr=>r) [] args,Bd R (λr=>pos r (lq [] (lH [] args)) 0) (lq [] (lH [] args))with
  |some az,some rows=>
   cu (((match x.refs with|[]=>true|_=>false)&&rows.all λr=>!r.box)&&(CI (lq [] (lH [] args))&&(pq (lH [] args) (lq [] (lH [] args))&&(lq [] (lH [] args)).all λr=>gD M r)))<|
   match x.m az []with
   |.abs _ v res aj=>∀X,X=v->GW R [] (lq [] (lH [] args)) (res X) (aj X) K
   |.lr p _ v res aj=>p/\∀X,X=v->GW R [] (lq [] (lH [] args)) (res X) (aj X) K
   |_=>False
  |_,_=>False
 |none=>False
def PO:D->Bool|.gl _ _=>false|.gh _=>false|.all _=>false|.own _ _ _=>false|.ptr _ _ _=>false|.pa _ _ _ _ _ _=>false|_=>true
def Uw:List D->Bool
 |[]=>true
 |d::l=>match PO d with|true=>Uw l|false=>false
def sN:D->Bool|.agg cs=>Uw cs|d=>PO d
def Ux:List D->Bool
 |[]=>true
 |d::l=>match sN d with|true=>Ux l|false=>false
def uG:D->Bool|.dw ds=>Ux ds|d=>sN d
def L6(R:Rows)(res:D)(aj:List Row)(K:D->Rows->Prop):Prop:=
 match aj with
 |[]=>cu (uG res) (res.force λres=>K res R)
 |_=>(res.sL (bk [] R.length) true).force λres=>Qi (R++Bg (bk [] R.length) aj) λR=>K res R
def CL:List Nat->Bool|[]=>true|_=>false
def J6(G:List ba)(f:FuncId)(args:List D)(R:Rows)(K:D->Rows->Prop):Prop:=
 match oG G f with
 |some x=>match x.refs with
  |[]=>match sH R (λr=>r) [] args with
   |some az=>cu (x.flat||CL (lH [] args))<|match x.m az []with
    |.ok res aj=>L6 R res aj K
    |.when p res aj=>p/\L6 R res aj K
    |.abs _ v res aj=>∀X,X=v->L6 R (res X) (aj X) K
    |.lr p _ v res aj=>p/\∀X,X=v->L6 R (res X) (aj X) K
    |.no=>False
   |none=>False
  |_=>sM G f args R K
 |none=>False
def u5(T:iB)(e d:TypeId)(x:D)(R:Rows)(K:D->Prop):Prop:=
 match T.get e,T.get d with
 |some ⟨.int .u8,_,_,_,_,_⟩,some ⟨.string,_,_,_,_,_⟩=>match sc R x with
  |some (s,es)=>match es.toI .u8 with
   |some l=>cu (bX s 1||H9 es) (K (.str (bytesOf l)))
   |none=>False
  |none=>False
 |_,_=>False
def ai.Nil:ai->Prop
 |.gen es=>es=[]
 |.ints _ l=>l=[]
 |.ag l=>l=[]
 |.ah _ l=>l=[]
def J3(T:iB)(t:TypeId)(es:ai)(K:D->Prop):Prop:=
 match T.get t with
 |some ⟨.slice _ _,_,_,_,_,_⟩=>K (.mM es)
 |_=>False
def u0(mx:Bool)(x y:D)(K:D->Prop):Prop:=
 match x,y with
 |.int k a,.int k' b=>cu (decide (k=k')) (K (.int k (match mx with|true=>(if b>a then b else a)|false=>(if b<a then b else a))))
 |_,_=>False
def lL(T:iB)(G:List ba)(N M:Nat)(o:Oper)(st:St)(K:St->Prop):Prop:=
  match o.op with
  | .pick c a b=>match cq st.env c with
    | .bool t=>w7 t ((cq st.env a).force λd=>st.put N o.dst d st.rows K) ((cq st.env b).force λd=>st.put N o.dst d st.rows K)
    |_=>False
  | .call {callee:= .value (.func f),args, .. }=>match oU G f with
    | none=>match BD G f with
      |false=>J6 G f (args.toList.map (cq st.env)) st.rows λd R=>st.put N o.dst d R K
      |true=>Cz G M f (args.toList.map (cq st.env)) st.rows λks d R=>FZ ks st.env λenv=>St.put N ⟨env,R⟩ o.dst d R K
    |some k=>cu (bN f YB)<|HP G M f k (args.toList.map (cq st.env)) st.rows λks d R=>FZ ks st.env λenv=>St.put N ⟨env,R⟩ o.dst d R K
  | .call {callee:= .value (.tmp t),args, .. }=>match look st.env t with
    | .gl f cs=>match oU G f with
      | none=>match BD G f with
        |false=>J6 G f (args.toList.map (cq st.env)++cs.map iD.d) st.rows λd R=>st.put N o.dst d R K
        |true=>False
      |some k=>cu (bN f YB||bX args.size 1)<|HP G M f k (args.toList.map (cq st.env)++cs.map iD.d) st.rows λks d R=>FZ ks st.env λenv=>St.put N ⟨env,R⟩ o.dst d R K
    |_=>False
  | .call {callee:= .builtin .append,args,argTypes}=>match args.toList,argTypes.toList with
    |[x,y],[t,tx]=>LS T M t tx (cq st.env x) (cq st.env y) st.rows λks d R=>FZ ks st.env λenv=>St.put N ⟨env,R⟩ o.dst d R K
    |_,_=>False
  | .call {callee:= .builtin .copy,args,argTypes}=>match args.toList,argTypes.toList with
    |[x,y],[t,tx]=>tQ T t tx (cq st.env x) (cq st.env y) st.rows λd R=>st.put N o.dst d R K
    |_,_=>False
  | .call {callee:= .builtin .min,args, .. }=>match args.toList with
    |[x,y]=>u0 false (cq st.env x) (cq st.env y) λd=>st.put N o.dst d st.rows K
    |_=>False
  | .call {callee:= .builtin .max,args, .. }=>match args.toList with
    |[x,y]=>u0 true (cq st.env x) (cq st.env y) λd=>st.put N o.dst d st.rows K
    |_=>False
  | .convert s d x=>match T.get s with
    |some ⟨.slice e _,_,_,_,_,_⟩=>u5 T e d (cq st.env x) st.rows λd=>st.put N o.dst d st.rows K
    |_=>ic T (.convert s d x) (cq st.env) st.rows λd R=>st.put N o.dst d R K
  | .binOp op t x y ty=>match op,cq st.env x,cq st.env y with
    | .eql, .sl _ es _, .c9=>J3 T t es λd=>st.put N o.dst d st.rows K
    | .eql, .all r, .c9=>match st.rows.getD r none with
      |some ⟨_,_,_,es⟩=>J3 T t es λd=>st.put N o.dst d st.rows K
      |none=>False
    |_,_,_=>ic T (.binOp op t x y ty) (cq st.env) st.rows λd R=>st.put N o.dst d R K
  |op=>ic T op (cq st.env) st.rows λd R=>st.put N o.dst d R K
def lR(T:iB)(G:List ba)(N M:Nat)(ops:Array Oper):List Oper->St->(St->Prop)->Prop
  |[],st,K=>K st
  | o :: l, st,K=>match o.guard with
    |none=>lL T G N M o st λst=>lR T G N M ops l st K
    | some (j,want)=>match(ops[j]?).bind (·.dst) with
      | some g=>match look st.env g with
        | .bool b=>w7 b
            (match want with|true=>lL T G N M o (st.jT (.tmp g) true) λst=>lR T G N M ops l st K|false=>(st.jT (.tmp g) true).put N o.dst (.dw []) st.rows λst=>lR T G N M ops l st K)
            (match want with|false=>lL T G N M o (st.jT (.tmp g) false) λst=>lR T G N M ops l st K|true=>(st.jT (.tmp g) false).put N o.dst (.dw []) st.rows λst=>lR T G N M ops l st K)
        | .dw []=>st.put N o.dst (.dw []) st.rows λst=>lR T G N M ops l st K
        |_=>False
      |none=>False
def rV(G:List ba):Op->Bool
 |.store _ _ _=>true
 |.call {callee:=.value (.func f),.. }=>match oG G f with|some x=>(match x.refs with|[]=>x.oV|_=>true)|none=>true
 |.call {callee:=.value (.tmp _),.. }=>true
 |.call {callee:=.builtin .append,.. }=>true
 |.call {callee:=.builtin .copy,.. }=>true
 |_=>false
def kX(G:List ba)(o:Op):Bool:=!rV G o
def Bq(G:List ba)(ops:Array Oper)(b:Array Nat)(i j:Nat):Bool:=
 match ops[i]?,ops[j]? with
 |some x,some y=>
  (x.apart ops y||(b.getD j 0).testBit i)&&((kX G x.op&&kX G y.op)||(b.getD j 0).testBit i)
 |_,_=>true
def HG(G:List ba)(ops:Array Oper):Bool:=
 let b:=Region.before ops
 (cW ops.size).all λj=>(match ops[j]? with|some o=>o.after.all λe=>!Region.binds .any e||bN e.on j|none=>true)&&(cW j).all λi=>Bq G ops b i j
def kU(ops:Array Oper)(i a:Nat):Bool:=(ops.toList.drop i).all λo=>match o.dst with|some d=>!(bX d a)|none=>true
def mH:List Operand->List Nat
 |[]=>[]
 |.tmp a::l=>a::mH l
 |_::l=>mH l
def px:Op->Option (List Nat)
 |.assign x=>some (mH [x])
 |.move x=>some (mH [x])
 |.extract x _=>some (mH [x])
 |.nilCheck x=>some (mH [x])
 |.fieldAddr _ x _=>some (mH [x])
 |.buildSlice t len parts=>(match Ur t len with|true=>none|false=>some (mH (parts.toList.map (·.2))))
 |_=>none
def lO(env:List (Nat×D))(op:Op):Option (List Nat):=
 match px op with
 |some q=>some q
 |none=>match op with
  |.build _ parts=>some (mH (parts.toList.map (·.2)))
  |.binOp _ _ x y _=>match cq env x with|.int _ _=>some (mH [x,y])|.str _=>some (mH [x,y])|.bool _=>some (mH [x,y])|_=>none
  |.unOp _ _ x=>some (mH [x])
  |.convert _ _ x=>match cq env x with|.int _ _=>some (mH [x])|.str _=>some (mH [x])|_=>none
  |.field _ x _=>some (mH [x])
  |.index _ x y=>some (mH [x,y])
  |.slice _ x (some y) (some z) none=>match cq env x with|.str _=>some (mH [x,y,z])|_=>none
  |.slice _ x (some y) none none=>match cq env x with|.str _=>some (mH [x,y])|_=>none
  |.slice _ x none (some z) none=>match cq env x with|.str _=>some (mH [x,z])|_=>none
  |.indexAddr _ x y=>match cq env x with|.sl _ _ _=>some (mH [x,y])|_=>none
  |.load _ x=>match cq env x with|.iv _ _ _ _=>some (mH [x])|_=>none
  |.call {callee:=.builtin .len,args,.. }=>match args.toList with|[x]=>(match cq env x with|.str _=>some (mH [x])|.sl _ _ _=>some (mH [x])|_=>none)|_=>none
  |_=>none
def Hp:D->Bool|.ptr _ _ _=>true|_=>false
def Jv:D->Bool|.emp=>true|.c9=>true|_=>false
def CY(ops:Array Oper)(env:List (Nat×D))(i j:Nat)(op:Op)(l:List Operand):Bool:=
 match op,l with
 |.load _ (.tmp a),.tmp x::_=>kU ops i a&&(kU ops j x&&(Hp (look env a)&&Jv (look env x)))
 |_,_=>false
def pw:D->Bool|.int _ _=>true|.str _=>true|.bool _=>true|.sl _ _ _=>true|.all _=>true|_=>false
def CZ(ops:Array Oper)(env:List (Nat×D))(i:Nat)(op:Op)(dst:Option Nat):Bool:=
 match op,dst with
 |.load _ (.tmp a),some t=>kU ops i a&&(Hp (look env a)&&(kU ops (i+1) t&&pw (look env t)))
 |_,_=>false
def Mf(G:List ba)(ops:Array Oper)(env:List (Nat×D))(i j:Nat):Bool:=
 match ops[i]?,ops[j]? with
 |some x,some y=>(match x.guard,y.guard,x.op,y.op with
  |none,none,.load _ (.tmp a),.store _ (.tmp b) _=>kU ops i a&&(kU ops j b&&(match look env a,look env b with|.ptr r _ _,.ptr r' _ _=>!(bX r r')|.iv _ _ _ _,.ptr _ _ _=>true|_,_=>false))
  |none,none,op,.store _ (.tmp b) _=>(match lO env op with|some q=>(q.all λa=>kU ops i a)&&(kU ops j b&&(match look env b with|.ptr _ _ _=>true|_=>false))|none=>false)
  |none,none,op,.call {callee:=.value (.func f),.. }=>(match(match oU G f with|some _=>true|none=>BD G f)with|true=>false|false=>match lO env op with|some q=>q.all λa=>kU ops i a|none=>false)
  |none,none,op,.call {callee:=.builtin .append,args,.. }=>(match px op with|some q=>(q.all λa=>kU ops i a&&Hp (look env a))&&(match x.dst with|some t=>kU ops (i+1) t&&Hp (look env t)|none=>true)|none=>CY ops env i j op args.toList||CZ ops env i op x.dst)
  |_,_,_,_=>false)
 |_,_=>false
def uN(ops:Array Oper)(j:Nat):Bool:=
 match ops[j]? with
 |some y=>match y.guard,y.op with
  |none,.alloc _=>(match y.dst with|none=>true|some u=>(cW ops.size).all λk=>bX k j||(match(ops[k]?).bind (·.dst)with|some d=>!(bX d u)|none=>true))
  |_,_=>false
 |none=>false
def wN(G:List ba)(ops:Array Oper)(env:List (Nat×D))(b:Array Nat)(i j:Nat):Bool:=
 match ops[i]?,ops[j]? with
 |some x,some y=>
  (x.apart ops y||(b.getD j 0).testBit i)&&((kX G x.op&&kX G y.op)||(b.getD j 0).testBit i||(Mf G ops env i j||uN ops j))
 |_,_=>true
def QJ(G:List ba)(ops:Array Oper)(env:List (Nat×D)):Bool:=
 let b:=Region.before ops
 (cW ops.size).all λj=>(match ops[j]? with|some o=>o.after.all λe=>!Region.binds .any e||bN e.on j|none=>true)&&(cW j).all λi=>wN G ops env b i j
def Hw(x:Nat):List Nat->Nat->List Nat
 |l,0=>x::l
 |[],_=>[x]
 |y::l,n+1=>y::Hw x l n
def Di(m:Nat):List Nat->Nat->Nat->Nat
 |[],_,r=>r
 |y::l,k,r=>Di m l (k+1) (match m.testBit y with|true=>k+1|false=>r)
def Dj:List Oper->Bool
 |[]=>false
 |o::l=>match o.op with|.buildSlice _ 0 _=>true|_=>Dj l
def FB(e:Bool)(op:Op):Bool:=match px op with|some _=>true|none=>(match op with|.load _ _=>e|_=>false)
def Dk(e:Bool)(ops:Array Oper)(b:Array Nat):List Nat->List Nat->List Nat
 |[],acc=>acc
 |j ::js,acc=>Dk e ops b js (match ops[j]? with
  |some o=>(match o.guard with
   |none=>(match FB e o.op with|true=>Hw j acc (Di (b.getD j 0) acc 0 0)|false=>acc++[j])
   |some _=>acc++[j])
  |none=>acc)
def Ru(ops:Array Oper)(b:Array Nat):Bool:=
 (cW ops.size).any λj=>(match ops[j]? with|some y=>(match y.op with|.load _ _=>true|_=>false)|none=>false)&&(cW j).any λi=>(match ops[i]? with|some x=>(match x.op with|.call {callee:=.builtin .append,.. }=>true|_=>false)|none=>false)&&!((b.getD j 0).testBit i)
def U7(ops:Array Oper):List Nat:=Dk (Dj ops.toList||Ru ops (Region.before ops)) ops (Region.before ops) (cW ops.size) []
def Zq(p:List Nat)(n:Nat):Bool:=bX p.length n&&(((cW n).all λi=>cw i p)&&((p.all λi=>bN i n)&&CI p))
def Dc(p:List Nat)(e:Edge):Edge:=⟨pos e.on p 0,e.ground⟩
def Mh(p:List Nat)(o:Oper):Oper:=⟨o.dst,o.op,o.type,o.pos,o.after.map (Dc p),match o.guard with|none=>none|some (j,w)=>some (pos j p 0,w)⟩
def nj(p:List Nat)(ops:Array Oper):Array Oper:=(p.map λi=>Mh p (ops.getD i default)).toArray
def uK(T:iB)(G:List ba)(N M:Nat)(ops:Array Oper)(st:St)(Q:Ex->St->Prop):Prop:=
 match HG G ops with
 |true=>lR T G N M ops ops.toList st λst=>Q .normal st
 |false=>cu (Zq (U7 ops) ops.size)<|lR T G N M (nj (U7 ops) ops) (nj (U7 ops) ops).toList st λst=>cu (QJ G (nj (U7 ops) ops) st.env) (Q .normal st)
def Hf(i n:Nat):List D->Option (List D)
 |[]=>none
 |d::l=>match d,l with
  |.iI,.c9::m=>some (.gh i:: .all n::m)
  |d,l=>match Hf i n l with|some l'=>some (d::l')|none=>none
def Rv(T:iB)(t:TypeId):Bool:=match T.get t with|some ⟨_,_,_,_,some ds,_⟩=>(match Hf 0 0 ds with|some _=>true|none=>false)|_=>false
def uT(T:iB):List Oper->Bool
 |[]=>false
 |o::l=>match o.op with|.alloc t=>(match Rv T t with|true=>true|false=>uT T l)|_=>uT T l
def Rw:iB->Option TypeId
 |[]=>none
 |(u,i)::l=>match i.kind with|.int .u8=>some u|_=>Rw l
def Jac(T:iB):Code->Option TypeId
 |.region _ ops _=>(match uT T ops.toList with|true=>Rw T|false=>none)
 |_=>none
def Jh(n:Nat):Rows->Nat->Option (Nat×TypeId×Nat×List D)
 |[],_=>none
 |x::l,i=>match x with
  |some ⟨true,ty,sz,.gen [e]⟩=>(match Hf i n e with|some e'=>some (i,ty,sz,e')|none=>Jh n l (i+1))
  |_=>Jh n l (i+1)
def Ji(T:iB)(a:Code)(st:St)(K:St->Prop):Prop:=
 match Jac T a with
 |none=>K st
 |some u=>match Jh st.rows.length st.rows 0 with
  |none=>K st
  |some (i,ty,sz,e)=>D.jX e λe=>Qi (st.rows.set i (some ⟨true,ty,sz,.gen [e]⟩)++[some ⟨false,u,1,.ints .u8 []⟩]) λR=>K ⟨st.env,R⟩
def D.BF(R:Rows)(ks:List Nat):D->D
 |.all r=>match cw r ks with
  |true=>(match R.getD r none with|some ⟨false,_,sz,es⟩=>.sl sz es false|_=>.dead)
  |false=>.all r
 |.ptr r i off=>match cw r ks with
  |true=>(match R.getD r none with|some ⟨true,_,sz,.gen [e]⟩=>(match e.all D.plain with|true=>.iv sz (.gen [e]) i off|false=>.dead)|_=>.dead)
  |false=>.ptr r i off
 |d=>d.ed ks
def D.sd(R:Rows)(ks:List Nat):List D->List D
 |[]=>[]
 |d::l=>d.BF R ks::sd R ks l
def D.HT(R:Rows)(ks:List Nat):D->D
 |.agg cs=>.agg (D.sd R ks cs)
 |d=>d.BF R ks
def D.HU(R:Rows)(ks:List Nat):List D->List D
 |[]=>[]
 |d::l=>d.HT R ks::HU R ks l
def D.BG(R:Rows)(ks:List Nat):D->D
 |.dw ds=>.dw (D.HU R ks ds)
 |d=>d.HT R ks
def Row.me(R:Rows)(ks:List Nat):Row->Row
 |⟨true,ty,sz,.gen [e]⟩=>⟨true,ty,sz,.gen [D.sd R ks e]⟩
 |r=>r
def J9(R0:Rows)(ks:List Nat):Rows->Nat->Rows
 |[],_=>[]
 |x::l,i=>(match cw i ks with|true=>none|false=>match x with|some row=>some (row.me R0 ks)|none=>none)::J9 R0 ks l (i+1)
def Ei(R:Rows)(ks:List Nat):List (Nat×D)->(List (Nat×D)->Prop)->Prop
 |[],K=>K []
 |(t,d)::l,K=>(d.BG R ks).force λd=>Ei R ks l λl=>K ((t,d)::l)
def Dl:List D->List Nat
 |[]=>[]
 |d::l=>(match d with|.all r=>[r]|_=>[])++Dl l
def Rx:D->List Nat|.agg cs=>Dl cs|.all r=>[r]|_=>[]
def FC(R:Rows)(n:Nat)(d:D):List Nat:=
 match d with
 |.ptr r _ off=>match R.getD r none with|some ⟨true,_,_,.gen [e]⟩=>Dl ((e.drop off).take n)|_=>[]
 |_=>[]
def Hx:List (Nat×List Nat)->Nat->Option (List Nat)
 |[],_=>none
 |(u,x)::l,t=>match bX u t with|true=>some x|false=>Hx l t
def Ml(env:List (Nat×D)):List (Nat×D)->Nat->D
 |[],t=>look env t
 |(u,x)::l,t=>match bX u t with|true=>x|false=>Ml env l t
def uU(env:List (Nat×D))(acc:List (Nat×List Nat)):Operand->List Nat
 |.tmp t=>match Hx acc t with|some l=>l|none=>Rx (look env t)
 |_=>[]
def wR(env:List (Nat×D))(acc:List (Nat×List Nat)):List Operand->List Nat
 |[]=>[]
 |x::l=>uU env acc x++wR env acc l
def JL(T:iB)(env:List (Nat×D))(R:Rows)(acc:List (Nat×List Nat))(pa:List (Nat×D))(o:Oper):List (Nat×List Nat):=
 match o.dst with
 |none=>acc
 |some t=>match o.op with
  |.load ty (.tmp p)=>(t,FC R (match T.get ty with|some i=>i.size|none=>0) (Ml env pa p))::acc
  |.move x=>(t,uU env acc x)::acc
  |.slice _ x _ _ _=>(t,uU env acc x)::acc
  |_=>acc
def JM(T:iB)(env:List (Nat×D))(pa:List (Nat×D))(o:Oper):List (Nat×D):=
 match o.dst with
 |none=>pa
 |some t=>match o.op with
  |.fieldAddr s (.tmp p) f=>(match PQ T s f with|some (k,_,_)=>(match Ml env pa p with|.ptr r i off=>(t,.ptr r i (off+k))::pa|_=>pa)|none=>pa)
  |.move (.tmp p)=>(t,Ml env pa p)::pa
  |.nilCheck (.tmp p)=>(t,Ml env pa p)::pa
  |_=>pa
def JN(G:List ba)(f:FuncId):Bool:=match oG G f with|some x=>x.oV||(match x.refs with|[]=>!x.flat|_=>false)|none=>false
def Ry(T:iB)(env:List (Nat×D))(pa:List (Nat×D))(t:TypeId)(p:Nat):List Nat:=
 match T.get t with
 |some ⟨.array _ _ _,_,_,_,_,_⟩=>(match Ml env pa p with|.ptr r _ _=>[r]|_=>[])
 |_=>[]
def Su(T:iB)(G:List ba)(env:List (Nat×D))(R:Rows):List (Nat×List Nat)->List (Nat×D)->List Oper->List Nat
 |_,_,[]=>[]
 |acc,pa,o::l=>(match o.op with|.call {callee:=.value (.func f),args,.. }=>(match JN G f with|true=>wR env acc args.toList|false=>[])|.slice t (.tmp p) _ _ _=>Ry T env pa t p|_=>[])++Su T G env R (JL T env R acc pa o) (JM T env pa o) l
def uc(M:Nat)(R:Rows):List Nat->List Nat
 |[]=>[]
 |r::l=>match gD M r&&(match R.getD r none with|some ⟨false,_,_,_⟩=>true|some ⟨true,_,_,.gen [e]⟩=>e.all D.plain|_=>false)with|true=>r::uc M R l|false=>uc M R l
def HV(T:iB)(G:List ba)(M:Nat)(ops:Array Oper)(st:St)(K:St->Prop):Prop:=
 match uc M st.rows (Su T G st.env st.rows [] [] ops.toList)with
 |[]=>K st
 |ks=>Ei st.rows ks st.env λenv=>Qi (J9 st.rows ks st.rows 0) λR=>K ⟨env,R⟩
def ud(T:iB)(R:Rows)(i:Nat):Option (TypeId×Nat×TypeId×Nat):=
 match R.getD i none with
 |some ⟨true,ty,sz,.gen [[d]]⟩=>(match d with
  |.c9=>(match T.get ty with|some ⟨.slice e n,_,_,_,_,_⟩=>(match bN 0 n with|true=>some (ty,sz,e,n)|false=>none)|_=>none)
  |.emp=>(match T.get ty with|some ⟨.slice e n,_,_,_,_,_⟩=>(match bN 0 n with|true=>some (ty,sz,e,n)|false=>none)|_=>none)
  |_=>none)
 |_=>none
def HW(T:iB):List iD->List (Nat×D)->Rows->(Rows->Prop)->Prop
 |[],_,R,K=>K R
 |.ptr i _ _::l,env,R,K=>(match ud T R i with
  |some (ty,sz,e,n)=>uB R ⟨false,e,n,.gen []⟩ λk R=>Qi (R.set i (some ⟨true,ty,sz,.gen [[.all k]]⟩)) λR=>HW T l env R K
  |none=>HW T l env R K)
 |_::l,env,R,K=>HW T l env R K
def U8(env:List (Nat×D)):List Operand->List iD
 |[]=>[]
 |.tmp t::l=>(match look env t with|.ptr i o f=>.ptr i o f::U8 env l|_=>U8 env l)
 |_::l=>U8 env l
def wS(env:List (Nat×D)):List Oper->List iD
 |[]=>[]
 |o::l=>(match o.op with|.makeFunc _ _ captured=>U8 env captured.toList|_=>[])++wS env l
def splitAt:List (Nat×Nat)->Nat->Option Nat
 |[],_=>none
 |(g,i)::l,f=>match bX g f with|true=>some i|false=>splitAt l f
def Zoj:List (Nat×Operand)->Nat->Operand
 |[],t=>.tmp t
 |(s,x)::l,t=>match bX s t with|true=>x|false=>Zoj l t
def U9:List (Nat×Operand)->List Oper->Option Operand
 |_,[]=>none
 |mv,o::l=>match o.op with
  |.call {callee:=.value (.func f),args,.. }=>(match splitAt splits f with
   |some i=>(match args.toList[i]? with|some (.tmp t)=>some (Zoj mv t)|_=>none)
   |none=>U9 mv l)
  |.move x=>U9 (match o.dst with|some t=>(t,x)::mv|none=>mv) l
  |_=>U9 mv l
def uL(ops:List Oper)(st:St)(K:St->Prop):Prop:=
 match U9 [] ops with
 |none=>K st
 |some x=>match cq st.env x with
  |.bool t=>w7 t (K (st.jT x true)) (K (st.jT x false))
  |_=>K st
def oW(T:iB)(G:List ba)(N M:Nat)(L:Code->St->(Ex->St->Prop)->Prop):Code->St->(Ex->St->Prop)->Prop
 |.skip,st,Q=>Q .normal st
 |.label _,st,Q=>Q .normal st
 |.region _ ops draw,st,Q=>uL ops.toList st λst=>HW T (wS st.env ops.toList) st.env st.rows λR=>HV T G M ops ⟨st.env,R⟩ λst=>match draw with|true=>uK T G N M ops st Q|false=>lR T G N M ops ops.toList st λst=>Q .normal st
 |.seq a b,st,Q=>oW T G N M L a st λe st=>match e with|.normal=>Ji T a st λst=>oW T G N M L b st Q|.exit i=>Q (.exit i) st|.ret=>Q .ret st
 |.cond c a b,st,Q=>match cq st.env c with
  |.bool t=>w7 t (oW T G N M L a (st.jT c true) Q) (oW T G N M L b (st.jT c false) Q)
  |.mM es=>(es.Nil->oW T G N M L a (st.jT c true) Q)/\oW T G N M L b (st.jT c false) Q
  |_=>False
 |.block id c,st,Q=>oW T G N M L c st λe st=>match e with|.normal=>Q .normal st|.exit i=>(match bX i id with|true=>Q .normal st|false=>Q (.exit i) st)|.ret=>Q .ret st
 |.exit id,st,Q=>Q (.exit id) st
 |.ret,st,Q=>Q .ret st
 |.scope c,st,Q=>oW T G N M L c st Q
 |c,st,Q=>L c st Q
def Fp(T:iB)(R:Rows)(env:List (Nat×D)):List ResultVar->(List D->Prop)->Prop
 |[],K=>K []
 |.tmp t::l,K=>(look env t).force λd=>cu d.isVal (Fp T R env l λds=>K (d::ds))
 |.cell a t::l,K=>wG T t (look env a) R λd _=>cu d.isVal (Fp T R env l λds=>K (d::ds))
def j5(ex:List Nat)(i r:Nat):Bool:=match ex[i]? with|some x=>bX x r|none=>false
def Ke(ex:List Nat)(r:Nat):Bool:=ex.all λx=>!(bX x r)
def Ic(ex:List Nat)(R:Rows)(i:Nat):Bool:=match ex[i]? with|some r=>(match R.getD r none with|none=>true|some _=>false)|none=>false
def ai.Eq:ai->ai->Prop
 |.ints k l,.ints k' m=>match decide (k=k')with|true=>l=m|false=>(ai.ints k l).l=(ai.ints k' m).l
 |.ag l,.ag m=>l=m
 |.gen es,.gen fs=>es=fs
 |.gen [],.ints _ m=>m=[]
 |.gen [],.ag m=>m=[]
 |.gen [],.ah _ m=>m=[]
 |.ah k l,.ah k' m=>(match FP k k' l with|some l'=>l'=m|none=>(ai.ah k l).l=(ai.ah k' m).l)
 |E,F=>E.l=F.l
theorem ai.w9{E F:ai}(h:ai.Eq E F):E.l=F.l:=by
 cases E with
 |gen es=>
  cases es with
  |nil=>cases F<;>simp_all [ai.Eq,ai.l]
  |cons e es=>cases F<;>simp_all [ai.Eq,ai.l]
 |ints k l=>
  cases F with
  |ints k' m=>
   simp only[ai.Eq]at h
   split at h
   ·rename_i hk;subst h;rw[oY hk]
   ·exact h
  |_=>exact h
 |ag l=>
  cases F with
  |ag m=>simp only[ai.Eq]at h;rw[h]
  |_=>exact h
 |ah k l=>
  cases F with
  |ah k' m=>
   simp only[ai.Eq]at h
   split at h
   ·rename_i l' hc
    obtain⟨e,hm⟩:=VY hc
    subst e
    simp only at hm
    rw[<-h,<-hm]
   ·exact h
  |_=>exact h
theorem ai.oe{E:ai}:E.Nil↔E.l=[]:=by
 cases E<;>simp[ai.Nil,ai.l]
def sk(ex:List Nat):List (Nat×Nat×Nat)->List (Nat×Nat×Nat)->Bool
 |[],[]=>true
 |(i,b,c)::l,(r,y,z)::m=>j5 ex i r&&(bX b y&&(bX c z&&sk ex l m))
 |_,_=>false
def oX(ex:List Nat):List iD->List iD->Bool
 |[],[]=>true
 |.ptr i b c::l,.ptr r y z::m=>j5 ex i r&&(bX b y&&(bX c z&&oX ex l m))
 |.fn f ps::l,.fn g qs::m=>bX f g&&(sk ex ps qs&&oX ex l m)
 |_,_=>false
def iM(ex:List Nat)(m:Nat)(R:Rows)(d p:D):Prop:=
 match p with
 |.int k n=>match d with|.int j q=>cu (decide (j=k)) (q=n)|_=>False
 |.bool b=>match d with|.bool a=>a=b|_=>False
 |.str s=>match d with|.str u=>u=s|_=>False
 |.iI=>match d with|.iI=>True|_=>False
 |.jI=>match d with|.jI=>True|_=>False
 |.gl f cs=>match d with|.gl g ds=>cu (bX f g&&oX ex cs ds) True|_=>False
 |.ptr i o f=>match d with|.ptr r o' f'=>cu (j5 ex i r&&(bX o o'&&bX f f')) True|_=>False
 |.gh i=>match d with|.iI=>True|.gh r=>cu (j5 ex i r) True|.ptr r o f=>cu (j5 ex i r&&(bX o 0&&bX f 0)) True|_=>False
 |.c9=>match d with|.c9=>True|_=>False
 |.emp=>match d with|.c9=>True|.emp=>True|_=>False
 |.sl sz es fr=>match d with
  |.c9=>es.Nil
  |.emp=>es.Nil
  |.sl j4 iX fr'=>cu (!fr||fr') ((iX.Nil\/j4=sz)/\ai.Eq iX es)
  |.all r=>match R.getD r none with
   |some ⟨box,_,j4,iX⟩=>cu (!box&&bX j4 sz&&Ke ex r&&gD m r) (ai.Eq iX es)
   |none=>False
  |.own r o n=>match R.getD r none with
   |some ⟨box,_,j4,iX⟩=>cu (!box&&bX j4 sz&&Ke ex r&&gD m r) (ai.Eq ((iX.drop o).take n) es)
   |none=>False
  |_=>False
 |.all i=>match d with|.all r=>cu (j5 ex i r) True|.c9=>cu (Ic ex R i) True|.emp=>cu (Ic ex R i) True|_=>False
 |.own i o n=>match d with|.own r o' n'=>cu (j5 ex i r) (o'=o/\n'=n)|_=>False
 |.dead=>cu d.Hh True
 |_=>False
def Dy(ex:List Nat)(m:Nat)(R:Rows):List D->List D->Prop
 |[],[]=>True
 |d::ds,p::ps=>iM ex m R d p/\Dy ex m R ds ps
 |_,_=>False
def oZ(ex:List Nat)(m:Nat)(R:Rows)(d p:D):Prop:=
 match p with
 |.agg ps=>match d with|.agg ds=>Dy ex m R ds ps|_=>False
 |p=>iM ex m R d p
def we(ex:List Nat)(m:Nat)(R:Rows):List D->List D->Prop
 |[],[]=>True
 |d::ds,p::ps=>oZ ex m R d p/\we ex m R ds ps
 |_,_=>False
def si(ex:List Nat)(m:Nat)(R:Rows)(d p:D):Prop:=
 match p with
 |.dw ps=>match d with|.dw ds=>we ex m R ds ps|_=>False
 |p=>oZ ex m R d p
def lM(ex:List Nat)(m:Nat)(R:Rows):List Nat->List Row->Prop
 |[],[]=>True
 |r ::rs,⟨box,ty,sz,es⟩::ps=>(match R.getD r none with
  |some ⟨Ac,jS,j4,iX⟩=>cu (Bool.xor (!box) Ac&&bX ty jS&&bX sz j4) (match box with
   |false=>ai.Eq iX es
   |true=>match iX,es with|.gen [e'],.gen [e]=>Dy ex m R e' e|_,_=>False)
  |none=>cu (!box&&bN 0 sz) es.Nil)/\lM ex m R rs ps
 |_,_=>False
def newAt(n0:Nat):List (Nat×Nat)->Nat->Nat
 |[],i=>n0+i
 |(j,r)::l,i=>match bX j i with|true=>r|false=>newAt n0 l i
def news(n0:Nat)(l:List (Nat×Nat)):Nat->Nat->List Nat
 |_,0=>[]
 |i,n+1=>newAt n0 l i::news n0 l (i+1) n
def Mc:List Nat->List Nat->Bool
 |[],[]=>true
 |x::l,y::m=>bX x y&&Mc l m
 |_,_=>false
def sj(M:Nat)(ex:List Nat):Bool:=(Mc (ex.take M) (cW M)&&(ex.drop M).all λr=>gD M r)&&CI (ex.drop M)
def Ae(m:Nat)(res:D)(rows:List Row)(d:D)(R:Rows):Prop:=
 ∃ex,sj m ex=true/\si ex m R d res/\lM ex m R ex rows
def Fo:List D->Nat->List (Nat×D)
 |[],_=>[]
 |d::ds,i=>(i,d)::Fo ds (i+1)
def ka(T:iB)(G:List ba)(L:Code->St->(Ex->St->Prop)->Prop)(fn:Func)(args:List D)(rows:List Row)(Q:D->Rows->Prop):Prop:=
 match fn.body with
 |some c=>oW T G fn.ntmps rows.length L c ⟨Fo args 0,rows.map some⟩ λe st=>match e with
  |.exit _=>False
  |_=>Fp T st.rows st.env fn.results.toList λds=>match ds with|[d]=>Q d st.rows|ds=>Q (.dw ds) st.rows
 |none=>False
def oy:List Nat->List D->List (Nat×D)
 |t::ts,d::ds=>(t,d)::oy ts ds
 |_,_=>[]
def Ap:List iD->List Nat
 |[]=>[]
 |.fn f _::l=>f::Ap l
 |_::l=>Ap l
def Aq:D->List Nat|.gl f cs=>f::Ap cs|_=>[]
def rm:List D->List Nat
 |[]=>[]
 |d::l=>Aq d++rm l
def EY:D->List Nat|.agg cs=>rm cs|d=>Aq d
def ou:List D->List Nat
 |[]=>[]
 |d::l=>EY d++ou l
def CC:D->List Nat|.dw ds=>ou ds|d=>EY d
def kD:List Row->List Nat
 |[]=>[]
 |⟨true,_,_,.gen [e]⟩::l=>rm e++kD l
 |_::l=>kD l
def Ga:Rows->List Nat
 |[]=>[]
 |some r::l=>kD [r]++Ga l
 |none::l=>Ga l
def pY(l:List Nat):Bool:=l.all λf=>bN f YB
def Aa:List (Nat×D)->List Nat
 |[]=>[]
 |(_,d)::l=>CC d++Aa l
def Fs (T:iB)(G:List ba)(L:Code->St->(Ex->St->Prop)->Prop)(fn:Func)(args:List D)(rows:List Row)(Q:D->Rows->Prop)(M:Nat):Prop:=
 match fn.body with
 |some c =>match gD YB fn.nfree with
  |true =>match bX fn.nfree YB with
   |true=>oW T G fn.ntmps M L c ⟨oy fn.params.toList args,rows.map some⟩ λe st=>match e with
    |.normal=>Q (.bool true) st.rows
    |_=>False
   |false=>match c with
    |.seq a b=>oW T G fn.ntmps M L a ⟨oy fn.params.toList args,rows.map some⟩ λe st=>match e with
     |.normal=>cu (pY (Aa st.env++Ga st.rows)) (oW T G fn.ntmps M L b st λe st=>match e with
      |.normal=>Q (.bool true) st.rows
      |_=>False)
     |_=>False
    |_=>False
  |false=>oW T G fn.ntmps M L c ⟨Fo args 0,rows.map some⟩ λe st=>match e with
  |.exit _=>False
  |_=>Fp T st.rows st.env fn.results.toList λds=>match ds with|[d]=>Q d st.rows|ds=>Q (.dw ds) st.rows
 |none=>False
