import Derived.Test.YthjfindbamdacaaGreatDoorAuditComparesFy
open Nat renaming beq->bT,blt->bJ,ble->gT
open BitVec renaming ofInt->dW
open List renaming range->dB
set_option linter.all false
namespace Go.GD
open Go
def cg(b:Bool)(p:Prop):Prop:=match b with|true=>p|false=>False
def Dh(b:Bool)(p q:Prop):Prop:=match b with|true=>p|false=>q
theorem c7{b:Bool}{p:Prop}:cg b p↔b=true/\p:=by cases b<;>simp[cg]
theorem Zfj{b:Bool}{p q:Prop}:Dh b p q↔(b=true->p)/\(b=false->q):=by cases b<;>simp[Dh]
abbrev Rows:=List (Option Row)
namespace D
def Fa(n:Nat):D->Bool|.sl m _ _=>bT m n|.dq=>true|.emp=>true|_=>false
def toEs:D->ak|.sl _ es _=>es|_=>.gen []
def uF:D->Bool|.agg _=>false|.dt _=>false|.dead=>false|_=>true
def isVal:D->Bool|.dt _=>false|.dead=>false|_=>true
def He:D->Bool|.agg _=>false|.dt _=>false|_=>true
def plain:D->Bool|.bool _=>true|.int _ _=>true|.str _=>true|.iy=>true|.dq=>true|.emp=>true|.sl _ _ _=>true|_=>false
def cells:D->List D|.agg cs=>cs|d=>[d]
def force:D->(D->Prop)->Prop
 |.bool b,K=>K (.bool b)
 |.int k n,K=>K (.int k n)
 |.str s,K=>K (.str s)
 |.sl a b c,K=>K (.sl a b c)
 |.all a,K=>K (.all a)
 |.own a b c,K=>K (.own a b c)
 |.ptr a b c,K=>K (.ptr a b c)
 |.pa a b c d e f,K=>K (.pa a b c d e f)
 |.ig a b c d,K=>K (.ig a b c d)
 |.iy,K=>K .iy
 |.dq,K=>K .dq
 |.emp,K=>K .emp
 |.pF es,K=>K (.pF es)
 |.dead,K=>K .dead
 |.gb a b,K=>K (.gb a b)
 |.cy a,K=>K (.cy a)
 |.jF,K=>K .jF
 |.agg a,K=>K (.agg a)
 |.dt a,K=>K (.dt a)
end D
def D.jN:List D->(List D->Prop)->Prop
 |[],K=>K []
 |d::l,K=>d.force λd=>jN l λl=>K (d::l)
def tq:Rows->(Rows->Prop)->Prop
 |[],K=>K []
 |d::l,K=>tq l λl=>K (d::l)
inductive pI where
 |int (k:IntKind)|bool|str|sl (n:Nat)|other
inductive TK where
 |int (k:IntKind)|bool|string
 |slice (e:TypeId) (n:Nat)
 |struct (fs:List (Nat×TypeId×Nat))
 |array (len:Nat) (e:TypeId) (n:Nat)
 |other
structure TI where
 kind:TK
 size:Nat
 bytes:Nat
 sA:List pI
 zero:Option (List D)
 eq:Bool
abbrev ff:=List (TypeId×TI)
def ff.get:ff->TypeId->Option TI
 |[],_=>none
 |(u,i)::l,t=>match bT u t with|true=>some i|false=>ff.get l t
def TK.isAgg:TK->Bool|.struct _=>true|.array _ _ _=>true|_=>false
def uk(pl:Bool):pI->D->(D->Prop)->Prop
 |.int k,c,K=>cg (c.isInt k) (K (.int k c.toInt))
 |.bool,c,K=>cg c.isBool (K (.bool c.toBool))
 |.str,c,K=>cg c.isStr (K (.str c.toStr))
 |.sl n,c,K=>match pl with
  |true=>cg (c.Fa n) (K (.sl n c.toEs false))
  |false=>cg c.uF (c.force K)
 |.other,c,K=>match pl with
  |true=>match c with|.iy=>K .iy|_=>False
  |false=>cg c.uF (c.force K)
def I6(pl:Bool)(e:List D):List pI->Nat->(List D->Prop)->Prop
 |[],_,K=>K []
 |t::ts,off,K=>uk pl t (e.getD off .dead) λd=>I6 pl e ts (off+1) λds=>K (d::ds)
def um(pl:Bool)(t:TI)(e:List D)(off:Nat)(K:D->Prop):Prop:=
 match t.kind.isAgg with
 |true=>I6 pl e t.sA off λds=>K (.agg ds)
 |false=>match t.sA with
  |[y]=>uk pl y (e.getD off .dead) K
  |_=>False
def kR:List D->Nat->List D->List D
 |e,_,[]=>e
 |e,off,v::vs=>kR (e.set off v) (off+1) vs
def Ps:Value->Option D
 |.bool b=>some (.bool b)
 |.int k n=>some (.int k n)
 |.string s=>some (.str s.data.toList)
 |.slice none 0 0=>some .dq
 |.pointer none=>some .iy
 |.nilIface=>some .jF
 |.nilFunc=>some .dead
 |_=>none
def AW:List Value->Option (List D)
 |[]=>some []
 |v::vs=>match Ps v,AW vs with|some d,some ds=>some (d::ds)|_,_=>none
def FA:Value->Option D
 |.agg cs=>(AW cs.toList).map .agg
 |v=>Ps v
structure St where
 env:List (Nat×D)
 rows:Rows
def look:List (Nat×D)->Nat->D
 |[],_=>.dead
 |(u,d)::l,t=>match bT u t with|true=>d|false=>look l t
def bo(env:List (Nat×D)):Operand->D
 |.tmp t=>look env t
 |.const v=>(FA v).getD .dead
 |.func f=>match bJ f YB with|true=>.gb f []|false=>.dead
 |_=>.dead
def bb(k:IntKind)(x y:Int):Int:=k.wrap (dW k.bits x&&&dW k.bits y).toNat
def ie(k:IntKind)(x y:Int):Int:=k.wrap (dW k.bits x|||dW k.bits y).toNat
def mK(k:IntKind)(x y:Int):Int:=k.wrap (dW k.bits x^^^dW k.bits y).toNat
def nC(k:IntKind)(x y:Int):Int:=k.wrap (dW k.bits x&&&~~~dW k.bits y).toNat
def ea(k:IntKind)(x y:Int):Int:=k.wrap (x*2^(min y.toNat k.bits))
def bf(k:IntKind)(x y:Int):Int:=x.fdiv (2^(min y.toNat k.bits))
def TV(op:BinOp)(k:IntKind)(x y:Int)(K:D->Prop):Prop:=
 match op with
 |.add=>K (.int k (k.wrap (x+y)))
 |.sub=>K (.int k (k.wrap (x-y)))
 |.mul=>K (.int k (k.wrap (x*y)))
 |.quo=>cg (decide (y≠0)) (K (.int k (k.wrap (x.tdiv y))))
 |.rem=>cg (decide (y≠0)) (K (.int k (x.tmod y)))
 |.and=>K (.int k (bb k x y))
 |.or=>K (.int k (ie k x y))
 |.xor=>K (.int k (mK k x y))
 |.andNot=>K (.int k (nC k x y))
 |.eql=>K (.bool (x==y))
 |.neq=>K (.bool (x !=y))
 |.lss=>K (.bool (decide (x<y)))
 |.leq=>K (.bool (decide (x<=y)))
 |.gtr=>K (.bool (decide (x>y)))
 |.geq=>K (.bool (decide (x>=y)))
 |_=>False
def Cf:D->D->Bool
 |.int _ a,.int _ b=>a==b
 |.bool a,.bool b=>a==b
 |.str a,.str b=>decide (a=b)
 |_,_=>false
def eqs:List D->List D->Bool
 |[],_=>true
 |a::l,b::m=>Cf a b&&eqs l m
 |_::_,[]=>false
def fits:List pI->List D->Bool
 |[],[]=>true
 |.int k::t,d::l=>d.isInt k&&fits t l
 |.bool::t,d::l=>d.isBool&&fits t l
 |.str::t,d::l=>d.isStr&&fits t l
 |_,_=>false
def sB(T:ff)(op:BinOp)(t:TypeId)(x y:D)(K:D->Prop):Prop:=
 match x,y with
 |.int k a,.int k' b=>
  match op with
  |.shl=>cg (decide (0<=b)) (K (.int k (ea k a b)))
  |.shr=>cg (decide (0<=b)) (K (.int k (bf k a b)))
  |op=>cg (decide (k=k')) (TV op k a b K)
 |.str a,.str b=>
  match op with
  |.add=>cg (decide (a.length+b.length<=maxLen)) (K (.str (a++b)))
  |.eql=>K (.bool (decide (a=b)))
  |.neq=>K (.bool (!decide (a=b)))
  |_=>False
 |.bool a,.bool b=>
  match T.get t with
  |some ⟨.bool,_,_,_,_,_⟩=>match op with
   |.eql=>K (.bool (a==b))
   |.neq=>K (.bool (!(a==b)))
   |_=>False
  |_=>False
 |.agg a,.agg b=>
  match T.get t with
  |some ti=>cg (ti.kind.isAgg&&bJ 0 ti.size&&ti.eq&&fits ti.sA a&&fits ti.sA b)<|
   match op with
   |.eql=>K (.bool (eqs a b))
   |.neq=>K (.bool (!(eqs a b)))
   |_=>False
  |none=>False
 |_,_=>False
def LW(T:ff)(s d:TypeId)(x:D)(K:D->Prop):Prop:=
 match T.get s,T.get d with
 |some ⟨.int _,_,_,_,_,_⟩,some ⟨.int k,_,_,_,_,_⟩=>match x with
  |.int _ n=>K (.int k (k.wrap n))
  |_=>False
 |some ⟨.string,_,_,_,_,_⟩,some ⟨.string,_,_,_,_,_⟩=>match x with
  |.str s=>K (.str s)
  |_=>False
 |_,_=>False
def Pp(T:ff)(s:TypeId)(f:Nat):Option (Nat×TypeId×Nat):=
 match T.get s with
 |some ⟨.struct fs,_,_,_,_,_⟩=>fs[f]?
 |_=>none
def Fg(place:Nat->Option (Nat×Nat))(ev:Operand->D):List (Nat×Operand)->List D->(List D->Prop)->Prop
 |[],cs,K=>D.jN cs K
 |(i,x)::ps,cs,K=>match place i with
  |some (off,n)=>cg ((ev x).isVal&&bT (ev x).cells.length n&&gT (off+n) cs.length) (Fg place ev ps (kR cs off (ev x).cells) K)
  |none=>False
def D.Px:D->D|.sl a b _=>.sl a b false|d=>d
def Zc:List D->List D
 |[]=>[]
 |d::l=>d.Px::Zc l
def Ha(n len:Nat)(ev:Operand->D):List (Nat×Operand)->List (List D)->(List (List D)->Prop)->Prop
 |[],es,K=>K es
 |(i,x)::ps,es,K=>cg (((ev x).isVal&&(Zc (ev x).cells).all D.plain)&&bT (Zc (ev x).cells).length n&&bJ i len) (Ha n len ev ps (es.set i (Zc (ev x).cells)) K)
def wA(row:Row):Rows->Nat->(Nat->Rows->Prop)->Prop
 |[],n,K=>K n [some row]
 |x::l,n,K=>wA row l (n+1) λk l=>K k (x::l)
def Aw(R:Rows)(row:Row)(K:Nat->Rows->Prop):Prop:=wA row R 0 K
def ints(e:List D)(off:Nat):Nat->List Int
 |0=>[]
 |n+1=>(e.getD off .dead).toInt::ints e (off+1) n
def bn(e:List D)(off:Nat):Nat->List Bool
 |0=>[]
 |n+1=>(e.getD off .dead).toBool::bn e (off+1) n
def Cr(k:IntKind)(e:List D)(off:Nat):Nat->Bool
 |0=>true
 |n+1=>(e.getD off .dead).isInt k&&Cr k e (off+1) n
def G0(e:List D)(off:Nat):Nat->Bool
 |0=>true
 |n+1=>(e.getD off .dead).isBool&&G0 e (off+1) n
def G7(k:IntKind)(l:List Int)(j:Nat):Nat->List D
 |0=>[]
 |n+1=>.int k (l.getD j 0)::G7 k l (j+1) n
def G8(l:List Bool)(j:Nat):Nat->List D
 |0=>[]
 |n+1=>.bool (l.getD j false)::G8 l (j+1) n
def wC(T:ff)(t:TypeId)(x:D)(R:Rows)(K:D->Rows->Prop):Prop:=
 match T.get t with
 |none=>False
 |some ti=>match x with
  |.ptr r i off=>match R.getD r none with
   |some ⟨box,_,sz,es⟩=>cg (gT (off+ti.size) sz) (um (!box) ti (es.get i) off λd=>K d R)
   |none=>False
  |.pa r i off len k n=>match R.getD r none with
   |some ⟨_,_,sz,es⟩=>cg (gT (off+len) sz)<|match ti.kind,k with
    |.int j,some k=>cg (decide (j=k)&&Cr k (es.get i) off len) (K (.int k ((ints (es.get i) off len).getD n 0)) R)
    |.bool,none=>cg (G0 (es.get i) off len) (K (.bool ((bn (es.get i) off len).getD n false)) R)
    |_,_=>False
   |none=>False
  |.ig sz es i off=>cg (gT (off+ti.size) sz) (um true ti (es.get i) off λd=>K d R)
  |_=>False
def G9(T:ff)(t:TypeId)(x d:D)(R:Rows)(K:D->Rows->Prop):Prop:=
 match T.get t with
 |none=>False
 |some ti=>match x with
  |.ptr r i off=>match R.getD r none with
   |some ⟨box,ty,sz,es⟩=>cg (bJ 0 ti.size&&d.isVal&&bT d.cells.length ti.size&&gT (off+ti.size) sz)<|match box with
    |true=>D.jN (kR (es.get i) off d.cells) λe=>tq (R.set r (some ⟨true,ty,sz,.gen [e]⟩)) λR=>K .dead R
    |false=>cg (d.cells.all D.plain) (tq (R.set r (some ⟨false,ty,sz,es.set i (kR (es.get i) off d.cells)⟩)) λR=>K .dead R)
   |none=>False
  |.pa r i off len k n=>match R.getD r none with
   |some ⟨box,ty,sz,es⟩=>cg (box&&gT (off+len) sz)<|match ti.kind,k,d with
    |.int j,some k,.int k' v=>cg (decide (j=k)&&decide (k'=k)&&Cr k (es.get i) off len)<|
     D.jN (kR (es.get i) off (G7 k ((ints (es.get i) off len).set n v) 0 len)) λe=>tq (R.set r (some ⟨true,ty,sz,.gen [e]⟩)) λR=>K .dead R
    |.bool,none,.bool v=>cg (G0 (es.get i) off len)<|
     D.jN (kR (es.get i) off (G8 ((bn (es.get i) off len).set n v) 0 len)) λe=>tq (R.set r (some ⟨true,ty,sz,.gen [e]⟩)) λR=>K .dead R
    |_,_,_=>False
   |none=>False
  |_=>False
def TX(T:ff)(t:TypeId)(x:D)(TW:Bool)(n:Int)(R:Rows)(K:D->Rows->Prop):Prop:=
 match T.get t with
 |some ⟨.slice _ iz,_,_,_,_,_⟩=>match x with
  |.sl sz es _=>cg (bT sz iz&&bJ 0 iz&&decide (0<=n/\n<es.len)) (K (.ig sz es n.toNat 0) R)
  |.own r o m=>match R.getD r none with
   |some ⟨_,_,sz,_⟩=>cg (bT sz iz&&bJ 0 iz&&decide (0<=n/\n<m)) (K (.ptr r (o+n.toNat) 0) R)
   |none=>False
  |.all r=>match R.getD r none with
   |some ⟨_,_,sz,es⟩=>cg (bT sz iz&&bJ 0 iz&&decide (0<=n/\n<es.len)) (K (.ptr r n.toNat 0) R)
   |none=>False
  |_=>False
 |some ⟨.array len e iz,_,_,_,_,_⟩=>cg (bJ 0 iz&&decide (0<=n/\n<len))<|match x with
  |.ptr r i off=>match TW with
   |true=>K (.ptr r i (off+n.toNat*iz)) R
   |false=>match T.get e with
    |some ⟨.int k,_,_,_,_,_⟩=>cg (bT iz 1) (K (.pa r i off len (some k) n.toNat) R)
    |some ⟨.bool,_,_,_,_,_⟩=>cg (bT iz 1) (K (.pa r i off len none n.toNat) R)
    |_=>K (.ptr r i (off+n.toNat*iz)) R
  |.ig sz es i off=>K (.ig sz es i (off+n.toNat*iz)) R
  |_=>False
 |_=>False
def rC(x:Option Operand)(ev:Operand->D)(n:Int):Option Int:=match x with|none=>some n|some y=>match ev y with|.int _ m=>some m|_=>none
def LX(T:ff)(t:TypeId)(x:D)(lo hi:Option Operand)(ev:Operand->D)(R:Rows)(K:D->Rows->Prop):Prop:=
 match T.get t with
 |some ⟨.string,_,_,_,_,_⟩=>match x with
  |.str s=>match rC lo ev 0,rC hi ev s.length with
   |some l,some h=>cg (decide (0<=l/\l<=h/\h<=s.length)) (K (.str ((s.drop l.toNat).take (h.toNat-l.toNat))) R)
   |_,_=>False
  |_=>False
 |some ⟨.slice _ iz,_,_,_,_,_⟩=>match x with
  |.sl sz es fr=>match rC lo ev 0,rC hi ev es.len with
   |some l,some h=>cg (bT sz iz&&bJ 0 iz&&decide (0<=l/\l<=h/\h<=es.len)) (K (.sl sz ((es.drop l.toNat).take (h.toNat-l.toNat)) fr) R)
   |_,_=>False
  |.all r=>match R.getD r none with
   |some ⟨_,_,sz,es⟩=>match rC lo ev 0,rC hi ev es.len with
    |some l,some h=>cg (bT sz iz&&bJ 0 iz&&decide (0<=l/\l<=h/\h<=es.len)) (K (.own r l.toNat (h.toNat-l.toNat)) R)
    |_,_=>False
   |none=>False
  |.own r o n=>match R.getD r none with
   |some ⟨_,_,sz,_⟩=>match rC lo ev 0,rC hi ev n with
    |some l,some h=>cg (bT sz iz&&bJ 0 iz&&decide (0<=l/\l<=h/\h<=n)) (K (.own r (o+l.toNat) (h.toNat-l.toNat)) R)
    |_,_=>False
   |none=>False
  |_=>False
 |some ⟨.array len e iz,_,_,_,_,_⟩=>match x,lo,hi with
  |.ig sz es i off,none,none=>match T.get e with
   |some ⟨.int k,_,_,_,_,_⟩=>cg (bT iz 1&&(gT (off+len) sz&&Cr k (es.get i) off len)) (K (.sl 1 (.ints k (ints (es.get i) off len)) false) R)
   |_=>False
  |_,_,_=>False
 |_=>False
def uq(T:ff)(t:TypeId)(n m:Int)(R:Rows)(K:D->Rows->Prop):Prop:=
 match T.get t with
 |some ⟨.slice e _,_,_,_,_,_⟩=>match T.get e with
  |some ⟨_,sz,ly,_,some z,_⟩=>cg (bJ 0 sz&&bT z.length sz&&z.all D.plain&&decide (0<=n/\n<=m/\m<=9223372036854775807/\(ly:Int)*m<=140737488355328))
   (Aw R ⟨false,e,sz,ak.Fh e n.toNat z⟩ λk R=>K (.all k) R)
  |_=>False
 |_=>False
def sG(T:ff)(t:TypeId)(x:D)(R:Rows)(K:D->Rows->Prop):Prop:=
 match T.get t with
 |some ⟨.string,_,_,_,_,_⟩=>match x with
  |.str s=>K (.int .i64 s.length) R
  |_=>False
 |some ⟨.slice _ _,_,_,_,_,_⟩=>match x with
  |.sl _ es _=>K (.int .i64 es.len) R
  |.own _ _ n=>K (.int .i64 n) R
  |.all r=>match R.getD r none with
   |some ⟨_,_,_,es⟩=>K (.int .i64 es.len) R
   |none=>False
  |.dq=>K (.int .i64 0) R
  |.emp=>K (.int .i64 0) R
  |_=>False
 |_=>False
def LY(T:ff)(t:TypeId)(parts:List (Nat×Operand))(ev:Operand->D)(R:Rows)(K:D->Rows->Prop):Prop:=
 match T.get t with
 |some ⟨.struct fs,_,_,_,some ds,_⟩=>cg (fs.all λf=>bJ 0 f.2.2)<|Fg (λi=>(fs[i]?).map λf=>(f.1,f.2.2)) ev parts ds λcs=>K (.agg cs) R
 |some ⟨.array _ _ iz,_,_,_,some ds,_⟩=>cg (bJ 0 iz)<|Fg (λi=>some (i*iz,iz)) ev parts ds λcs=>K (.agg cs) R
 |_=>False
def Qk(T:ff)(t:TypeId)(len:Nat)(parts:List (Nat×Operand))(ev:Operand->D)(R:Rows)(K:D->Rows->Prop):Prop:=
 match T.get t with
 | some ⟨.slice e _,_,_,_,_,_⟩=>match T.get e with
   |some ⟨_,sz,_,_,some z,_⟩=>cg (bJ 0 sz&&bT z.length sz&&gT (len*sz) 16777216&&z.all D.plain)<|
       Ha sz len ev parts (List.replicate len z) λes=>match len with|0=>K .emp R|_+1=>K (.sl sz (ak.YF e es) true) R
   |_=>False
 |_=>False
def G1:ij->Option (Nat×Nat×Nat)|.ptr r i off=>some (r,i,off)|_=>none
def Pg:List ij->Option (List (Nat×Nat×Nat))
 |[]=>some []
 |x::l=>match G1 x,Pg l with|some p,some ps=>some (p::ps)|_,_=>none
def Ct:D->Option ij
 |.ptr r i off=>some (.ptr r i off)
 |.int k n=>some (.int k n)
 |.all r=>some (.arr r)
 |.sl a b fr=>some (.sl a b fr)
 |.gb f cs=>match Pg cs with|some ps=>some (.fn f ps)|none=>none
 |_=>none
def J2:List D->Option (List ij)
 |[]=>some []
 |d::l=>match Ct d,J2 l with|some x,some xs=>some (x::xs)|_,_=>none
def gu(T:ff)(o:Op)(ev:Operand->D)(R:Rows)(K:D->Rows->Prop):Prop:=
 match o with
 |.move x|.assign x=>(ev x).force λd=>K d R
 |.alloc t=>match T.get t with
  |some ⟨_,sz,_,_,some ds,_⟩=>cg (bJ 0 sz&&bT ds.length sz) (Aw R ⟨true,t,sz,.gen [ds]⟩ λk R=>K (.ptr k 0 0) R)
  |_=>False
 |.box t x=>match T.get t with
  |some ⟨_,sz,_,_,_,_⟩=>cg (bJ 0 sz&&(ev x).isVal&&bT (ev x).cells.length sz) (D.jN (ev x).cells λcs=>Aw R ⟨true,t,sz,.gen [cs]⟩ λk R=>K (.ptr k 0 0) R)
  |none=>False
 |.build t parts=>LY T t parts.toList ev R K
 |.buildSlice t len parts=>Qk T t len parts.toList ev R K
 |.load t a=>wC T t (ev a) R K
 |.store t a x=>G9 T t (ev a) (ev x) R K
 |.nilCheck x=>match ev x with
  |.ptr a b c=>K (.ptr a b c) R
  |.ig a b c d=>K (.ig a b c d) R
  |_=>False
 |.binOp op t x y _=>sB T op t (ev x) (ev y) λd=>K d R
 |.unOp op _ x=>match op,ev x with
  |.neg,.int k n=>K (.int k (k.wrap (0-n))) R
  |.xor,.int k n=>K (.int k (mK k (if k.signed then-1 else k.max) n)) R
  |.not,.bool b=>K (.bool (!b)) R
  |_,_=>False
 |.convert s d x=>LW T s d (ev x) λv=>K v R
 |.fieldAddr s x f=>match Pp T s f with
  |some (o,_,n)=>cg (bJ 0 n)<|match ev x with
   |.ptr r i off=>K (.ptr r i (off+o)) R
   |.ig sz es i off=>K (.ig sz es i (off+o)) R
   |_=>False
  |none=>False
 |.field s x f=>match Pp T s f with
  |some (o,t,n)=>match ev x,T.get t with
   |.agg cs,some ti=>cg (bJ 0 n&&gT (o+n) cs.length)<|match ti.kind.isAgg with
    |true=>D.jN ((cs.drop o).take n) λl=>K (.agg l) R
    |false=>cg (cs.getD o .dead).uF ((cs.getD o .dead).force λd=>K d R)
   |_,_=>False
  |none=>False
 |.indexAddr t x ix=>match ev ix with
  |.int _ n=>TX T t (ev x) (match ix with|.const _=>true|_=>false) n R K
  |_=>False
 |.index t x ix=>match T.get t,ev x,ev ix with
  |some ⟨.string,_,_,_,_,_⟩,.str s,.int _ n=>cg (decide (0<=n/\n<s.length)) (K (.int .u8 ((s.getD n.toNat 0).toNat:Int)) R)
  |some ⟨.array len e iz,_,_,_,_,_⟩,.agg cs,.int _ n=>cg (bT iz 1&&(bT cs.length len&&decide (0<=n/\n<len)))<|match T.get e with
   |some ⟨.int k,_,_,_,_,_⟩=>cg (Cr k cs 0 len) (K (.int k ((ints cs 0 len).getD n.toNat 0)) R)
   |some ⟨.bool,_,_,_,_,_⟩=>cg (G0 cs 0 len) (K (.bool ((bn cs 0 len).getD n.toNat false)) R)
   |_=>False
  |_,_,_=>False
 |.extract x i=>match ev x with
  |.dt ds=>cg (ds.getD i .dead).isVal ((ds.getD i .dead).force λd=>K d R)
  |_=>False
 |.slice t x lo hi none=>LX T t (ev x) lo hi ev R K
 |.makeSlice t l c=>match ev l,ev c with
  |.int _ n,.int _ m=>uq T t n m R K
  |_,_=>False
 |.call {callee:=.builtin .len,args,argTypes}=>match args.toList,argTypes.toList with
  |[x],[t]=>sG T t (ev x) R K
  |_,_=>False
 |.makeFunc fn first captured=>match fn with
  |.func f=>cg (bT first.size 0&&bJ f YB)<|match J2 (captured.toList.map ev)with
   |some cs=>K (.gb f cs) R
   |none=>False
  |_=>False
 |_=>False
def pos(r:Nat):List Nat->Nat->Nat
 |[],k=>k
 |x::l,k=>match bT x r with|true=>k|false=>pos r l (k+1)
def bq(r:Nat):List Nat->Bool
 |[]=>false
 |x::l=>match bT x r with|true=>true|false=>bq r l
def o7:List Nat->List Nat->Bool
 |[],_=>true
 |x::l,m=>match bq x m with|true=>o7 l m|false=>false
def ny:List Nat->List Nat->Bool
 |[],_=>true
 |x::l,m=>match bq x m with|true=>false|false=>ny l m
def lh:List Nat->List Nat->List Nat
 |ids,[]=>ids
 |ids,x::l=>match bq x ids with|true=>lh ids l|false=>lh (ids++[x]) l
def DN:List Nat->Bool
 |[]=>true
 |x::l=>match bq x l with|true=>false|false=>DN l
def Cp:ij->List Nat|.ptr r _ _=>[r]|.arr r=>[r]|.fn _ ps=>ps.map (·.1)|_=>[]
def oe:List ij->List Nat
 |[]=>[]
 |x::l=>Cp x++oe l
def ij.jb(f:Nat->Nat)(cq:Bool):ij->ij
 |.ptr r i off=>.ptr (f r) i off
 |.int k n=>.int k n
 |.arr r=>.arr (f r)
 |.sl a b fr=>.sl a b (fr&&cq)
 |.fn g ps=>.fn g (ps.map λp=>(f p.1,p.2))
def nu:D->List Nat|.gb _ cs=>oe cs|.cy r=>[r]|.all r=>[r]|.own r _ _=>[r]|.ptr r _ _=>[r]|.pa r _ _ _ _ _=>[r]|_=>[]
def pB:List D->List Nat
 |[]=>[]
 |d::l=>nu d++pB l
def EW:D->List Nat|.agg cs=>pB cs|d=>nu d
def D.ee(ks:List Nat):D->D
 |.all r=>match bq r ks with|true=>.dead|false=>.all r
 |.own r o n=>match bq r ks with|true=>.dead|false=>.own r o n
 |.ptr r i off=>match bq r ks with|true=>.dead|false=>.ptr r i off
 |.pa r i off l k n=>match bq r ks with|true=>.dead|false=>.pa r i off l k n
 |.cy r=>match bq r ks with|true=>.dead|false=>.cy r
 |.gb f cs=>match ny (oe cs) ks with|true=>.gb f cs|false=>.dead
 |d=>d
def D.j9(ks:List Nat):List D->List D
 |[]=>[]
 |d::l=>d.ee ks::j9 ks l
def D.kill(ks:List Nat):D->D
 |.agg cs=>.agg (D.j9 ks cs)
 |d=>d.ee ks
def D.pq(ks:List Nat):List D->List D
 |[]=>[]
 |d::l=>d.kill ks::pq ks l
def D.gd(ks:List Nat):D->D
 |.dt ds=>.dt (D.pq ks ds)
 |d=>d.kill ks
def Row.kill(ks:List Nat):Row->Row
 |⟨true,ty,sz,.gen [e]⟩=>⟨true,ty,sz,.gen [D.j9 ks e]⟩
 |r=>r
def rA(ks:List Nat):Rows->Nat->Rows
 |[],_=>[]
 |x::l,i=>(match bq i ks with|true=>none|false=>match x with|some row=>some (row.kill ks)|none=>none)::rA ks l (i+1)
def FK(ks:List Nat):List (Nat×D)->(List (Nat×D)->Prop)->Prop
 |[],K=>K []
 |(t,d)::l,K=>(d.gd ks).force λd=>FK ks l λl=>K ((t,d)::l)
def jq(s:List UInt8):List Int:=s.map λb=>(b.toNat:Int)
def bytesOf(l:List Int):List UInt8:=l.map λn=>UInt8.ofNat n.toNat
def rT(R:Rows):D->Option (Nat×ak)
 |.dq=>some (0,.gen [])
 |.emp=>some (0,.gen [])
 |.sl sz es _=>some (sz,es)
 |.all r=>match R.getD r none with|some ⟨false,_,sz,es⟩=>some (sz,es)|_=>none
 |.own r o n=>match R.getD r none with|some ⟨false,_,sz,es⟩=>some (sz,(es.drop o).take n)|_=>none
 |_=>none
def Cg(R:Rows)(ke kx:TK)(y:D):Option (Nat×ak):=
 match kx with
 |.slice _ _=>rT R y
 |.string=>match ke,y with
  |.int .u8,.str s=>some (1,.ints .u8 (jq s))
  |_,_=>none
 |_=>none
def H3:ak->Bool|.gen []=>true|_=>false
def Ci(e sz ly:Nat)(R:Rows)(ks:List Nat)(es ys:ak)(K:List Nat->D->Rows->Prop):Prop:=
 cg (decide (ly*(es.len+ys.len)<=140737488355328))<|tq (rA ks R 0++[some ⟨false,e,sz,es.app ys⟩]) λR'=>K ks (.all R.length) R'
def LG (T:ff)(M:Nat)(t tx:TypeId)(x y:D)(R:Rows)(K:List Nat->D->Rows->Prop):Prop:=
 match T.get t with
 |some ⟨.slice e iz,_,_,_,_,_⟩=>match T.get e,T.get tx with
  |some ⟨ke,sz,ly,_,some z,_⟩,some ⟨kx,_,_,_,_,_⟩=>match Cg R ke kx y with
   |some (sy,ys)=>cg ((bJ 0 sz&&bT iz sz)&&(bT z.length sz&&z.all D.plain)&&(bJ 0 ly&&(bT sy sz||H3 ys)))<|
    match x with
    |.dq=>Ci e sz ly R [] (.gen []) ys K
    |.emp=>Ci e sz ly R [] (.gen []) ys K
    |.all r=>match R.getD r none with
     |some ⟨false,ty,s,es⟩=>cg ((bT s sz&&bT ty e)&&gT M r) (Ci e sz ly R [r] es ys K)
     |_=>False
    |.own r o n=>match R.getD r none with
     |some ⟨false,ty,s,es⟩=>cg ((bT s sz&&bT ty e)&&(gT M r&&bT o 0)) (Ci e sz ly R [r] (es.take n) ys K)
     |_=>False
    |_=>False
   |none=>False
  |_,_=>False
 |_=>False
def tD(T:ff)(t tx:TypeId)(x y:D)(R:Rows)(K:D->Rows->Prop):Prop:=
 match T.get t with
 |some ⟨.slice e iz,_,_,_,_,_⟩=>match T.get e,T.get tx with
  |some ⟨ke,sz,_,_,_,_⟩,some ⟨kx,_,_,_,_,_⟩=>match Cg R ke kx y with
   |some (sy,ys)=>cg ((bJ 0 sz&&bT iz sz)&&(bT sy sz||H3 ys))<|
    match x with
    |.all r=>match R.getD r none with
     |some ⟨false,ty,s,es⟩=>cg (bT s sz)<|tq (R.set r (some ⟨false,ty,s,(ys.take (min ys.len es.len)).app (es.drop (min ys.len es.len))⟩)) λR'=>K (.int .i64 (min ys.len es.len:Nat)) R'
     |_=>False
    |.own r o n=>match R.getD r none with
     |some ⟨false,ty,s,es⟩=>cg (bT s sz)<|tq (R.set r (some ⟨false,ty,s,((es.take o).app (ys.take (min ys.len n))).app (es.drop (o+min ys.len n))⟩)) λR'=>K (.int .i64 (min ys.len n:Nat)) R'
     |_=>False
    |_=>False
   |none=>False
  |_,_=>False
 |_=>False
inductive Ans where
 |no
 |ok (res:D) (rows:List Row)
 |when (p:Prop) (res:D) (rows:List Row)
 |abs (α:Type) (v:α) (res:α->D) (rows:α->List Row)
 |lr (p:Prop) (α:Type) (v:α) (res:α->D) (rows:α->List Row)
structure ba where
 f:FuncId
 refs:List Bool
 flat:Bool
 m:List D->List Row->Ans
 gone:Option Nat
 oM:Bool
def oA:List ba->FuncId->Option ba
 |[],_=>none
 |x::l,f=>match bT x.f f with|true=>some x|false=>oA l f
def EV(R:Rows):D->Option D
 |.bool b=>some (.bool b)
 |.int k n=>some (.int k n)
 |.str s=>some (.str s)
 |.iy=>some .iy
 |.jF=>some .jF
 |.dq=>some (.sl 0 (.gen []) false)
 |.emp=>some (.sl 0 (.gen []) false)
 |.sl a b _=>some (.sl a b false)
 |.all r=>match R.getD r none with|some row=>(match row.box with|false=>some (.sl row.sz row.es false)|true=>none)|none=>none
 |.own r o n=>match R.getD r none with|some row=>(match row.box with|false=>some (.sl row.sz ((row.es.drop o).take n) false)|true=>none)|none=>none
 |_=>none
def I4(R:Rows):List D->Option (List D)
 |[]=>some []
 |d::ds=>match EV R d,I4 R ds with|some x,some xs=>some (x::xs)|_,_=>none
def conv(R:Rows):D->Option D
 |.agg cs=>(I4 R cs).map .agg
 |d=>EV R d
def D.lY(f:Nat->Nat)(cq:Bool):D->D
 |.all r=>.all (f r)
 |.own r o n=>.own (f r) o n
 |.ptr r i off=>.ptr (f r) i off
 |.pa r i off l k n=>.pa (f r) i off l k n
 |.sl a b fr=>.sl a b (fr&&cq)
 |.gb g cs=>.gb g (cs.map (ij.jb f cq))
 |.cy r=>.cy (f r)
 |d=>d
def D.lZ(f:Nat->Nat)(cq:Bool):List D->List D
 |[]=>[]
 |d::l=>d.lY f cq::lZ f cq l
def D.jb(f:Nat->Nat)(cq:Bool):D->D
 |.agg cs=>.agg (D.lZ f cq cs)
 |d=>d.lY f cq
def D.Ay(f:Nat->Nat)(cq:Bool):List D->List D
 |[]=>[]
 |d::l=>d.jb f cq::Ay f cq l
def D.sD(f:Nat->Nat)(cq:Bool):D->D
 |.dt ds=>.dt (D.Ay f cq ds)
 |d=>d.jb f cq
def Row.jb(f:Nat->Nat)(cq:Bool):Row->Row
 |⟨true,ty,sz,.gen [e]⟩=>⟨true,ty,sz,.gen [D.lZ f cq e]⟩
 |r=>r
def Co(R:Rows):List Nat->List Nat
 |[]=>[]
 |r::l=>(match R.getD r none with|some ⟨true,_,_,.gen [e]⟩=>pB e|_=>[])++Co R l
def Cv:List Bool->List D->List Nat
 |true::bs,d::ds=>EW d++Cv bs ds
 |false::bs,_::ds=>Cv bs ds
 |_,_=>[]
def lq:List Bool->List D->List Nat
 |true::bs,_::ds=>lq bs ds
 |false::bs,d::ds=>EW d++lq bs ds
 |[],d::ds=>EW d++lq [] ds
 |_,[]=>[]
def lX(R:Rows)(bs:List Bool)(args:List D):List Nat:=
 let a:=lh [] (Cv bs args)
 let b:=lh a (Co R a)
 lh b (Co R b)
def AT(R:Rows)(f:Nat->Nat):List Nat->Option (List Row)
 |[]=>some []
 |r::l=>match R.getD r none,AT R f l with
  |some row,some rs=>some (row.jb f false::rs)
  |_,_=>none
def sx(R:Rows)(f:Nat->Nat):List Bool->List D->Option (List D)
 |true::bs,d::ds=>match d.isVal,sx R f bs ds with|true,some xs=>some (d.jb f false::xs)|_,_=>none
 |false::bs,d::ds=>match conv R d,sx R f bs ds with|some x,some xs=>some (x::xs)|_,_=>none
 |[],d::ds=>match conv R d,sx R f [] ds with|some x,some xs=>some (x::xs)|_,_=>none
 |_,[]=>some []
def bk(ids:List Nat)(n0 i:Nat):Nat:=match ids[i]? with|some r=>r|none=>n0+(i-ids.length)
def tt(f:Nat->Nat):List Nat->List Row->Rows->Rows
 |r::ids,row::rows,R=>tt f ids rows (R.set r (some (row.jb f true)))
 |_,_,R=>R
def AY(f:Nat->Nat)(rows:List Row):Rows:=rows.map λrow=>some (row.jb f true)
inductive Ex where
 |normal|exit (id:Nat)|ret
def St.put(N:Nat)(st:St)(dst:Option Tmp)(d:D)(R:Rows)(K:St->Prop):Prop:=
 match dst with
 |none=>K ⟨st.env,R⟩
 |some t=>cg (bJ t N) (K ⟨(t,d)::st.env,R⟩)
def St.kv(st:St)(c:Operand)(b:Bool):St:=
 match c with
 |.tmp t=>⟨(t,.bool b)::st.env,st.rows⟩
 |_=>st
def DO(R:Rows)(ids:List Nat)(res:D)(ai:List Row)(K:D->Rows->Prop):Prop:=
 cg (gT ids.length ai.length)<|(res.sD (bk ids R.length) true).force λres=>
  tq (tt (bk ids R.length) ids ai R++AY (bk ids R.length) (ai.drop ids.length)) λR=>K res R
def sE(G:List ba)(f:FuncId)(args:List D)(R:Rows)(K:D->Rows->Prop):Prop:=
 match oA G f with
 |some x=>
  match sx R (λr=>pos r (lX R x.refs args) 0) x.refs args,AT R (λr=>pos r (lX R x.refs args) 0) (lX R x.refs args)with
  |some az,some rows=>
   cg ((x.flat&&(match lX R x.refs args with|[]=>true|_=>false)||(match lq x.refs args with|[]=>true|_=>false))&&
    (o7 (Cv x.refs args) (lX R x.refs args)&&o7 (Co R (lX R x.refs args)) (lX R x.refs args))&&
    (DN (lX R x.refs args)&&ny (lq x.refs args) (lX R x.refs args)))<|
   match x.m az rows with
   |.ok res ai=>DO R (lX R x.refs args) res ai K
   |.when p res ai=>p/\DO R (lX R x.refs args) res ai K
   |.abs _ v res ai=>∀X,X=v->DO R (lX R x.refs args) (res X) (ai X) K
   |.lr p _ v res ai=>p/\∀X,X=v->DO R (lX R x.refs args) (res X) (ai X) K
   |.no=>False
  |_,_=>False
 |none=>False
def oJ(G:List ba)(f:FuncId):Option Nat:=match oA G f with|some x=>x.gone|none=>none
def ET(f:Nat->Nat):List Nat->List Row->Rows->Rows
 |r::ids,row::rows,R=>ET f ids rows (R.set r (some (row.jb f false)))
 |_,_,R=>R
def Qu(f:Nat->Nat)(rows:List Row):Rows:=rows.map λrow=>some (row.jb f false)
def GW(R:Rows)(Ma gid:List Nat)(res:D)(ai:List Row)(K:List Nat->D->Rows->Prop):Prop:=
 cg (gT Ma.length ai.length)<|(res.sD (bk Ma R.length) false).force λres=>
  tq (ET (bk Ma R.length) Ma ai (rA gid R 0)++Qu (bk Ma R.length) (ai.drop Ma.length)) λR=>K gid res R
def HJ(G:List ba)(M:Nat)(f:FuncId)(k:Nat)(args:List D)(R:Rows)(K:List Nat->D->Rows->Prop):Prop:=
 match oA G f with
 |some x=>
  match sx R (λr=>pos r (lX R x.refs args) 0) x.refs args,AT R (λr=>pos r (lX R x.refs args) 0) (lX R x.refs args)with
  |some az,some rows=>
   cg (((match lq x.refs args with|[]=>true|_=>false)&&(match x.refs with|[]=>false|_=>true))&&
    (o7 (Cv x.refs args) (lX R x.refs args)&&o7 (Co R (lX R x.refs args)) (lX R x.refs args))&&
    (DN (lX R x.refs args)&&((lX R x.refs args).drop k).all λr=>gT M r))<|
   match x.m az rows with
   |.abs _ v res ai=>∀X,X=v->GW R ((lX R x.refs args).take k) ((lX R x.refs args).drop k) (res X) (ai X) K
   |.lr p _ v res ai=>p/\∀X,X=v->GW R ((lX R x.refs args).take k) ((lX R x.refs args).drop k) (res X) (ai X) K
   |_=>False
  |_,_=>False
 |none=>False
def Z1(G:List ba)(f:FuncId):Bool:=match oA G f with|some x=>x.oM|none=>false
def Cn(G:List ba)(M:Nat)(f:FuncId)(args:List D)(R:Rows)(K:List Nat->D->Rows->Prop):Prop:=
 match oA G f with
 |some x=>
  match sx R (λr=>r) [] args,AT R (λr=>pos r (lh [] (lq [] args)) 0) (lh [] (lq [] args))with
  |some az,some rows=>
   cg (((match x.refs with|[]=>true|_=>false)&&rows.all λr=>!r.box)&&(DN (lh [] (lq [] args))&&(o7 (lq [] args) (lh [] (lq [] args))&&(lh [] (lq [] args)).all λr=>gT M r)))<|
   match x.m az []with
   |.abs _ v res ai=>∀X,X=v->GW R [] (lh [] (lq [] args)) (res X) (ai X) K
   |.lr p _ v res ai=>p/\∀X,X=v->GW R [] (lh [] (lq [] args)) (res X) (ai X) K
   |_=>False
  |_,_=>False
 |none=>False
def Po:D->Bool|.gb _ _=>false|.cy _=>false|.all _=>false|.own _ _ _=>false|.ptr _ _ _=>false|.pa _ _ _ _ _ _=>false|_=>true
def TT:List D->Bool
 |[]=>true
 |d::l=>match Po d with|true=>TT l|false=>false
def sF:D->Bool|.agg cs=>TT cs|d=>Po d
def TU:List D->Bool
 |[]=>true
 |d::l=>match sF d with|true=>TU l|false=>false
def uo:D->Bool|.dt ds=>TU ds|d=>sF d
def LV(R:Rows)(res:D)(ai:List Row)(K:D->Rows->Prop):Prop:=
 match ai with
 |[]=>cg (uo res) (res.force λres=>K res R)
 |_=>(res.sD (bk [] R.length) true).force λres=>tq (R++AY (bk [] R.length) ai) λR=>K res R
def Cx:List Nat->Bool|[]=>true|_=>false
def JY(G:List ba)(f:FuncId)(args:List D)(R:Rows)(K:D->Rows->Prop):Prop:=
 match oA G f with
 |some x=>match x.refs with
  |[]=>match sx R (λr=>r) [] args with
   |some az=>cg (x.flat||Cx (lq [] args))<|match x.m az []with
    |.ok res ai=>LV R res ai K
    |.when p res ai=>p/\LV R res ai K
    |.abs _ v res ai=>∀X,X=v->LV R (res X) (ai X) K
    |.lr p _ v res ai=>p/\∀X,X=v->LV R (res X) (ai X) K
    |.no=>False
   |none=>False
  |_=>sE G f args R K
 |none=>False
def uS(T:ff)(e d:TypeId)(x:D)(R:Rows)(K:D->Prop):Prop:=
 match T.get e,T.get d with
 |some ⟨.int .u8,_,_,_,_,_⟩,some ⟨.string,_,_,_,_,_⟩=>match rT R x with
  |some (s,es)=>match es.toI .u8 with
   |some l=>cg (bT s 1||H3 es) (K (.str (bytesOf l)))
   |none=>False
  |none=>False
 |_,_=>False
def ak.Nil:ak->Prop
 |.gen es=>es=[]
 |.ints _ l=>l=[]
 |.bn l=>l=[]
 |.bc _ l=>l=[]
def Bn(T:ff)(t:TypeId)(es:ak)(K:D->Prop):Prop:=
 match T.get t with
 |some ⟨.slice _ _,_,_,_,_,_⟩=>K (.pF es)
 |_=>False
def uR(mx:Bool)(x y:D)(K:D->Prop):Prop:=
 match x,y with
 |.int k a,.int k' b=>cg (decide (k=k')) (K (.int k (match mx with|true=>(if b>a then b else a)|false=>(if b<a then b else a))))
 |_,_=>False
def lB(T:ff)(G:List ba)(N M:Nat)(o:Oper)(st:St)(K:St->Prop):Prop:=
  match o.op with
  | .pick c a b=>match bo st.env c with
    | .bool t=>Dh t ((bo st.env a).force λd=>st.put N o.dst d st.rows K) ((bo st.env b).force λd=>st.put N o.dst d st.rows K)
    |_=>False
  | .call {callee:= .value (.func f),args, .. }=>match oJ G f with
    | none=>match Z1 G f with
      |false=>JY G f (args.toList.map (bo st.env)) st.rows λd R=>st.put N o.dst d R K
      |true=>Cn G M f (args.toList.map (bo st.env)) st.rows λks d R=>FK ks st.env λenv=>St.put N ⟨env,R⟩ o.dst d R K
    |some k=>cg (bJ f YB)<|HJ G M f k (args.toList.map (bo st.env)) st.rows λks d R=>FK ks st.env λenv=>St.put N ⟨env,R⟩ o.dst d R K
  | .call {callee:= .value (.tmp t),args, .. }=>match look st.env t with
    | .gb f cs=>match oJ G f with
      | none=>match Z1 G f with
        |false=>JY G f (args.toList.map (bo st.env)++cs.map ij.d) st.rows λd R=>st.put N o.dst d R K
        |true=>False
      |some k=>cg (bJ f YB||bT args.size 1)<|HJ G M f k (args.toList.map (bo st.env)++cs.map ij.d) st.rows λks d R=>FK ks st.env λenv=>St.put N ⟨env,R⟩ o.dst d R K
    |_=>False
  | .call {callee:= .builtin .append,args,argTypes}=>match args.toList,argTypes.toList with
    |[x,y],[t,tx]=>LG T M t tx (bo st.env x) (bo st.env y) st.rows λks d R=>FK ks st.env λenv=>St.put N ⟨env,R⟩ o.dst d R K
    |_,_=>False
  | .call {callee:= .builtin .copy,args,argTypes}=>match args.toList,argTypes.toList with
    |[x,y],[t,tx]=>tD T t tx (bo st.env x) (bo st.env y) st.rows λd R=>st.put N o.dst d R K
    |_,_=>False
  | .call {callee:= .builtin .min,args, .. }=>match args.toList with
    |[x,y]=>uR false (bo st.env x) (bo st.env y) λd=>st.put N o.dst d st.rows K
    |_=>False
  | .call {callee:= .builtin .max,args, .. }=>match args.toList with
    |[x,y]=>uR true (bo st.env x) (bo st.env y) λd=>st.put N o.dst d st.rows K
    |_=>False
  | .convert s d x=>match T.get s with
    |some ⟨.slice e _,_,_,_,_,_⟩=>uS T e d (bo st.env x) st.rows λd=>st.put N o.dst d st.rows K
    |_=>gu T (.convert s d x) (bo st.env) st.rows λd R=>st.put N o.dst d R K
  | .binOp op t x y ty=>match op,bo st.env x,bo st.env y with
    | .eql, .sl _ es _, .dq=>Bn T t es λd=>st.put N o.dst d st.rows K
    |_,_,_=>gu T (.binOp op t x y ty) (bo st.env) st.rows λd R=>st.put N o.dst d R K
  |op=>gu T op (bo st.env) st.rows λd R=>st.put N o.dst d R K
def lF(T:ff)(G:List ba)(N M:Nat)(ops:Array Oper):List Oper->St->(St->Prop)->Prop
  |[],st,K=>K st
  | o :: l, st,K=>match o.guard with
    |none=>lB T G N M o st λst=>lF T G N M ops l st K
    | some (j,want)=>match(ops[j]?).bind (·.dst) with
      | some g=>match look st.env g with
        | .bool b=>Dh b
            (match want with|true=>lB T G N M o (st.kv (.tmp g) true) λst=>lF T G N M ops l st K|false=>(st.kv (.tmp g) true).put N o.dst (.dt []) st.rows λst=>lF T G N M ops l st K)
            (match want with|false=>lB T G N M o (st.kv (.tmp g) false) λst=>lF T G N M ops l st K|true=>(st.kv (.tmp g) false).put N o.dst (.dt []) st.rows λst=>lF T G N M ops l st K)
        | .dt []=>st.put N o.dst (.dt []) st.rows λst=>lF T G N M ops l st K
        |_=>False
      |none=>False
def rJ(G:List ba):Op->Bool
 |.store _ _ _=>true
 |.call {callee:=.value (.func f),.. }=>match oA G f with|some x=>(match x.refs with|[]=>x.oM|_=>true)|none=>true
 |.call {callee:=.value (.tmp _),.. }=>true
 |.call {callee:=.builtin .append,.. }=>true
 |.call {callee:=.builtin .copy,.. }=>true
 |_=>false
def kW(G:List ba)(o:Op):Bool:=!rJ G o
def Bf(G:List ba)(ops:Array Oper)(b:Array Nat)(i j:Nat):Bool:=
 match ops[i]?,ops[j]? with
 |some x,some y=>
  (x.apart ops y||(b.getD j 0).testBit i)&&((kW G x.op&&kW G y.op)||(b.getD j 0).testBit i)
 |_,_=>true
def Hz(G:List ba)(ops:Array Oper):Bool:=
 let b:=Region.before ops
 (dB ops.size).all λj=>(match ops[j]? with|some o=>o.after.all λe=>!Region.binds .any e||bJ e.on j|none=>true)&&(dB j).all λi=>Bf G ops b i j
def kS(ops:Array Oper)(i a:Nat):Bool:=(ops.toList.drop i).all λo=>match o.dst with|some d=>!(bT d a)|none=>true
def mn:List Operand->List Nat
 |[]=>[]
 |.tmp a::l=>a::mn l
 |_::l=>mn l
def pb:Op->Option (List Nat)
 |.assign x=>some (mn [x])
 |.move x=>some (mn [x])
 |.extract x _=>some (mn [x])
 |.nilCheck x=>some (mn [x])
 |.fieldAddr _ x _=>some (mn [x])
 |.buildSlice _ _ parts=>some (mn (parts.toList.map (·.2)))
 |_=>none
def lD(env:List (Nat×D))(op:Op):Option (List Nat):=
 match pb op with
 |some q=>some q
 |none=>match op with
  |.build _ parts=>some (mn (parts.toList.map (·.2)))
  |.binOp _ _ x y _=>match bo env x with|.int _ _=>some (mn [x,y])|.str _=>some (mn [x,y])|.bool _=>some (mn [x,y])|_=>none
  |.unOp _ _ x=>some (mn [x])
  |.convert _ _ x=>match bo env x with|.int _ _=>some (mn [x])|.str _=>some (mn [x])|_=>none
  |.field _ x _=>some (mn [x])
  |.index _ x y=>some (mn [x,y])
  |.slice _ x (some y) (some z) none=>match bo env x with|.str _=>some (mn [x,y,z])|_=>none
  |.slice _ x (some y) none none=>match bo env x with|.str _=>some (mn [x,y])|_=>none
  |.slice _ x none (some z) none=>match bo env x with|.str _=>some (mn [x,z])|_=>none
  |.indexAddr _ x y=>match bo env x with|.sl _ _ _=>some (mn [x,y])|_=>none
  |.load _ x=>match bo env x with|.ig _ _ _ _=>some (mn [x])|_=>none
  |.call {callee:=.builtin .len,args,.. }=>match args.toList with|[x]=>(match bo env x with|.str _=>some (mn [x])|.sl _ _ _=>some (mn [x])|_=>none)|_=>none
  |_=>none
def Hk:D->Bool|.ptr _ _ _=>true|_=>false
def Jq:D->Bool|.emp=>true|.dq=>true|_=>false
def CK(ops:Array Oper)(env:List (Nat×D))(i j:Nat)(op:Op)(l:List Operand):Bool:=
 match op,l with
 |.load _ (.tmp a),.tmp x::_=>kS ops i a&&(kS ops j x&&(Hk (look env a)&&Jq (look env x)))
 |_,_=>false
def o9:D->Bool|.int _ _=>true|.str _=>true|.bool _=>true|.sl _ _ _=>true|.all _=>true|_=>false
def CL(ops:Array Oper)(env:List (Nat×D))(i:Nat)(op:Op)(dst:Option Nat):Bool:=
 match op,dst with
 |.load _ (.tmp a),some t=>kS ops i a&&(Hk (look env a)&&(kS ops (i+1) t&&o9 (look env t)))
 |_,_=>false
def L2(G:List ba)(ops:Array Oper)(env:List (Nat×D))(i j:Nat):Bool:=
 match ops[i]?,ops[j]? with
 |some x,some y=>(match x.guard,y.guard,x.op,y.op with
  |none,none,.load _ (.tmp a),.store _ (.tmp b) _=>kS ops i a&&(kS ops j b&&(match look env a,look env b with|.ptr r _ _,.ptr r' _ _=>!(bT r r')|.ig _ _ _ _,.ptr _ _ _=>true|_,_=>false))
  |none,none,op,.store _ (.tmp b) _=>(match lD env op with|some q=>(q.all λa=>kS ops i a)&&(kS ops j b&&(match look env b with|.ptr _ _ _=>true|_=>false))|none=>false)
  |none,none,op,.call {callee:=.value (.func f),.. }=>(match(match oJ G f with|some _=>true|none=>Z1 G f)with|true=>false|false=>match lD env op with|some q=>q.all λa=>kS ops i a|none=>false)
  |none,none,op,.call {callee:=.builtin .append,args,.. }=>(match pb op with|some q=>(q.all λa=>kS ops i a&&Hk (look env a))&&(match x.dst with|some t=>kS ops (i+1) t&&Hk (look env t)|none=>true)|none=>CK ops env i j op args.toList||CL ops env i op x.dst)
  |_,_,_,_=>false)
 |_,_=>false
def uy(ops:Array Oper)(j:Nat):Bool:=
 match ops[j]? with
 |some y=>match y.guard,y.op with
  |none,.alloc _=>(match y.dst with|none=>true|some u=>(dB ops.size).all λk=>bT k j||(match(ops[k]?).bind (·.dst)with|some d=>!(bT d u)|none=>true))
  |_,_=>false
 |none=>false
def wH(G:List ba)(ops:Array Oper)(env:List (Nat×D))(b:Array Nat)(i j:Nat):Bool:=
 match ops[i]?,ops[j]? with
 |some x,some y=>
  (x.apart ops y||(b.getD j 0).testBit i)&&((kW G x.op&&kW G y.op)||(b.getD j 0).testBit i||(L2 G ops env i j||uy ops j))
 |_,_=>true
def PR(G:List ba)(ops:Array Oper)(env:List (Nat×D)):Bool:=
 let b:=Region.before ops
 (dB ops.size).all λj=>(match ops[j]? with|some o=>o.after.all λe=>!Region.binds .any e||bJ e.on j|none=>true)&&(dB j).all λi=>wH G ops env b i j
def Hp(x:Nat):List Nat->Nat->List Nat
 |l,0=>x::l
 |[],_=>[x]
 |y::l,n+1=>y::Hp x l n
def CV(m:Nat):List Nat->Nat->Nat->Nat
 |[],_,r=>r
 |y::l,k,r=>CV m l (k+1) (match m.testBit y with|true=>k+1|false=>r)
def CW:List Oper->Bool
 |[]=>false
 |o::l=>match o.op with|.buildSlice _ 0 _=>true|_=>CW l
def Fw(e:Bool)(op:Op):Bool:=match pb op with|some _=>true|none=>(match op with|.load _ _=>e|_=>false)
def CX(e:Bool)(ops:Array Oper)(b:Array Nat):List Nat->List Nat->List Nat
 |[],acc=>acc
 |j ::js,acc=>CX e ops b js (match ops[j]? with
  |some o=>(match o.guard with
   |none=>(match Fw e o.op with|true=>Hp j acc (CV (b.getD j 0) acc 0 0)|false=>acc++[j])
   |some _=>acc++[j])
  |none=>acc)
def QS(ops:Array Oper)(b:Array Nat):Bool:=
 (dB ops.size).any λj=>(match ops[j]? with|some y=>(match y.op with|.load _ _=>true|_=>false)|none=>false)&&(dB j).any λi=>(match ops[i]? with|some x=>(match x.op with|.call {callee:=.builtin .append,.. }=>true|_=>false)|none=>false)&&!((b.getD j 0).testBit i)
def UA(ops:Array Oper):List Nat:=CX (CW ops.toList||QS ops (Region.before ops)) ops (Region.before ops) (dB ops.size) []
def Uk(p:List Nat)(n:Nat):Bool:=bT p.length n&&(((dB n).all λi=>bq i p)&&((p.all λi=>bJ i n)&&DN p))
def CO(p:List Nat)(e:Edge):Edge:=⟨pos e.on p 0,e.ground⟩
def L4(p:List Nat)(o:Oper):Oper:=⟨o.dst,o.op,o.type,o.pos,o.after.map (CO p),match o.guard with|none=>none|some (j,w)=>some (pos j p 0,w)⟩
def mY(p:List Nat)(ops:Array Oper):Array Oper:=(p.map λi=>L4 p (ops.getD i default)).toArray
def uu(T:ff)(G:List ba)(N M:Nat)(ops:Array Oper)(st:St)(Q:Ex->St->Prop):Prop:=
 match Hz G ops with
 |true=>lF T G N M ops ops.toList st λst=>Q .normal st
 |false=>cg (Uk (UA ops) ops.size)<|lF T G N M (mY (UA ops) ops) (mY (UA ops) ops).toList st λst=>cg (PR G (mY (UA ops) ops) st.env) (Q .normal st)
def Hc(i n:Nat):List D->Option (List D)
 |[]=>none
 |d::l=>match d,l with
  |.iy,.dq::m=>some (.cy i:: .all n::m)
  |d,l=>match Hc i n l with|some l'=>some (d::l')|none=>none
def QT(T:ff)(t:TypeId):Bool:=match T.get t with|some ⟨_,_,_,_,some ds,_⟩=>(match Hc 0 0 ds with|some _=>true|none=>false)|_=>false
def uG(T:ff):List Oper->Bool
 |[]=>false
 |o::l=>match o.op with|.alloc t=>(match QT T t with|true=>true|false=>uG T l)|_=>uG T l
def QU:ff->Option TypeId
 |[]=>none
 |(u,i)::l=>match i.kind with|.int .u8=>some u|_=>QU l
def Zy(T:ff):Code->Option TypeId
 |.region _ ops _=>(match uG T ops.toList with|true=>QU T|false=>none)
 |_=>none
def Jb(n:Nat):Rows->Nat->Option (Nat×TypeId×Nat×List D)
 |[],_=>none
 |x::l,i=>match x with
  |some ⟨true,ty,sz,.gen [e]⟩=>(match Hc i n e with|some e'=>some (i,ty,sz,e')|none=>Jb n l (i+1))
  |_=>Jb n l (i+1)
def Jc(T:ff)(a:Code)(st:St)(K:St->Prop):Prop:=
 match Zy T a with
 |none=>K st
 |some u=>match Jb st.rows.length st.rows 0 with
  |none=>K st
  |some (i,ty,sz,e)=>D.jN e λe=>tq (st.rows.set i (some ⟨true,ty,sz,.gen [e]⟩)++[some ⟨false,u,1,.ints .u8 []⟩]) λR=>K ⟨st.env,R⟩
def D.Bw(R:Rows)(ks:List Nat):D->D
 |.all r=>match bq r ks with
  |true=>(match R.getD r none with|some ⟨false,_,sz,es⟩=>.sl sz es false|_=>.dead)
  |false=>.all r
 |.ptr r i off=>match bq r ks with
  |true=>(match R.getD r none with|some ⟨true,_,sz,.gen [e]⟩=>(match e.all D.plain with|true=>.ig sz (.gen [e]) i off|false=>.dead)|_=>.dead)
  |false=>.ptr r i off
 |d=>d.ee ks
def D.rU(R:Rows)(ks:List Nat):List D->List D
 |[]=>[]
 |d::l=>d.Bw R ks::rU R ks l
def D.HN(R:Rows)(ks:List Nat):D->D
 |.agg cs=>.agg (D.rU R ks cs)
 |d=>d.Bw R ks
def D.HO(R:Rows)(ks:List Nat):List D->List D
 |[]=>[]
 |d::l=>d.HN R ks::HO R ks l
def D.Bx(R:Rows)(ks:List Nat):D->D
 |.dt ds=>.dt (D.HO R ks ds)
 |d=>d.HN R ks
def Row.lO(R:Rows)(ks:List Nat):Row->Row
 |⟨true,ty,sz,.gen [e]⟩=>⟨true,ty,sz,.gen [D.rU R ks e]⟩
 |r=>r
def J1(R0:Rows)(ks:List Nat):Rows->Nat->Rows
 |[],_=>[]
 |x::l,i=>(match bq i ks with|true=>none|false=>match x with|some row=>some (row.lO R0 ks)|none=>none)::J1 R0 ks l (i+1)
def Eg(R:Rows)(ks:List Nat):List (Nat×D)->(List (Nat×D)->Prop)->Prop
 |[],K=>K []
 |(t,d)::l,K=>(d.Bx R ks).force λd=>Eg R ks l λl=>K ((t,d)::l)
def CY:List D->List Nat
 |[]=>[]
 |d::l=>(match d with|.all r=>[r]|_=>[])++CY l
def QV:D->List Nat|.agg cs=>CY cs|.all r=>[r]|_=>[]
def Fx(R:Rows)(n:Nat)(d:D):List Nat:=
 match d with
 |.ptr r _ off=>match R.getD r none with|some ⟨true,_,_,.gen [e]⟩=>CY ((e.drop off).take n)|_=>[]
 |_=>[]
def Hq:List (Nat×List Nat)->Nat->Option (List Nat)
 |[],_=>none
 |(u,x)::l,t=>match bT u t with|true=>some x|false=>Hq l t
def Mb(env:List (Nat×D)):List (Nat×D)->Nat->D
 |[],t=>look env t
 |(u,x)::l,t=>match bT u t with|true=>x|false=>Mb env l t
def uH(env:List (Nat×D))(acc:List (Nat×List Nat)):Operand->List Nat
 |.tmp t=>match Hq acc t with|some l=>l|none=>QV (look env t)
 |_=>[]
def wK(env:List (Nat×D))(acc:List (Nat×List Nat)):List Operand->List Nat
 |[]=>[]
 |x::l=>uH env acc x++wK env acc l
def JG(T:ff)(env:List (Nat×D))(R:Rows)(acc:List (Nat×List Nat))(pa:List (Nat×D))(o:Oper):List (Nat×List Nat):=
 match o.dst with
 |none=>acc
 |some t=>match o.op with
  |.load ty (.tmp p)=>(t,Fx R (match T.get ty with|some i=>i.size|none=>0) (Mb env pa p))::acc
  |.move x=>(t,uH env acc x)::acc
  |.slice _ x _ _ _=>(t,uH env acc x)::acc
  |_=>acc
def JH(T:ff)(env:List (Nat×D))(pa:List (Nat×D))(o:Oper):List (Nat×D):=
 match o.dst with
 |none=>pa
 |some t=>match o.op with
  |.fieldAddr s (.tmp p) f=>(match Pp T s f with|some (k,_,_)=>(match Mb env pa p with|.ptr r i off=>(t,.ptr r i (off+k))::pa|_=>pa)|none=>pa)
  |.move (.tmp p)=>(t,Mb env pa p)::pa
  |.nilCheck (.tmp p)=>(t,Mb env pa p)::pa
  |_=>pa
def JI(G:List ba)(f:FuncId):Bool:=match oA G f with|some x=>x.oM||(match x.refs with|[]=>!x.flat|_=>false)|none=>false
def QW(T:ff)(env:List (Nat×D))(pa:List (Nat×D))(t:TypeId)(p:Nat):List Nat:=
 match T.get t with
 |some ⟨.array _ _ _,_,_,_,_,_⟩=>(match Mb env pa p with|.ptr r _ _=>[r]|_=>[])
 |_=>[]
def RS(T:ff)(G:List ba)(env:List (Nat×D))(R:Rows):List (Nat×List Nat)->List (Nat×D)->List Oper->List Nat
 |_,_,[]=>[]
 |acc,pa,o::l=>(match o.op with|.call {callee:=.value (.func f),args,.. }=>(match JI G f with|true=>wK env acc args.toList|false=>[])|.slice t (.tmp p) _ _ _=>QW T env pa t p|_=>[])++RS T G env R (JG T env R acc pa o) (JH T env pa o) l
def tP(M:Nat)(R:Rows):List Nat->List Nat
 |[]=>[]
 |r::l=>match gT M r&&(match R.getD r none with|some ⟨false,_,_,_⟩=>true|some ⟨true,_,_,.gen [e]⟩=>e.all D.plain|_=>false)with|true=>r::tP M R l|false=>tP M R l
def HP(T:ff)(G:List ba)(M:Nat)(ops:Array Oper)(st:St)(K:St->Prop):Prop:=
 match tP M st.rows (RS T G st.env st.rows [] [] ops.toList)with
 |[]=>K st
 |ks=>Eg st.rows ks st.env λenv=>tq (J1 st.rows ks st.rows 0) λR=>K ⟨env,R⟩
def tQ(T:ff)(R:Rows)(i:Nat):Option (TypeId×Nat×TypeId×Nat):=
 match R.getD i none with
 |some ⟨true,ty,sz,.gen [[d]]⟩=>(match d with
  |.dq=>(match T.get ty with|some ⟨.slice e n,_,_,_,_,_⟩=>(match bJ 0 n with|true=>some (ty,sz,e,n)|false=>none)|_=>none)
  |.emp=>(match T.get ty with|some ⟨.slice e n,_,_,_,_,_⟩=>(match bJ 0 n with|true=>some (ty,sz,e,n)|false=>none)|_=>none)
  |_=>none)
 |_=>none
def HQ(T:ff):List ij->List (Nat×D)->Rows->(Rows->Prop)->Prop
 |[],_,R,K=>K R
 |.ptr i _ _::l,env,R,K=>(match tQ T R i with
  |some (ty,sz,e,n)=>Aw R ⟨false,e,n,.gen []⟩ λk R=>tq (R.set i (some ⟨true,ty,sz,.gen [[.all k]]⟩)) λR=>HQ T l env R K
  |none=>HQ T l env R K)
 |_::l,env,R,K=>HQ T l env R K
def UB(env:List (Nat×D)):List Operand->List ij
 |[]=>[]
 |.tmp t::l=>(match look env t with|.ptr i o f=>.ptr i o f::UB env l|_=>UB env l)
 |_::l=>UB env l
def wM(env:List (Nat×D)):List Oper->List ij
 |[]=>[]
 |o::l=>(match o.op with|.makeFunc _ _ captured=>UB env captured.toList|_=>[])++wM env l
def oO(T:ff)(G:List ba)(N M:Nat)(L:Code->St->(Ex->St->Prop)->Prop):Code->St->(Ex->St->Prop)->Prop
 |.skip,st,Q=>Q .normal st
 |.label _,st,Q=>Q .normal st
 |.region _ ops draw,st,Q=>HQ T (wM st.env ops.toList) st.env st.rows λR=>HP T G M ops ⟨st.env,R⟩ λst=>match draw with|true=>uu T G N M ops st Q|false=>lF T G N M ops ops.toList st λst=>Q .normal st
 |.seq a b,st,Q=>oO T G N M L a st λe st=>match e with|.normal=>Jc T a st λst=>oO T G N M L b st Q|.exit i=>Q (.exit i) st|.ret=>Q .ret st
 |.cond c a b,st,Q=>match bo st.env c with
  |.bool t=>Dh t (oO T G N M L a (st.kv c true) Q) (oO T G N M L b (st.kv c false) Q)
  |.pF es=>(es.Nil->oO T G N M L a (st.kv c true) Q)/\oO T G N M L b (st.kv c false) Q
  |_=>False
 |.block id c,st,Q=>oO T G N M L c st λe st=>match e with|.normal=>Q .normal st|.exit i=>(match bT i id with|true=>Q .normal st|false=>Q (.exit i) st)|.ret=>Q .ret st
 |.exit id,st,Q=>Q (.exit id) st
 |.ret,st,Q=>Q .ret st
 |.scope c,st,Q=>oO T G N M L c st Q
 |c,st,Q=>L c st Q
def Fl(T:ff)(R:Rows)(env:List (Nat×D)):List ResultVar->(List D->Prop)->Prop
 |[],K=>K []
 |.tmp t::l,K=>(look env t).force λd=>cg d.isVal (Fl T R env l λds=>K (d::ds))
 |.cell a t::l,K=>wC T t (look env a) R λd _=>cg d.isVal (Fl T R env l λds=>K (d::ds))
def ky(ex:List Nat)(i r:Nat):Bool:=match ex[i]? with|some x=>bT x r|none=>false
def J4(ex:List Nat)(r:Nat):Bool:=ex.all λx=>!(bT x r)
def Zip(ex:List Nat)(R:Rows)(i:Nat):Bool:=match ex[i]? with|some r=>(match R.getD r none with|none=>true|some _=>false)|none=>false
def ak.Eq:ak->ak->Prop
 |.ints k l,.ints k' m=>match decide (k=k')with|true=>l=m|false=>(ak.ints k l).l=(ak.ints k' m).l
 |.bn l,.bn m=>l=m
 |.gen es,.gen fs=>es=fs
 |.gen [],.ints _ m=>m=[]
 |.gen [],.bn m=>m=[]
 |.gen [],.bc _ m=>m=[]
 |.bc k l,.bc k' m=>(match FB k k' l with|some l'=>l'=m|none=>(ak.bc k l).l=(ak.bc k' m).l)
 |E,F=>E.l=F.l
theorem ak.w4{E F:ak}(h:ak.Eq E F):E.l=F.l:=by
 cases E with
 |gen es=>
  cases es with
  |nil=>cases F<;>simp_all [ak.Eq,ak.l]
  |cons e es=>cases F<;>simp_all [ak.Eq,ak.l]
 |ints k l=>
  cases F with
  |ints k' m=>
   simp only[ak.Eq]at h
   split at h
   ·rename_i hk;subst h;rw[oY hk]
   ·exact h
  |_=>exact h
 |bn l=>
  cases F with
  |bn m=>simp only[ak.Eq]at h;rw[h]
  |_=>exact h
 |bc k l=>
  cases F with
  |bc k' m=>
   simp only[ak.Eq]at h
   split at h
   ·rename_i l' hc
    obtain⟨e,hm⟩:=Vq hc
    subst e
    simp only at hm
    rw[<-h,<-hm]
   ·exact h
  |_=>exact h
theorem ak.nZ{E:ak}:E.Nil↔E.l=[]:=by
 cases E<;>simp[ak.Nil,ak.l]
def r0(ex:List Nat):List (Nat×Nat×Nat)->List (Nat×Nat×Nat)->Bool
 |[],[]=>true
 |(i,b,c)::l,(r,y,z)::m=>ky ex i r&&(bT b y&&(bT c z&&r0 ex l m))
 |_,_=>false
def oP(ex:List Nat):List ij->List ij->Bool
 |[],[]=>true
 |.ptr i b c::l,.ptr r y z::m=>ky ex i r&&(bT b y&&(bT c z&&oP ex l m))
 |.fn f ps::l,.fn g qs::m=>bT f g&&(r0 ex ps qs&&oP ex l m)
 |_,_=>false
def jo(ex:List Nat)(m:Nat)(R:Rows)(d p:D):Prop:=
 match p with
 |.int k n=>match d with|.int j q=>cg (decide (j=k)) (q=n)|_=>False
 |.bool b=>match d with|.bool a=>a=b|_=>False
 |.str s=>match d with|.str u=>u=s|_=>False
 |.iy=>match d with|.iy=>True|_=>False
 |.jF=>match d with|.jF=>True|_=>False
 |.gb f cs=>match d with|.gb g ds=>cg (bT f g&&oP ex cs ds) True|_=>False
 |.ptr i o f=>match d with|.ptr r o' f'=>cg (ky ex i r&&(bT o o'&&bT f f')) True|_=>False
 |.cy i=>match d with|.iy=>True|.cy r=>cg (ky ex i r) True|.ptr r o f=>cg (ky ex i r&&(bT o 0&&bT f 0)) True|_=>False
 |.dq=>match d with|.dq=>True|_=>False
 |.emp=>match d with|.dq=>True|.emp=>True|_=>False
 |.sl sz es fr=>match d with
  |.dq=>es.Nil
  |.emp=>es.Nil
  |.sl ka iW fr'=>cg (!fr||fr') ((iW.Nil\/ka=sz)/\ak.Eq iW es)
  |.all r=>match R.getD r none with
   |some ⟨box,_,ka,iW⟩=>cg (!box&&bT ka sz&&J4 ex r&&gT m r) (ak.Eq iW es)
   |none=>False
  |.own r o n=>match R.getD r none with
   |some ⟨box,_,ka,iW⟩=>cg (!box&&bT ka sz&&J4 ex r&&gT m r) (ak.Eq ((iW.drop o).take n) es)
   |none=>False
  |_=>False
 |.all i=>match d with|.all r=>cg (ky ex i r) True|.dq=>cg (Zip ex R i) True|.emp=>cg (Zip ex R i) True|_=>False
 |.own i o n=>match d with|.own r o' n'=>cg (ky ex i r) (o'=o/\n'=n)|_=>False
 |.dead=>cg d.He True
 |_=>False
def En(ex:List Nat)(m:Nat)(R:Rows):List D->List D->Prop
 |[],[]=>True
 |d::ds,p::ps=>jo ex m R d p/\En ex m R ds ps
 |_,_=>False
def pK(ex:List Nat)(m:Nat)(R:Rows)(d p:D):Prop:=
 match p with
 |.agg ps=>match d with|.agg ds=>En ex m R ds ps|_=>False
 |p=>jo ex m R d p
def uZ(ex:List Nat)(m:Nat)(R:Rows):List D->List D->Prop
 |[],[]=>True
 |d::ds,p::ps=>pK ex m R d p/\uZ ex m R ds ps
 |_,_=>False
def wY(ex:List Nat)(m:Nat)(R:Rows)(d p:D):Prop:=
 match p with
 |.dt ps=>match d with|.dt ds=>uZ ex m R ds ps|_=>False
 |p=>pK ex m R d p
def mz(ex:List Nat)(m:Nat)(R:Rows):List Nat->List Row->Prop
 |[],[]=>True
 |r ::rs,⟨box,ty,sz,es⟩::ps=>(match R.getD r none with
  |some ⟨w7,jP,ka,iW⟩=>cg (Bool.xor (!box) w7&&bT ty jP&&bT sz ka) (match box with
   |false=>ak.Eq iW es
   |true=>match iW,es with|.gen [e'],.gen [e]=>En ex m R e' e|_,_=>False)
  |none=>cg (!box&&bJ 0 sz) es.Nil)/\mz ex m R rs ps
 |_,_=>False
def newAt(n0:Nat):List (Nat×Nat)->Nat->Nat
 |[],i=>n0+i
 |(j,r)::l,i=>match bT j i with|true=>r|false=>newAt n0 l i
def news(n0:Nat)(l:List (Nat×Nat)):Nat->Nat->List Nat
 |_,0=>[]
 |i,n+1=>newAt n0 l i::news n0 l (i+1) n
def wG:List Nat->List Nat->Bool
 |[],[]=>true
 |x::l,y::m=>bT x y&&wG l m
 |_,_=>false
def wZ(M:Nat)(ex:List Nat):Bool:=(wG (ex.take M) (dB M)&&(ex.drop M).all λr=>gT M r)&&DN (ex.drop M)
def Aa(m:Nat)(res:D)(rows:List Row)(d:D)(R:Rows):Prop:=
 ∃ex,wZ m ex=true/\wY ex m R d res/\mz ex m R ex rows
def Fj:List D->Nat->List (Nat×D)
 |[],_=>[]
 |d::ds,i=>(i,d)::Fj ds (i+1)
def na(T:ff)(G:List ba)(L:Code->St->(Ex->St->Prop)->Prop)(fn:Func)(args:List D)(rows:List Row)(Q:D->Rows->Prop):Prop:=
 match fn.body with
 |some c=>oO T G fn.ntmps rows.length L c ⟨Fj args 0,rows.map some⟩ λe st=>match e with
  |.exit _=>False
  |_=>Fl T st.rows st.env fn.results.toList λds=>match ds with|[d]=>Q d st.rows|ds=>Q (.dt ds) st.rows
 |none=>False
def om:List Nat->List D->List (Nat×D)
 |t::ts,d::ds=>(t,d)::om ts ds
 |_,_=>[]
def Ar:List ij->List Nat
 |[]=>[]
 |.fn f _::l=>f::Ar l
 |_::l=>Ar l
def Au:D->List Nat|.gb f cs=>f::Ar cs|_=>[]
def pU:List D->List Nat
 |[]=>[]
 |d::l=>Au d++pU l
def EZ:D->List Nat|.agg cs=>pU cs|d=>Au d
def o4:List D->List Nat
 |[]=>[]
 |d::l=>EZ d++o4 l
def Cq:D->List Nat|.dt ds=>o4 ds|d=>EZ d
def kN:List Row->List Nat
 |[]=>[]
 |⟨true,_,_,.gen [e]⟩::l=>pU e++kN l
 |_::l=>kN l
def FL:Rows->List Nat
 |[]=>[]
 |some r::l=>kN [r]++FL l
 |none::l=>FL l
def rW(l:List Nat):Bool:=l.all λf=>bJ f YB
def w5:List (Nat×D)->List Nat
 |[]=>[]
 |(_,d)::l=>Cq d++w5 l
def Jj (T:ff)(G:List ba)(L:Code->St->(Ex->St->Prop)->Prop)(fn:Func)(args:List D)(rows:List Row)(Q:D->Rows->Prop)(M:Nat):Prop:=
 match fn.body with
 |some c =>match gT YB fn.nfree with
  |true =>match bT fn.nfree YB with
   |true=>oO T G fn.ntmps M L c ⟨om fn.params.toList args,rows.map some⟩ λe st=>match e with
    |.normal=>Q (.bool true) st.rows
    |_=>False
   |false=>match c with
    |.seq a b=>oO T G fn.ntmps M L a ⟨om fn.params.toList args,rows.map some⟩ λe st=>match e with
     |.normal=>cg (rW (w5 st.env++FL st.rows)) (oO T G fn.ntmps M L b st λe st=>match e with
      |.normal=>Q (.bool true) st.rows
      |_=>False)
     |_=>False
    |_=>False
  |false=>oO T G fn.ntmps M L c ⟨Fj args 0,rows.map some⟩ λe st=>match e with
  |.exit _=>False
  |_=>Fl T st.rows st.env fn.results.toList λds=>match ds with|[d]=>Q d st.rows|ds=>Q (.dt ds) st.rows
 |none=>False
