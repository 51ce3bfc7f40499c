import Derived.WalkKit
import Derived.KernelRfl
set_option linter.all false
namespace Go.GD
theorem oY{p:Prop}[Decidable p](h:decide p=true):p:=of_decide_eq_true h
theorem oN{p:Prop}[Decidable p](h:decide p=false):¬p:=of_decide_eq_false h
theorem dY{p:Prop}[Decidable p](h:p):decide p=true:=decide_eq_true h
theorem dN{p:Prop}[Decidable p](h:¬p):decide p=false:=decide_eq_false h
theorem bE{n m:Nat}(h:Nat.beq n m=true):n=m:=Nat.eq_of_beq_eq_true h
theorem lE{n m:Nat}(h:Nat.ble n m=true):n<=m:=Nat.le_of_ble_eq_true h
theorem aE(a b:Bool):((a&&b)=true)=(a=true/\b=true):=Bool.and_eq_true a b
theorem lA{α:Type}{a b:List α}:(a++b).length=a.length+b.length:=List.length_append
structure A5(α:Type) where
 (a0 a1 a2 a3 a4:α)
 deriving DecidableEq,Inhabited
def A5.l{α:Type}(x:A5 α):List α:=[x.a0,x.a1,x.a2,x.a3,x.a4]
def A5.of{α:Type}(z:α)(l:List α):A5 α:=⟨l.getD 0 z,l.getD 1 z,l.getD 2 z,l.getD 3 z,l.getD 4 z⟩
structure A8(α:Type) where
 (a0 a1 a2 a3 a4 a5 a6 a7:α)
 deriving DecidableEq,Inhabited
def A8.l{α:Type}(x:A8 α):List α:=[x.a0,x.a1,x.a2,x.a3,x.a4,x.a5,x.a6,x.a7]
def A8.of{α:Type}(z:α)(l:List α):A8 α:=⟨l.getD 0 z,l.getD 1 z,l.getD 2 z,l.getD 3 z,l.getD 4 z,l.getD 5 z,l.getD 6 z,l.getD 7 z⟩
structure iv(α:Type) where
 (a0 a1 a2 a3 a4 a5 a6 a7 a8 a9 kv ky a12 kz kA kB:α)
 deriving DecidableEq,Inhabited
def iv.l{α:Type}(x:iv α):List α:=[x.a0,x.a1,x.a2,x.a3,x.a4,x.a5,x.a6,x.a7,x.a8,x.a9,x.kv,x.ky,x.a12,x.kz,x.kA,x.kB]
def iv.of{α:Type}(z:α)(l:List α):iv α:=⟨l.getD 0 z,l.getD 1 z,l.getD 2 z,l.getD 3 z,l.getD 4 z,l.getD 5 z,l.getD 6 z,l.getD 7 z,l.getD 8 z,l.getD 9 z,l.getD 10 z,l.getD 11 z,l.getD 12 z,l.getD 13 z,l.getD 14 z,l.getD 15 z⟩
structure bn where
 X:(iv Int)
 Pc:Int
 C3:(A8 Int)
 deriving DecidableEq,Inhabited
structure iK where
 D9:(List UInt8)
 deriving DecidableEq,Inhabited
structure iS where
 F1:Bool
 D3:Int
 E0:Bool
 deriving DecidableEq,Inhabited
structure fu where
 ab:Int
 C8:Int
 Frame:Int
 C7:Int
 F6:Int
 C5:Int
 C6:Int
 C9:(List UInt8)
 deriving DecidableEq,Inhabited
structure gw where
 Frame:Int
 F7:Int
 D1:Bool
 D4:Int
 C4:Bool
 F9:Int
 deriving DecidableEq,Inhabited
structure gb where
 A2:Int
 D0:Int
 deriving DecidableEq,Inhabited
structure bd where
 B4:bn
 Mem:(List Int)
 B1:iK
 B8:iS
 B7:fu
 D2:gw
 A6:gb
 B6:Int
 B2:Bool
 B5:Bool
 deriving DecidableEq,Inhabited
structure gg where
 B0:(List Bool)
 B9:Int
 D6:Int
 deriving DecidableEq,Inhabited
structure ik where
 A4:Int
 A0:bd
 B3:gg
 A3:(List Int)
 C1:(List Int)
 D5:Int
 deriving DecidableEq,Inhabited
structure iL where
 ab:(List (List UInt8))
 D5:Int
 D7:Int
 deriving DecidableEq,Inhabited
structure dx where
 C2:Int
 B9:Int
 Frame:Int
 F0:(List UInt8)
 A0:bd
 A3:(List Int)
 deriving DecidableEq,Inhabited
structure da where
 A1:ik
 A2:ik
 A7:(List dx)
 C0:(List dx)
 A9:iL
 deriving DecidableEq,Inhabited
structure j7 where
 C2:Int
 N:Int
 C0:Bool
 F5:Int
 deriving DecidableEq,Inhabited
structure dj where
 A1:ik
 A2:ik
 A7:(List dx)
 C0:(List dx)
 A9:iL
 deriving DecidableEq,Inhabited
structure sX where
 wN:Int
 nk:Int
 deriving DecidableEq,Inhabited
structure kO where
 Frame:Int
 F0:(List UInt8)
 deriving DecidableEq,Inhabited
structure kZ where
 C2:Int
 D8:Int
 F8:Int
 Value:Int
 deriving DecidableEq,Inhabited
structure nm where
 kj:Int
 num:Int
 label:(List UInt8)
 deriving DecidableEq,Inhabited
structure kd where
 ed:(List UInt8)
 op:Int
 l:(List nm)
 F3:Int
 at_:Int
 size:Int
 deriving DecidableEq,Inhabited
structure gr where
 Op:Int
 A:Int
 B:Int
 C:Int
 bw:Int
 deriving DecidableEq,Inhabited
structure uN where
 C2:Int
 N:Int
 F0:(List UInt8)
 deriving DecidableEq,Inhabited
structure py where
 At:Int
 Event:uN
 deriving DecidableEq,Inhabited
structure il where
 C2:Int
 At:Int
 C8:Int
 F0:(List UInt8)
 deriving DecidableEq,Inhabited
structure nS where
 Name:(List UInt8)
 Addr:Int
 deriving DecidableEq,Inhabited
structure rj where
 Addr:Int
 G1:Int
 G0:Int
 deriving DecidableEq,Inhabited
structure kP where
 kind:Int
 F2:(List UInt8)
 wO:Bool
 deriving DecidableEq,Inhabited
structure wP where
 a:Bool
 b:Bool
 c:Bool
 low:Int
 F4:Int
 deriving DecidableEq,Inhabited
inductive RK where
 |bu|aa|str|bz|bq|dq|ak|aw|fe|av
 deriving DecidableEq
@[reducible] def RK.T:RK->Type
 |.bu=>j7
 |.aa=>dx
 |.str=>(List UInt8)
 |.bz=>il
 |.bq=>kO
 |.dq=>nS
 |.ak=>kd
 |.aw=>nm
 |.fe=>py
 |.av=>kP
def RK.ei:(k:RK)->RK.T k
 |.bu=>(default:j7)
 |.aa=>(default:dx)
 |.str=>(default:List UInt8)
 |.bz=>(default:il)
 |.bq=>(default:kO)
 |.dq=>(default:nS)
 |.ak=>(default:kd)
 |.aw=>(default:nm)
 |.fe=>(default:py)
 |.av=>(default:kP)
def RK.MD:Nat->Option RK
 |61=>some .bu
 |80=>some .aa
 |9=>some .str
 |232=>some .bz
 |146=>some .bq
 |243=>some .dq
 |177=>some .ak
 |179=>some .aw
 |193=>some .fe
 |290=>some .av
 |_=>none
end Go.GD
namespace Go.GD
open Go
instance (k:RK):Inhabited (RK.T k):=⟨RK.ei k⟩
mutual
inductive D where
 |bool (b:Bool)
 |int (k:IntKind) (n:Int)
 |str (s:List UInt8)
 |sl (sz:Nat) (es:ah) (fr:Bool)
 |all (r:Nat)
 |own (r o n:Nat)
 |ptr (r i off:Nat)
 |pa (r i off len:Nat) (k:Option IntKind) (n:Nat)
 |im (sz:Nat) (es:ah) (i off:Nat)
 |iB
 |c8
 |emp
 |mF (es:ah)
 |dead
 |gk (f:Nat) (cs:List iq)
 |gd (r:Nat)
 |jC
 |agg (cs:List D)
 |dw (ds:List D)
inductive ah where
 |gen (es:List (List D))
 |ints (k:IntKind) (l:List Int)
 |ag (l:List Bool)
 |ai (k:RK) (l:List (RK.T k))
inductive iq where
 |ptr (r i off:Nat)
 |int (k:IntKind) (n:Int)
 |arr (r:Nat)
 |sl (sz:Nat) (es:ah) (fr:Bool)
 |fn (f:Nat) (ps:List (Nat×Nat×Nat))
end
instance:Inhabited D:=⟨.dead⟩
instance:Inhabited ah:=⟨.gen []⟩
def HA(p:Nat×Nat×Nat):iq:=.ptr p.1 p.2.1 p.2.2
def iq.d:iq->D|.ptr r i off=>.ptr r i off|.int k n=>.int k n|.arr r=>.all r|.sl a b c=>.sl a b c|.fn f ps=>.gk f (ps.map HA)
def D.isInt(k:IntKind):D->Bool|.int j _=>decide (j=k)|_=>false
def D.toInt:D->Int|.int _ n=>n|_=>0
def D.isBool:D->Bool|.bool _=>true|_=>false
def D.toBool:D->Bool|.bool b=>b|_=>false
def D.isStr:D->Bool|.str _=>true|_=>false
def D.toStr:D->List UInt8|.str s=>s|_=>[]
def FH(k k':RK)(l:List (RK.T k)):Option (List (RK.T k')):=if h:k=k' then some (h▸l)else none
theorem VH(k:RK)(l:List (RK.T k)):FH k k l=some l:=by simp[FH]
theorem VI{k k':RK}{l:List (RK.T k)}{m:List (RK.T k')}(h:FH k k' l=some m):∃e:k=k',e▸l=m:=by
 unfold FH at h
 split at h
 ·rename_i e;cases h;exact⟨e,rfl⟩
 ·cases h
def ah.toI(k:IntKind):ah->Option (List Int)
 |.ints k' l=>match decide (k'=k)with|true=>some l|false=>none
 |.gen []=>some []
 |_=>none
def ah.toB:ah->Option (List Bool)
 |.ag l=>some l
 |.gen []=>some []
 |_=>none
def ah.toR(k:RK):ah->Option (List (RK.T k))
 |.ai k' l=>FH k' k l
 |.gen []=>some []
 |_=>none
inductive CT where|int(k:IntKind)|bool|str|ints(k:IntKind)|ag|ai(k:RK)|row(i:Nat)|nil|HB|self(i:Nat)|pt(i o f:Nat)|gk(f:Nat)(cs:List iq)
def cf(k:IntKind):D->List Int|.sl _ E _=>(match E.toI k with|some l=>l|none=>[])|_=>[]
def ey:D->List Bool|.sl _ E _=>(match E.toB with|some l=>l|none=>[])|_=>[]
def iM(k:RK):D->List (RK.T k)|.sl _ E _=>(match E.toR k with|some l=>l|none=>[])|_=>[]
def bn.cells(x:bn):List D:=[.int .u32 x.X.a0,.int .u32 x.X.a1,.int .u32 x.X.a2,.int .u32 x.X.a3,.int .u32 x.X.a4,.int .u32 x.X.a5,.int .u32 x.X.a6,.int .u32 x.X.a7,.int .u32 x.X.a8,.int .u32 x.X.a9,.int .u32 x.X.kv,.int .u32 x.X.ky,.int .u32 x.X.a12,.int .u32 x.X.kz,.int .u32 x.X.kA,.int .u32 x.X.kB,.int .u32 x.Pc,.int .u32 x.C3.a0,.int .u32 x.C3.a1,.int .u32 x.C3.a2,.int .u32 x.C3.a3,.int .u32 x.C3.a4,.int .u32 x.C3.a5,.int .u32 x.C3.a6,.int .u32 x.C3.a7]
def bn.of(cs:List D):bn:=(⟨(⟨(cs.getD 0 .dead).toInt,(cs.getD 1 .dead).toInt,(cs.getD 2 .dead).toInt,(cs.getD 3 .dead).toInt,(cs.getD 4 .dead).toInt,(cs.getD 5 .dead).toInt,(cs.getD 6 .dead).toInt,(cs.getD 7 .dead).toInt,(cs.getD 8 .dead).toInt,(cs.getD 9 .dead).toInt,(cs.getD 10 .dead).toInt,(cs.getD 11 .dead).toInt,(cs.getD 12 .dead).toInt,(cs.getD 13 .dead).toInt,(cs.getD 14 .dead).toInt,(cs.getD 15 .dead).toInt⟩:(iv Int)),(cs.getD 16 .dead).toInt,(⟨(cs.getD 17 .dead).toInt,(cs.getD 18 .dead).toInt,(cs.getD 19 .dead).toInt,(cs.getD 20 .dead).toInt,(cs.getD 21 .dead).toInt,(cs.getD 22 .dead).toInt,(cs.getD 23 .dead).toInt,(cs.getD 24 .dead).toInt⟩:(A8 Int))⟩:bn)
def iK.cells(x:iK):List D:=[.str x.D9]
def iK.of(cs:List D):iK:=(⟨(cs.getD 0 .dead).toStr⟩:iK)
def iS.cells(x:iS):List D:=[.bool x.F1,.int .u32 x.D3,.bool x.E0]
def iS.of(cs:List D):iS:=(⟨(cs.getD 0 .dead).toBool,(cs.getD 1 .dead).toInt,(cs.getD 2 .dead).toBool⟩:iS)
def fu.cells(x:fu):List D:=[.int .u32 x.ab,.int .u32 x.C8,.int .u32 x.Frame,.int .i64 x.C7,.int .i64 x.F6,.int .u32 x.C5,.int .u32 x.C6,.str x.C9]
def fu.of(cs:List D):fu:=(⟨(cs.getD 0 .dead).toInt,(cs.getD 1 .dead).toInt,(cs.getD 2 .dead).toInt,(cs.getD 3 .dead).toInt,(cs.getD 4 .dead).toInt,(cs.getD 5 .dead).toInt,(cs.getD 6 .dead).toInt,(cs.getD 7 .dead).toStr⟩:fu)
def gw.cells(x:gw):List D:=[.int .u32 x.Frame,.int .u32 x.F7,.bool x.D1,.int .u32 x.D4,.bool x.C4,.int .u32 x.F9]
def gw.of(cs:List D):gw:=(⟨(cs.getD 0 .dead).toInt,(cs.getD 1 .dead).toInt,(cs.getD 2 .dead).toBool,(cs.getD 3 .dead).toInt,(cs.getD 4 .dead).toBool,(cs.getD 5 .dead).toInt⟩:gw)
def gb.cells(x:gb):List D:=[.int .u32 x.A2,.int .u32 x.D0]
def gb.of(cs:List D):gb:=(⟨(cs.getD 0 .dead).toInt,(cs.getD 1 .dead).toInt⟩:gb)
def bd.cq(x:bd)(s0:D):List D:=[.int .u32 x.B4.X.a0,.int .u32 x.B4.X.a1,.int .u32 x.B4.X.a2,.int .u32 x.B4.X.a3,.int .u32 x.B4.X.a4,.int .u32 x.B4.X.a5,.int .u32 x.B4.X.a6,.int .u32 x.B4.X.a7,.int .u32 x.B4.X.a8,.int .u32 x.B4.X.a9,.int .u32 x.B4.X.kv,.int .u32 x.B4.X.ky,.int .u32 x.B4.X.a12,.int .u32 x.B4.X.kz,.int .u32 x.B4.X.kA,.int .u32 x.B4.X.kB,.int .u32 x.B4.Pc,.int .u32 x.B4.C3.a0,.int .u32 x.B4.C3.a1,.int .u32 x.B4.C3.a2,.int .u32 x.B4.C3.a3,.int .u32 x.B4.C3.a4,.int .u32 x.B4.C3.a5,.int .u32 x.B4.C3.a6,.int .u32 x.B4.C3.a7,s0,.str x.B1.D9,.bool x.B8.F1,.int .u32 x.B8.D3,.bool x.B8.E0,.int .u32 x.B7.ab,.int .u32 x.B7.C8,.int .u32 x.B7.Frame,.int .i64 x.B7.C7,.int .i64 x.B7.F6,.int .u32 x.B7.C5,.int .u32 x.B7.C6,.str x.B7.C9,.int .u32 x.D2.Frame,.int .u32 x.D2.F7,.bool x.D2.D1,.int .u32 x.D2.D4,.bool x.D2.C4,.int .u32 x.D2.F9,.int .u32 x.A6.A2,.int .u32 x.A6.D0,.int .u64 x.B6,.bool x.B2,.bool x.B5]
def bd.cells(x:bd):List D:=bd.cq x (.sl 1 (.ints .u32 x.Mem) false)
def bd.iy(cs:List D)(s0:List Int):bd:=(⟨(⟨(⟨(cs.getD 0 .dead).toInt,(cs.getD 1 .dead).toInt,(cs.getD 2 .dead).toInt,(cs.getD 3 .dead).toInt,(cs.getD 4 .dead).toInt,(cs.getD 5 .dead).toInt,(cs.getD 6 .dead).toInt,(cs.getD 7 .dead).toInt,(cs.getD 8 .dead).toInt,(cs.getD 9 .dead).toInt,(cs.getD 10 .dead).toInt,(cs.getD 11 .dead).toInt,(cs.getD 12 .dead).toInt,(cs.getD 13 .dead).toInt,(cs.getD 14 .dead).toInt,(cs.getD 15 .dead).toInt⟩:(iv Int)),(cs.getD 16 .dead).toInt,(⟨(cs.getD 17 .dead).toInt,(cs.getD 18 .dead).toInt,(cs.getD 19 .dead).toInt,(cs.getD 20 .dead).toInt,(cs.getD 21 .dead).toInt,(cs.getD 22 .dead).toInt,(cs.getD 23 .dead).toInt,(cs.getD 24 .dead).toInt⟩:(A8 Int))⟩:bn),s0,(⟨(cs.getD 26 .dead).toStr⟩:iK),(⟨(cs.getD 27 .dead).toBool,(cs.getD 28 .dead).toInt,(cs.getD 29 .dead).toBool⟩:iS),(⟨(cs.getD 30 .dead).toInt,(cs.getD 31 .dead).toInt,(cs.getD 32 .dead).toInt,(cs.getD 33 .dead).toInt,(cs.getD 34 .dead).toInt,(cs.getD 35 .dead).toInt,(cs.getD 36 .dead).toInt,(cs.getD 37 .dead).toStr⟩:fu),(⟨(cs.getD 38 .dead).toInt,(cs.getD 39 .dead).toInt,(cs.getD 40 .dead).toBool,(cs.getD 41 .dead).toInt,(cs.getD 42 .dead).toBool,(cs.getD 43 .dead).toInt⟩:gw),(⟨(cs.getD 44 .dead).toInt,(cs.getD 45 .dead).toInt⟩:gb),(cs.getD 46 .dead).toInt,(cs.getD 47 .dead).toBool,(cs.getD 48 .dead).toBool⟩:bd)
def bd.of(cs:List D):bd:=bd.iy cs (cf .u32 (cs.getD 25 .dead))
def gg.cq(x:gg)(s0:D):List D:=[s0,.int .i64 x.B9,.int .i64 x.D6]
def gg.cells(x:gg):List D:=gg.cq x (.sl 1 (.ag x.B0) false)
def gg.iy(cs:List D)(s0:List Bool):gg:=(⟨s0,(cs.getD 1 .dead).toInt,(cs.getD 2 .dead).toInt⟩:gg)
def gg.of(cs:List D):gg:=gg.iy cs (ey (cs.getD 0 .dead))
def ik.cq(x:ik)(s0 s1 s2 s3:D):List D:=[.int .i64 x.A4,.int .u32 x.A0.B4.X.a0,.int .u32 x.A0.B4.X.a1,.int .u32 x.A0.B4.X.a2,.int .u32 x.A0.B4.X.a3,.int .u32 x.A0.B4.X.a4,.int .u32 x.A0.B4.X.a5,.int .u32 x.A0.B4.X.a6,.int .u32 x.A0.B4.X.a7,.int .u32 x.A0.B4.X.a8,.int .u32 x.A0.B4.X.a9,.int .u32 x.A0.B4.X.kv,.int .u32 x.A0.B4.X.ky,.int .u32 x.A0.B4.X.a12,.int .u32 x.A0.B4.X.kz,.int .u32 x.A0.B4.X.kA,.int .u32 x.A0.B4.X.kB,.int .u32 x.A0.B4.Pc,.int .u32 x.A0.B4.C3.a0,.int .u32 x.A0.B4.C3.a1,.int .u32 x.A0.B4.C3.a2,.int .u32 x.A0.B4.C3.a3,.int .u32 x.A0.B4.C3.a4,.int .u32 x.A0.B4.C3.a5,.int .u32 x.A0.B4.C3.a6,.int .u32 x.A0.B4.C3.a7,s0,.str x.A0.B1.D9,.bool x.A0.B8.F1,.int .u32 x.A0.B8.D3,.bool x.A0.B8.E0,.int .u32 x.A0.B7.ab,.int .u32 x.A0.B7.C8,.int .u32 x.A0.B7.Frame,.int .i64 x.A0.B7.C7,.int .i64 x.A0.B7.F6,.int .u32 x.A0.B7.C5,.int .u32 x.A0.B7.C6,.str x.A0.B7.C9,.int .u32 x.A0.D2.Frame,.int .u32 x.A0.D2.F7,.bool x.A0.D2.D1,.int .u32 x.A0.D2.D4,.bool x.A0.D2.C4,.int .u32 x.A0.D2.F9,.int .u32 x.A0.A6.A2,.int .u32 x.A0.A6.D0,.int .u64 x.A0.B6,.bool x.A0.B2,.bool x.A0.B5,s1,.int .i64 x.B3.B9,.int .i64 x.B3.D6,s2,s3,.int .u64 x.D5]
def ik.cells(x:ik):List D:=ik.cq x (.sl 1 (.ints .u32 x.A0.Mem) false) (.sl 1 (.ag x.B3.B0) false) (.sl 1 (.ints .i64 x.A3) false) (.sl 1 (.ints .i64 x.C1) false)
def ik.iy(cs:List D)(s0:List Int)(s1:List Bool)(s2 s3:List Int):ik:=(⟨(cs.getD 0 .dead).toInt,(⟨(⟨(⟨(cs.getD 1 .dead).toInt,(cs.getD 2 .dead).toInt,(cs.getD 3 .dead).toInt,(cs.getD 4 .dead).toInt,(cs.getD 5 .dead).toInt,(cs.getD 6 .dead).toInt,(cs.getD 7 .dead).toInt,(cs.getD 8 .dead).toInt,(cs.getD 9 .dead).toInt,(cs.getD 10 .dead).toInt,(cs.getD 11 .dead).toInt,(cs.getD 12 .dead).toInt,(cs.getD 13 .dead).toInt,(cs.getD 14 .dead).toInt,(cs.getD 15 .dead).toInt,(cs.getD 16 .dead).toInt⟩:(iv Int)),(cs.getD 17 .dead).toInt,(⟨(cs.getD 18 .dead).toInt,(cs.getD 19 .dead).toInt,(cs.getD 20 .dead).toInt,(cs.getD 21 .dead).toInt,(cs.getD 22 .dead).toInt,(cs.getD 23 .dead).toInt,(cs.getD 24 .dead).toInt,(cs.getD 25 .dead).toInt⟩:(A8 Int))⟩:bn),s0,(⟨(cs.getD 27 .dead).toStr⟩:iK),(⟨(cs.getD 28 .dead).toBool,(cs.getD 29 .dead).toInt,(cs.getD 30 .dead).toBool⟩:iS),(⟨(cs.getD 31 .dead).toInt,(cs.getD 32 .dead).toInt,(cs.getD 33 .dead).toInt,(cs.getD 34 .dead).toInt,(cs.getD 35 .dead).toInt,(cs.getD 36 .dead).toInt,(cs.getD 37 .dead).toInt,(cs.getD 38 .dead).toStr⟩:fu),(⟨(cs.getD 39 .dead).toInt,(cs.getD 40 .dead).toInt,(cs.getD 41 .dead).toBool,(cs.getD 42 .dead).toInt,(cs.getD 43 .dead).toBool,(cs.getD 44 .dead).toInt⟩:gw),(⟨(cs.getD 45 .dead).toInt,(cs.getD 46 .dead).toInt⟩:gb),(cs.getD 47 .dead).toInt,(cs.getD 48 .dead).toBool,(cs.getD 49 .dead).toBool⟩:bd),(⟨s1,(cs.getD 51 .dead).toInt,(cs.getD 52 .dead).toInt⟩:gg),s2,s3,(cs.getD 55 .dead).toInt⟩:ik)
def ik.of(cs:List D):ik:=ik.iy cs (cf .u32 (cs.getD 26 .dead)) (ey (cs.getD 50 .dead)) (cf .i64 (cs.getD 53 .dead)) (cf .i64 (cs.getD 54 .dead))
def iL.cq(x:iL)(s0:D):List D:=[s0,.int .u64 x.D5,.int .i64 x.D7]
def iL.cells(x:iL):List D:=iL.cq x (.sl 1 (.ai .str x.ab) false)
def iL.iy(cs:List D)(s0:List (List UInt8)):iL:=(⟨s0,(cs.getD 1 .dead).toInt,(cs.getD 2 .dead).toInt⟩:iL)
def iL.of(cs:List D):iL:=iL.iy cs (iM .str (cs.getD 0 .dead))
def dx.cq(x:dx)(s0 s1:D):List D:=[.int .i64 x.C2,.int .i64 x.B9,.int .i64 x.Frame,.str x.F0,.int .u32 x.A0.B4.X.a0,.int .u32 x.A0.B4.X.a1,.int .u32 x.A0.B4.X.a2,.int .u32 x.A0.B4.X.a3,.int .u32 x.A0.B4.X.a4,.int .u32 x.A0.B4.X.a5,.int .u32 x.A0.B4.X.a6,.int .u32 x.A0.B4.X.a7,.int .u32 x.A0.B4.X.a8,.int .u32 x.A0.B4.X.a9,.int .u32 x.A0.B4.X.kv,.int .u32 x.A0.B4.X.ky,.int .u32 x.A0.B4.X.a12,.int .u32 x.A0.B4.X.kz,.int .u32 x.A0.B4.X.kA,.int .u32 x.A0.B4.X.kB,.int .u32 x.A0.B4.Pc,.int .u32 x.A0.B4.C3.a0,.int .u32 x.A0.B4.C3.a1,.int .u32 x.A0.B4.C3.a2,.int .u32 x.A0.B4.C3.a3,.int .u32 x.A0.B4.C3.a4,.int .u32 x.A0.B4.C3.a5,.int .u32 x.A0.B4.C3.a6,.int .u32 x.A0.B4.C3.a7,s0,.str x.A0.B1.D9,.bool x.A0.B8.F1,.int .u32 x.A0.B8.D3,.bool x.A0.B8.E0,.int .u32 x.A0.B7.ab,.int .u32 x.A0.B7.C8,.int .u32 x.A0.B7.Frame,.int .i64 x.A0.B7.C7,.int .i64 x.A0.B7.F6,.int .u32 x.A0.B7.C5,.int .u32 x.A0.B7.C6,.str x.A0.B7.C9,.int .u32 x.A0.D2.Frame,.int .u32 x.A0.D2.F7,.bool x.A0.D2.D1,.int .u32 x.A0.D2.D4,.bool x.A0.D2.C4,.int .u32 x.A0.D2.F9,.int .u32 x.A0.A6.A2,.int .u32 x.A0.A6.D0,.int .u64 x.A0.B6,.bool x.A0.B2,.bool x.A0.B5,s1]
def dx.cells(x:dx):List D:=dx.cq x (.sl 1 (.ints .u32 x.A0.Mem) false) (.sl 1 (.ints .i64 x.A3) false)
def dx.iy(cs:List D)(s0 s1:List Int):dx:=(⟨(cs.getD 0 .dead).toInt,(cs.getD 1 .dead).toInt,(cs.getD 2 .dead).toInt,(cs.getD 3 .dead).toStr,(⟨(⟨(⟨(cs.getD 4 .dead).toInt,(cs.getD 5 .dead).toInt,(cs.getD 6 .dead).toInt,(cs.getD 7 .dead).toInt,(cs.getD 8 .dead).toInt,(cs.getD 9 .dead).toInt,(cs.getD 10 .dead).toInt,(cs.getD 11 .dead).toInt,(cs.getD 12 .dead).toInt,(cs.getD 13 .dead).toInt,(cs.getD 14 .dead).toInt,(cs.getD 15 .dead).toInt,(cs.getD 16 .dead).toInt,(cs.getD 17 .dead).toInt,(cs.getD 18 .dead).toInt,(cs.getD 19 .dead).toInt⟩:(iv Int)),(cs.getD 20 .dead).toInt,(⟨(cs.getD 21 .dead).toInt,(cs.getD 22 .dead).toInt,(cs.getD 23 .dead).toInt,(cs.getD 24 .dead).toInt,(cs.getD 25 .dead).toInt,(cs.getD 26 .dead).toInt,(cs.getD 27 .dead).toInt,(cs.getD 28 .dead).toInt⟩:(A8 Int))⟩:bn),s0,(⟨(cs.getD 30 .dead).toStr⟩:iK),(⟨(cs.getD 31 .dead).toBool,(cs.getD 32 .dead).toInt,(cs.getD 33 .dead).toBool⟩:iS),(⟨(cs.getD 34 .dead).toInt,(cs.getD 35 .dead).toInt,(cs.getD 36 .dead).toInt,(cs.getD 37 .dead).toInt,(cs.getD 38 .dead).toInt,(cs.getD 39 .dead).toInt,(cs.getD 40 .dead).toInt,(cs.getD 41 .dead).toStr⟩:fu),(⟨(cs.getD 42 .dead).toInt,(cs.getD 43 .dead).toInt,(cs.getD 44 .dead).toBool,(cs.getD 45 .dead).toInt,(cs.getD 46 .dead).toBool,(cs.getD 47 .dead).toInt⟩:gw),(⟨(cs.getD 48 .dead).toInt,(cs.getD 49 .dead).toInt⟩:gb),(cs.getD 50 .dead).toInt,(cs.getD 51 .dead).toBool,(cs.getD 52 .dead).toBool⟩:bd),s1⟩:dx)
def dx.of(cs:List D):dx:=dx.iy cs (cf .u32 (cs.getD 29 .dead)) (cf .i64 (cs.getD 53 .dead))
def da.cq(x:da)(s0 s1 s2 s3 s4 s5 s6 s7 s8 s9 Bk:D):List D:=[.int .i64 x.A1.A4,.int .u32 x.A1.A0.B4.X.a0,.int .u32 x.A1.A0.B4.X.a1,.int .u32 x.A1.A0.B4.X.a2,.int .u32 x.A1.A0.B4.X.a3,.int .u32 x.A1.A0.B4.X.a4,.int .u32 x.A1.A0.B4.X.a5,.int .u32 x.A1.A0.B4.X.a6,.int .u32 x.A1.A0.B4.X.a7,.int .u32 x.A1.A0.B4.X.a8,.int .u32 x.A1.A0.B4.X.a9,.int .u32 x.A1.A0.B4.X.kv,.int .u32 x.A1.A0.B4.X.ky,.int .u32 x.A1.A0.B4.X.a12,.int .u32 x.A1.A0.B4.X.kz,.int .u32 x.A1.A0.B4.X.kA,.int .u32 x.A1.A0.B4.X.kB,.int .u32 x.A1.A0.B4.Pc,.int .u32 x.A1.A0.B4.C3.a0,.int .u32 x.A1.A0.B4.C3.a1,.int .u32 x.A1.A0.B4.C3.a2,.int .u32 x.A1.A0.B4.C3.a3,.int .u32 x.A1.A0.B4.C3.a4,.int .u32 x.A1.A0.B4.C3.a5,.int .u32 x.A1.A0.B4.C3.a6,.int .u32 x.A1.A0.B4.C3.a7,s0,.str x.A1.A0.B1.D9,.bool x.A1.A0.B8.F1,.int .u32 x.A1.A0.B8.D3,.bool x.A1.A0.B8.E0,.int .u32 x.A1.A0.B7.ab,.int .u32 x.A1.A0.B7.C8,.int .u32 x.A1.A0.B7.Frame,.int .i64 x.A1.A0.B7.C7,.int .i64 x.A1.A0.B7.F6,.int .u32 x.A1.A0.B7.C5,.int .u32 x.A1.A0.B7.C6,.str x.A1.A0.B7.C9,.int .u32 x.A1.A0.D2.Frame,.int .u32 x.A1.A0.D2.F7,.bool x.A1.A0.D2.D1,.int .u32 x.A1.A0.D2.D4,.bool x.A1.A0.D2.C4,.int .u32 x.A1.A0.D2.F9,.int .u32 x.A1.A0.A6.A2,.int .u32 x.A1.A0.A6.D0,.int .u64 x.A1.A0.B6,.bool x.A1.A0.B2,.bool x.A1.A0.B5,s1,.int .i64 x.A1.B3.B9,.int .i64 x.A1.B3.D6,s2,s3,.int .u64 x.A1.D5,.int .i64 x.A2.A4,.int .u32 x.A2.A0.B4.X.a0,.int .u32 x.A2.A0.B4.X.a1,.int .u32 x.A2.A0.B4.X.a2,.int .u32 x.A2.A0.B4.X.a3,.int .u32 x.A2.A0.B4.X.a4,.int .u32 x.A2.A0.B4.X.a5,.int .u32 x.A2.A0.B4.X.a6,.int .u32 x.A2.A0.B4.X.a7,.int .u32 x.A2.A0.B4.X.a8,.int .u32 x.A2.A0.B4.X.a9,.int .u32 x.A2.A0.B4.X.kv,.int .u32 x.A2.A0.B4.X.ky,.int .u32 x.A2.A0.B4.X.a12,.int .u32 x.A2.A0.B4.X.kz,.int .u32 x.A2.A0.B4.X.kA,.int .u32 x.A2.A0.B4.X.kB,.int .u32 x.A2.A0.B4.Pc,.int .u32 x.A2.A0.B4.C3.a0,.int .u32 x.A2.A0.B4.C3.a1,.int .u32 x.A2.A0.B4.C3.a2,.int .u32 x.A2.A0.B4.C3.a3,.int .u32 x.A2.A0.B4.C3.a4,.int .u32 x.A2.A0.B4.C3.a5,.int .u32 x.A2.A0.B4.C3.a6,.int .u32 x.A2.A0.B4.C3.a7,s4,.str x.A2.A0.B1.D9,.bool x.A2.A0.B8.F1,.int .u32 x.A2.A0.B8.D3,.bool x.A2.A0.B8.E0,.int .u32 x.A2.A0.B7.ab,.int .u32 x.A2.A0.B7.C8,.int .u32 x.A2.A0.B7.Frame,.int .i64 x.A2.A0.B7.C7,.int .i64 x.A2.A0.B7.F6,.int .u32 x.A2.A0.B7.C5,.int .u32 x.A2.A0.B7.C6,.str x.A2.A0.B7.C9,.int .u32 x.A2.A0.D2.Frame,.int .u32 x.A2.A0.D2.F7,.bool x.A2.A0.D2.D1,.int .u32 x.A2.A0.D2.D4,.bool x.A2.A0.D2.C4,.int .u32 x.A2.A0.D2.F9,.int .u32 x.A2.A0.A6.A2,.int .u32 x.A2.A0.A6.D0,.int .u64 x.A2.A0.B6,.bool x.A2.A0.B2,.bool x.A2.A0.B5,s5,.int .i64 x.A2.B3.B9,.int .i64 x.A2.B3.D6,s6,s7,.int .u64 x.A2.D5,s8,s9,Bk,.int .u64 x.A9.D5,.int .i64 x.A9.D7]
def da.cells(x:da):List D:=da.cq x (.sl 1 (.ints .u32 x.A1.A0.Mem) false) (.sl 1 (.ag x.A1.B3.B0) false) (.sl 1 (.ints .i64 x.A1.A3) false) (.sl 1 (.ints .i64 x.A1.C1) false) (.sl 1 (.ints .u32 x.A2.A0.Mem) false) (.sl 1 (.ag x.A2.B3.B0) false) (.sl 1 (.ints .i64 x.A2.A3) false) (.sl 1 (.ints .i64 x.A2.C1) false) (.sl 54 (.ai .aa x.A7) false) (.sl 54 (.ai .aa x.C0) false) (.sl 1 (.ai .str x.A9.ab) false)
def da.iy(cs:List D)(s0:List Int)(s1:List Bool)(s2 s3 s4:List Int)(s5:List Bool)(s6 s7:List Int)(s8 s9:List dx)(Bk:List (List UInt8)):da:=(⟨(⟨(cs.getD 0 .dead).toInt,(⟨(⟨(⟨(cs.getD 1 .dead).toInt,(cs.getD 2 .dead).toInt,(cs.getD 3 .dead).toInt,(cs.getD 4 .dead).toInt,(cs.getD 5 .dead).toInt,(cs.getD 6 .dead).toInt,(cs.getD 7 .dead).toInt,(cs.getD 8 .dead).toInt,(cs.getD 9 .dead).toInt,(cs.getD 10 .dead).toInt,(cs.getD 11 .dead).toInt,(cs.getD 12 .dead).toInt,(cs.getD 13 .dead).toInt,(cs.getD 14 .dead).toInt,(cs.getD 15 .dead).toInt,(cs.getD 16 .dead).toInt⟩:(iv Int)),(cs.getD 17 .dead).toInt,(⟨(cs.getD 18 .dead).toInt,(cs.getD 19 .dead).toInt,(cs.getD 20 .dead).toInt,(cs.getD 21 .dead).toInt,(cs.getD 22 .dead).toInt,(cs.getD 23 .dead).toInt,(cs.getD 24 .dead).toInt,(cs.getD 25 .dead).toInt⟩:(A8 Int))⟩:bn),s0,(⟨(cs.getD 27 .dead).toStr⟩:iK),(⟨(cs.getD 28 .dead).toBool,(cs.getD 29 .dead).toInt,(cs.getD 30 .dead).toBool⟩:iS),(⟨(cs.getD 31 .dead).toInt,(cs.getD 32 .dead).toInt,(cs.getD 33 .dead).toInt,(cs.getD 34 .dead).toInt,(cs.getD 35 .dead).toInt,(cs.getD 36 .dead).toInt,(cs.getD 37 .dead).toInt,(cs.getD 38 .dead).toStr⟩:fu),(⟨(cs.getD 39 .dead).toInt,(cs.getD 40 .dead).toInt,(cs.getD 41 .dead).toBool,(cs.getD 42 .dead).toInt,(cs.getD 43 .dead).toBool,(cs.getD 44 .dead).toInt⟩:gw),(⟨(cs.getD 45 .dead).toInt,(cs.getD 46 .dead).toInt⟩:gb),(cs.getD 47 .dead).toInt,(cs.getD 48 .dead).toBool,(cs.getD 49 .dead).toBool⟩:bd),(⟨s1,(cs.getD 51 .dead).toInt,(cs.getD 52 .dead).toInt⟩:gg),s2,s3,(cs.getD 55 .dead).toInt⟩:ik),(⟨(cs.getD 56 .dead).toInt,(⟨(⟨(⟨(cs.getD 57 .dead).toInt,(cs.getD 58 .dead).toInt,(cs.getD 59 .dead).toInt,(cs.getD 60 .dead).toInt,(cs.getD 61 .dead).toInt,(cs.getD 62 .dead).toInt,(cs.getD 63 .dead).toInt,(cs.getD 64 .dead).toInt,(cs.getD 65 .dead).toInt,(cs.getD 66 .dead).toInt,(cs.getD 67 .dead).toInt,(cs.getD 68 .dead).toInt,(cs.getD 69 .dead).toInt,(cs.getD 70 .dead).toInt,(cs.getD 71 .dead).toInt,(cs.getD 72 .dead).toInt⟩:(iv Int)),(cs.getD 73 .dead).toInt,(⟨(cs.getD 74 .dead).toInt,(cs.getD 75 .dead).toInt,(cs.getD 76 .dead).toInt,(cs.getD 77 .dead).toInt,(cs.getD 78 .dead).toInt,(cs.getD 79 .dead).toInt,(cs.getD 80 .dead).toInt,(cs.getD 81 .dead).toInt⟩:(A8 Int))⟩:bn),s4,(⟨(cs.getD 83 .dead).toStr⟩:iK),(⟨(cs.getD 84 .dead).toBool,(cs.getD 85 .dead).toInt,(cs.getD 86 .dead).toBool⟩:iS),(⟨(cs.getD 87 .dead).toInt,(cs.getD 88 .dead).toInt,(cs.getD 89 .dead).toInt,(cs.getD 90 .dead).toInt,(cs.getD 91 .dead).toInt,(cs.getD 92 .dead).toInt,(cs.getD 93 .dead).toInt,(cs.getD 94 .dead).toStr⟩:fu),(⟨(cs.getD 95 .dead).toInt,(cs.getD 96 .dead).toInt,(cs.getD 97 .dead).toBool,(cs.getD 98 .dead).toInt,(cs.getD 99 .dead).toBool,(cs.getD 100 .dead).toInt⟩:gw),(⟨(cs.getD 101 .dead).toInt,(cs.getD 102 .dead).toInt⟩:gb),(cs.getD 103 .dead).toInt,(cs.getD 104 .dead).toBool,(cs.getD 105 .dead).toBool⟩:bd),(⟨s5,(cs.getD 107 .dead).toInt,(cs.getD 108 .dead).toInt⟩:gg),s6,s7,(cs.getD 111 .dead).toInt⟩:ik),s8,s9,(⟨Bk,(cs.getD 115 .dead).toInt,(cs.getD 116 .dead).toInt⟩:iL)⟩:da)
def da.of(cs:List D):da:=da.iy cs (cf .u32 (cs.getD 26 .dead)) (ey (cs.getD 50 .dead)) (cf .i64 (cs.getD 53 .dead)) (cf .i64 (cs.getD 54 .dead)) (cf .u32 (cs.getD 82 .dead)) (ey (cs.getD 106 .dead)) (cf .i64 (cs.getD 109 .dead)) (cf .i64 (cs.getD 110 .dead)) (iM .aa (cs.getD 112 .dead)) (iM .aa (cs.getD 113 .dead)) (iM .str (cs.getD 114 .dead))
def j7.cells(x:j7):List D:=[.int .i64 x.C2,.int .i64 x.N,.bool x.C0,.int .u32 x.F5]
def j7.of(cs:List D):j7:=(⟨(cs.getD 0 .dead).toInt,(cs.getD 1 .dead).toInt,(cs.getD 2 .dead).toBool,(cs.getD 3 .dead).toInt⟩:j7)
def dj.cq(x:dj)(s0 s1 s2 s3 s4 s5 s6 s7 s8 s9 Bk:D):List D:=[.int .i64 x.A1.A4,.int .u32 x.A1.A0.B4.X.a0,.int .u32 x.A1.A0.B4.X.a1,.int .u32 x.A1.A0.B4.X.a2,.int .u32 x.A1.A0.B4.X.a3,.int .u32 x.A1.A0.B4.X.a4,.int .u32 x.A1.A0.B4.X.a5,.int .u32 x.A1.A0.B4.X.a6,.int .u32 x.A1.A0.B4.X.a7,.int .u32 x.A1.A0.B4.X.a8,.int .u32 x.A1.A0.B4.X.a9,.int .u32 x.A1.A0.B4.X.kv,.int .u32 x.A1.A0.B4.X.ky,.int .u32 x.A1.A0.B4.X.a12,.int .u32 x.A1.A0.B4.X.kz,.int .u32 x.A1.A0.B4.X.kA,.int .u32 x.A1.A0.B4.X.kB,.int .u32 x.A1.A0.B4.Pc,.int .u32 x.A1.A0.B4.C3.a0,.int .u32 x.A1.A0.B4.C3.a1,.int .u32 x.A1.A0.B4.C3.a2,.int .u32 x.A1.A0.B4.C3.a3,.int .u32 x.A1.A0.B4.C3.a4,.int .u32 x.A1.A0.B4.C3.a5,.int .u32 x.A1.A0.B4.C3.a6,.int .u32 x.A1.A0.B4.C3.a7,s0,.str x.A1.A0.B1.D9,.bool x.A1.A0.B8.F1,.int .u32 x.A1.A0.B8.D3,.bool x.A1.A0.B8.E0,.int .u32 x.A1.A0.B7.ab,.int .u32 x.A1.A0.B7.C8,.int .u32 x.A1.A0.B7.Frame,.int .i64 x.A1.A0.B7.C7,.int .i64 x.A1.A0.B7.F6,.int .u32 x.A1.A0.B7.C5,.int .u32 x.A1.A0.B7.C6,.str x.A1.A0.B7.C9,.int .u32 x.A1.A0.D2.Frame,.int .u32 x.A1.A0.D2.F7,.bool x.A1.A0.D2.D1,.int .u32 x.A1.A0.D2.D4,.bool x.A1.A0.D2.C4,.int .u32 x.A1.A0.D2.F9,.int .u32 x.A1.A0.A6.A2,.int .u32 x.A1.A0.A6.D0,.int .u64 x.A1.A0.B6,.bool x.A1.A0.B2,.bool x.A1.A0.B5,s1,.int .i64 x.A1.B3.B9,.int .i64 x.A1.B3.D6,s2,s3,.int .u64 x.A1.D5,.int .i64 x.A2.A4,.int .u32 x.A2.A0.B4.X.a0,.int .u32 x.A2.A0.B4.X.a1,.int .u32 x.A2.A0.B4.X.a2,.int .u32 x.A2.A0.B4.X.a3,.int .u32 x.A2.A0.B4.X.a4,.int .u32 x.A2.A0.B4.X.a5,.int .u32 x.A2.A0.B4.X.a6,.int .u32 x.A2.A0.B4.X.a7,.int .u32 x.A2.A0.B4.X.a8,.int .u32 x.A2.A0.B4.X.a9,.int .u32 x.A2.A0.B4.X.kv,.int .u32 x.A2.A0.B4.X.ky,.int .u32 x.A2.A0.B4.X.a12,.int .u32 x.A2.A0.B4.X.kz,.int .u32 x.A2.A0.B4.X.kA,.int .u32 x.A2.A0.B4.X.kB,.int .u32 x.A2.A0.B4.Pc,.int .u32 x.A2.A0.B4.C3.a0,.int .u32 x.A2.A0.B4.C3.a1,.int .u32 x.A2.A0.B4.C3.a2,.int .u32 x.A2.A0.B4.C3.a3,.int .u32 x.A2.A0.B4.C3.a4,.int .u32 x.A2.A0.B4.C3.a5,.int .u32 x.A2.A0.B4.C3.a6,.int .u32 x.A2.A0.B4.C3.a7,s4,.str x.A2.A0.B1.D9,.bool x.A2.A0.B8.F1,.int .u32 x.A2.A0.B8.D3,.bool x.A2.A0.B8.E0,.int .u32 x.A2.A0.B7.ab,.int .u32 x.A2.A0.B7.C8,.int .u32 x.A2.A0.B7.Frame,.int .i64 x.A2.A0.B7.C7,.int .i64 x.A2.A0.B7.F6,.int .u32 x.A2.A0.B7.C5,.int .u32 x.A2.A0.B7.C6,.str x.A2.A0.B7.C9,.int .u32 x.A2.A0.D2.Frame,.int .u32 x.A2.A0.D2.F7,.bool x.A2.A0.D2.D1,.int .u32 x.A2.A0.D2.D4,.bool x.A2.A0.D2.C4,.int .u32 x.A2.A0.D2.F9,.int .u32 x.A2.A0.A6.A2,.int .u32 x.A2.A0.A6.D0,.int .u64 x.A2.A0.B6,.bool x.A2.A0.B2,.bool x.A2.A0.B5,s5,.int .i64 x.A2.B3.B9,.int .i64 x.A2.B3.D6,s6,s7,.int .u64 x.A2.D5,s8,s9,Bk,.int .u64 x.A9.D5,.int .i64 x.A9.D7]
def dj.cells(x:dj):List D:=dj.cq x (.sl 1 (.ints .u32 x.A1.A0.Mem) false) (.sl 1 (.ag x.A1.B3.B0) false) (.sl 1 (.ints .i64 x.A1.A3) false) (.sl 1 (.ints .i64 x.A1.C1) false) (.sl 1 (.ints .u32 x.A2.A0.Mem) false) (.sl 1 (.ag x.A2.B3.B0) false) (.sl 1 (.ints .i64 x.A2.A3) false) (.sl 1 (.ints .i64 x.A2.C1) false) (.sl 54 (.ai .aa x.A7) false) (.sl 54 (.ai .aa x.C0) false) (.sl 1 (.ai .str x.A9.ab) false)
def dj.iy(cs:List D)(s0:List Int)(s1:List Bool)(s2 s3 s4:List Int)(s5:List Bool)(s6 s7:List Int)(s8 s9:List dx)(Bk:List (List UInt8)):dj:=(⟨(⟨(cs.getD 0 .dead).toInt,(⟨(⟨(⟨(cs.getD 1 .dead).toInt,(cs.getD 2 .dead).toInt,(cs.getD 3 .dead).toInt,(cs.getD 4 .dead).toInt,(cs.getD 5 .dead).toInt,(cs.getD 6 .dead).toInt,(cs.getD 7 .dead).toInt,(cs.getD 8 .dead).toInt,(cs.getD 9 .dead).toInt,(cs.getD 10 .dead).toInt,(cs.getD 11 .dead).toInt,(cs.getD 12 .dead).toInt,(cs.getD 13 .dead).toInt,(cs.getD 14 .dead).toInt,(cs.getD 15 .dead).toInt,(cs.getD 16 .dead).toInt⟩:(iv Int)),(cs.getD 17 .dead).toInt,(⟨(cs.getD 18 .dead).toInt,(cs.getD 19 .dead).toInt,(cs.getD 20 .dead).toInt,(cs.getD 21 .dead).toInt,(cs.getD 22 .dead).toInt,(cs.getD 23 .dead).toInt,(cs.getD 24 .dead).toInt,(cs.getD 25 .dead).toInt⟩:(A8 Int))⟩:bn),s0,(⟨(cs.getD 27 .dead).toStr⟩:iK),(⟨(cs.getD 28 .dead).toBool,(cs.getD 29 .dead).toInt,(cs.getD 30 .dead).toBool⟩:iS),(⟨(cs.getD 31 .dead).toInt,(cs.getD 32 .dead).toInt,(cs.getD 33 .dead).toInt,(cs.getD 34 .dead).toInt,(cs.getD 35 .dead).toInt,(cs.getD 36 .dead).toInt,(cs.getD 37 .dead).toInt,(cs.getD 38 .dead).toStr⟩:fu),(⟨(cs.getD 39 .dead).toInt,(cs.getD 40 .dead).toInt,(cs.getD 41 .dead).toBool,(cs.getD 42 .dead).toInt,(cs.getD 43 .dead).toBool,(cs.getD 44 .dead).toInt⟩:gw),(⟨(cs.getD 45 .dead).toInt,(cs.getD 46 .dead).toInt⟩:gb),(cs.getD 47 .dead).toInt,(cs.getD 48 .dead).toBool,(cs.getD 49 .dead).toBool⟩:bd),(⟨s1,(cs.getD 51 .dead).toInt,(cs.getD 52 .dead).toInt⟩:gg),s2,s3,(cs.getD 55 .dead).toInt⟩:ik),(⟨(cs.getD 56 .dead).toInt,(⟨(⟨(⟨(cs.getD 57 .dead).toInt,(cs.getD 58 .dead).toInt,(cs.getD 59 .dead).toInt,(cs.getD 60 .dead).toInt,(cs.getD 61 .dead).toInt,(cs.getD 62 .dead).toInt,(cs.getD 63 .dead).toInt,(cs.getD 64 .dead).toInt,(cs.getD 65 .dead).toInt,(cs.getD 66 .dead).toInt,(cs.getD 67 .dead).toInt,(cs.getD 68 .dead).toInt,(cs.getD 69 .dead).toInt,(cs.getD 70 .dead).toInt,(cs.getD 71 .dead).toInt,(cs.getD 72 .dead).toInt⟩:(iv Int)),(cs.getD 73 .dead).toInt,(⟨(cs.getD 74 .dead).toInt,(cs.getD 75 .dead).toInt,(cs.getD 76 .dead).toInt,(cs.getD 77 .dead).toInt,(cs.getD 78 .dead).toInt,(cs.getD 79 .dead).toInt,(cs.getD 80 .dead).toInt,(cs.getD 81 .dead).toInt⟩:(A8 Int))⟩:bn),s4,(⟨(cs.getD 83 .dead).toStr⟩:iK),(⟨(cs.getD 84 .dead).toBool,(cs.getD 85 .dead).toInt,(cs.getD 86 .dead).toBool⟩:iS),(⟨(cs.getD 87 .dead).toInt,(cs.getD 88 .dead).toInt,(cs.getD 89 .dead).toInt,(cs.getD 90 .dead).toInt,(cs.getD 91 .dead).toInt,(cs.getD 92 .dead).toInt,(cs.getD 93 .dead).toInt,(cs.getD 94 .dead).toStr⟩:fu),(⟨(cs.getD 95 .dead).toInt,(cs.getD 96 .dead).toInt,(cs.getD 97 .dead).toBool,(cs.getD 98 .dead).toInt,(cs.getD 99 .dead).toBool,(cs.getD 100 .dead).toInt⟩:gw),(⟨(cs.getD 101 .dead).toInt,(cs.getD 102 .dead).toInt⟩:gb),(cs.getD 103 .dead).toInt,(cs.getD 104 .dead).toBool,(cs.getD 105 .dead).toBool⟩:bd),(⟨s5,(cs.getD 107 .dead).toInt,(cs.getD 108 .dead).toInt⟩:gg),s6,s7,(cs.getD 111 .dead).toInt⟩:ik),s8,s9,(⟨Bk,(cs.getD 115 .dead).toInt,(cs.getD 116 .dead).toInt⟩:iL)⟩:dj)
def dj.of(cs:List D):dj:=dj.iy cs (cf .u32 (cs.getD 26 .dead)) (ey (cs.getD 50 .dead)) (cf .i64 (cs.getD 53 .dead)) (cf .i64 (cs.getD 54 .dead)) (cf .u32 (cs.getD 82 .dead)) (ey (cs.getD 106 .dead)) (cf .i64 (cs.getD 109 .dead)) (cf .i64 (cs.getD 110 .dead)) (iM .aa (cs.getD 112 .dead)) (iM .aa (cs.getD 113 .dead)) (iM .str (cs.getD 114 .dead))
def sX.cells(x:sX):List D:=[.int .i64 x.wN,.int .i64 x.nk]
def sX.of(cs:List D):sX:=(⟨(cs.getD 0 .dead).toInt,(cs.getD 1 .dead).toInt⟩:sX)
def kO.cells(x:kO):List D:=[.int .i64 x.Frame,.str x.F0]
def kO.of(cs:List D):kO:=(⟨(cs.getD 0 .dead).toInt,(cs.getD 1 .dead).toStr⟩:kO)
def kZ.cells(x:kZ):List D:=[.int .i64 x.C2,.int .i64 x.D8,.int .i64 x.F8,.int .u32 x.Value]
def kZ.of(cs:List D):kZ:=(⟨(cs.getD 0 .dead).toInt,(cs.getD 1 .dead).toInt,(cs.getD 2 .dead).toInt,(cs.getD 3 .dead).toInt⟩:kZ)
def nm.cells(x:nm):List D:=[.int .i64 x.kj,.int .i64 x.num,.str x.label]
def nm.of(cs:List D):nm:=(⟨(cs.getD 0 .dead).toInt,(cs.getD 1 .dead).toInt,(cs.getD 2 .dead).toStr⟩:nm)
def kd.cq(x:kd)(s0:D):List D:=[.str x.ed,.int .i64 x.op,s0,.int .i64 x.F3,.int .i64 x.at_,.int .i64 x.size]
def kd.cells(x:kd):List D:=kd.cq x (.sl 3 (.ai .aw x.l) false)
def kd.iy(cs:List D)(s0:List nm):kd:=(⟨(cs.getD 0 .dead).toStr,(cs.getD 1 .dead).toInt,s0,(cs.getD 3 .dead).toInt,(cs.getD 4 .dead).toInt,(cs.getD 5 .dead).toInt⟩:kd)
def kd.of(cs:List D):kd:=kd.iy cs (iM .aw (cs.getD 2 .dead))
def gr.cells(x:gr):List D:=[.int .i64 x.Op,.int .i64 x.A,.int .i64 x.B,.int .i64 x.C,.int .i32 x.bw]
def gr.of(cs:List D):gr:=(⟨(cs.getD 0 .dead).toInt,(cs.getD 1 .dead).toInt,(cs.getD 2 .dead).toInt,(cs.getD 3 .dead).toInt,(cs.getD 4 .dead).toInt⟩:gr)
def uN.cells(x:uN):List D:=[.int .i64 x.C2,.int .u32 x.N,.str x.F0]
def uN.of(cs:List D):uN:=(⟨(cs.getD 0 .dead).toInt,(cs.getD 1 .dead).toInt,(cs.getD 2 .dead).toStr⟩:uN)
def py.cells(x:py):List D:=[.int .u64 x.At,.int .i64 x.Event.C2,.int .u32 x.Event.N,.str x.Event.F0]
def py.of(cs:List D):py:=(⟨(cs.getD 0 .dead).toInt,(⟨(cs.getD 1 .dead).toInt,(cs.getD 2 .dead).toInt,(cs.getD 3 .dead).toStr⟩:uN)⟩:py)
def il.cells(x:il):List D:=[.int .i64 x.C2,.int .u64 x.At,.int .u32 x.C8,.str x.F0]
def il.of(cs:List D):il:=(⟨(cs.getD 0 .dead).toInt,(cs.getD 1 .dead).toInt,(cs.getD 2 .dead).toInt,(cs.getD 3 .dead).toStr⟩:il)
def nS.cells(x:nS):List D:=[.str x.Name,.int .u32 x.Addr]
def nS.of(cs:List D):nS:=(⟨(cs.getD 0 .dead).toStr,(cs.getD 1 .dead).toInt⟩:nS)
def rj.cells(x:rj):List D:=[.int .u32 x.Addr,.int .u32 x.G1,.int .i64 x.G0]
def rj.of(cs:List D):rj:=(⟨(cs.getD 0 .dead).toInt,(cs.getD 1 .dead).toInt,(cs.getD 2 .dead).toInt⟩:rj)
def kP.cells(x:kP):List D:=[.int .i64 x.kind,.str x.F2,.bool x.wO]
def kP.of(cs:List D):kP:=(⟨(cs.getD 0 .dead).toInt,(cs.getD 1 .dead).toStr,(cs.getD 2 .dead).toBool⟩:kP)
def wP.cells(x:wP):List D:=[.bool x.a,.bool x.b,.bool x.c,.int .i32 x.low,.int .i32 x.F4]
def wP.of(cs:List D):wP:=(⟨(cs.getD 0 .dead).toBool,(cs.getD 1 .dead).toBool,(cs.getD 2 .dead).toBool,(cs.getD 3 .dead).toInt,(cs.getD 4 .dead).toInt⟩:wP)
def RK.size:RK->Nat
 |.bu=>4
 |.aa=>54
 |.str=>1
 |.bz=>4
 |.bq=>2
 |.dq=>2
 |.ak=>6
 |.aw=>3
 |.fe=>4
 |.av=>3
def Dd:CT->D->D
 |.int k,d=>.int k d.toInt
 |.bool,d=>.bool d.toBool
 |.str,d=>.str d.toStr
 |.ints k,d=>.sl 1 (.ints k (cf k d)) false
 |.ag,d=>.sl 1 (.ag (ey d)) false
 |.ai k,d=>.sl k.size (.ai k (iM k d)) false
 |.row i,_=>.all i
 |.nil,_=>.sl 0 (.gen []) false
 |.HB,_=>.c8
 |.self i,_=>.gd i
 |.pt i o f,_=>.ptr i o f
 |.gk f cs,_=>.gk f cs
def uO:List CT->List D->Nat->List D
 |[],_,_=>[]
 |t::ts,cs,j=>Dd t (cs.getD j .dead)::uO ts cs (j+1)
def bn.sig:List CT:=[.int .u32,.int .u32,.int .u32,.int .u32,.int .u32,.int .u32,.int .u32,.int .u32,.int .u32,.int .u32,.int .u32,.int .u32,.int .u32,.int .u32,.int .u32,.int .u32,.int .u32,.int .u32,.int .u32,.int .u32,.int .u32,.int .u32,.int .u32,.int .u32,.int .u32]
def iK.sig:List CT:=[.str]
def iS.sig:List CT:=[.bool,.int .u32,.bool]
def fu.sig:List CT:=[.int .u32,.int .u32,.int .u32,.int .i64,.int .i64,.int .u32,.int .u32,.str]
def gw.sig:List CT:=[.int .u32,.int .u32,.bool,.int .u32,.bool,.int .u32]
def gb.sig:List CT:=[.int .u32,.int .u32]
def bd.ic(s0:CT):List CT:=[.int .u32,.int .u32,.int .u32,.int .u32,.int .u32,.int .u32,.int .u32,.int .u32,.int .u32,.int .u32,.int .u32,.int .u32,.int .u32,.int .u32,.int .u32,.int .u32,.int .u32,.int .u32,.int .u32,.int .u32,.int .u32,.int .u32,.int .u32,.int .u32,.int .u32,s0,.str,.bool,.int .u32,.bool,.int .u32,.int .u32,.int .u32,.int .i64,.int .i64,.int .u32,.int .u32,.str,.int .u32,.int .u32,.bool,.int .u32,.bool,.int .u32,.int .u32,.int .u32,.int .u64,.bool,.bool]
def bd.sig:List CT:=bd.ic (.ints .u32)
def gg.ic(s0:CT):List CT:=[s0,.int .i64,.int .i64]
def gg.sig:List CT:=gg.ic (.ag)
def ik.ic(s0 s1 s2 s3:CT):List CT:=[.int .i64,.int .u32,.int .u32,.int .u32,.int .u32,.int .u32,.int .u32,.int .u32,.int .u32,.int .u32,.int .u32,.int .u32,.int .u32,.int .u32,.int .u32,.int .u32,.int .u32,.int .u32,.int .u32,.int .u32,.int .u32,.int .u32,.int .u32,.int .u32,.int .u32,.int .u32,s0,.str,.bool,.int .u32,.bool,.int .u32,.int .u32,.int .u32,.int .i64,.int .i64,.int .u32,.int .u32,.str,.int .u32,.int .u32,.bool,.int .u32,.bool,.int .u32,.int .u32,.int .u32,.int .u64,.bool,.bool,s1,.int .i64,.int .i64,s2,s3,.int .u64]
def ik.sig:List CT:=ik.ic (.ints .u32) (.ag) (.ints .i64) (.ints .i64)
def iL.ic(s0:CT):List CT:=[s0,.int .u64,.int .i64]
def iL.sig:List CT:=iL.ic (.ai .str)
def dx.ic(s0 s1:CT):List CT:=[.int .i64,.int .i64,.int .i64,.str,.int .u32,.int .u32,.int .u32,.int .u32,.int .u32,.int .u32,.int .u32,.int .u32,.int .u32,.int .u32,.int .u32,.int .u32,.int .u32,.int .u32,.int .u32,.int .u32,.int .u32,.int .u32,.int .u32,.int .u32,.int .u32,.int .u32,.int .u32,.int .u32,.int .u32,s0,.str,.bool,.int .u32,.bool,.int .u32,.int .u32,.int .u32,.int .i64,.int .i64,.int .u32,.int .u32,.str,.int .u32,.int .u32,.bool,.int .u32,.bool,.int .u32,.int .u32,.int .u32,.int .u64,.bool,.bool,s1]
def dx.sig:List CT:=dx.ic (.ints .u32) (.ints .i64)
def da.ic(s0 s1 s2 s3 s4 s5 s6 s7 s8 s9 Bk:CT):List CT:=[.int .i64,.int .u32,.int .u32,.int .u32,.int .u32,.int .u32,.int .u32,.int .u32,.int .u32,.int .u32,.int .u32,.int .u32,.int .u32,.int .u32,.int .u32,.int .u32,.int .u32,.int .u32,.int .u32,.int .u32,.int .u32,.int .u32,.int .u32,.int .u32,.int .u32,.int .u32,s0,.str,.bool,.int .u32,.bool,.int .u32,.int .u32,.int .u32,.int .i64,.int .i64,.int .u32,.int .u32,.str,.int .u32,.int .u32,.bool,.int .u32,.bool,.int .u32,.int .u32,.int .u32,.int .u64,.bool,.bool,s1,.int .i64,.int .i64,s2,s3,.int .u64,.int .i64,.int .u32,.int .u32,.int .u32,.int .u32,.int .u32,.int .u32,.int .u32,.int .u32,.int .u32,.int .u32,.int .u32,.int .u32,.int .u32,.int .u32,.int .u32,.int .u32,.int .u32,.int .u32,.int .u32,.int .u32,.int .u32,.int .u32,.int .u32,.int .u32,.int .u32,s4,.str,.bool,.int .u32,.bool,.int .u32,.int .u32,.int .u32,.int .i64,.int .i64,.int .u32,.int .u32,.str,.int .u32,.int .u32,.bool,.int .u32,.bool,.int .u32,.int .u32,.int .u32,.int .u64,.bool,.bool,s5,.int .i64,.int .i64,s6,s7,.int .u64,s8,s9,Bk,.int .u64,.int .i64]
def da.sig:List CT:=da.ic (.ints .u32) (.ag) (.ints .i64) (.ints .i64) (.ints .u32) (.ag) (.ints .i64) (.ints .i64) (.ai .aa) (.ai .aa) (.ai .str)
def j7.sig:List CT:=[.int .i64,.int .i64,.bool,.int .u32]
def dj.ic(s0 s1 s2 s3 s4 s5 s6 s7 s8 s9 Bk:CT):List CT:=[.int .i64,.int .u32,.int .u32,.int .u32,.int .u32,.int .u32,.int .u32,.int .u32,.int .u32,.int .u32,.int .u32,.int .u32,.int .u32,.int .u32,.int .u32,.int .u32,.int .u32,.int .u32,.int .u32,.int .u32,.int .u32,.int .u32,.int .u32,.int .u32,.int .u32,.int .u32,s0,.str,.bool,.int .u32,.bool,.int .u32,.int .u32,.int .u32,.int .i64,.int .i64,.int .u32,.int .u32,.str,.int .u32,.int .u32,.bool,.int .u32,.bool,.int .u32,.int .u32,.int .u32,.int .u64,.bool,.bool,s1,.int .i64,.int .i64,s2,s3,.int .u64,.int .i64,.int .u32,.int .u32,.int .u32,.int .u32,.int .u32,.int .u32,.int .u32,.int .u32,.int .u32,.int .u32,.int .u32,.int .u32,.int .u32,.int .u32,.int .u32,.int .u32,.int .u32,.int .u32,.int .u32,.int .u32,.int .u32,.int .u32,.int .u32,.int .u32,.int .u32,s4,.str,.bool,.int .u32,.bool,.int .u32,.int .u32,.int .u32,.int .i64,.int .i64,.int .u32,.int .u32,.str,.int .u32,.int .u32,.bool,.int .u32,.bool,.int .u32,.int .u32,.int .u32,.int .u64,.bool,.bool,s5,.int .i64,.int .i64,s6,s7,.int .u64,s8,s9,Bk,.int .u64,.int .i64]
def dj.sig:List CT:=dj.ic (.ints .u32) (.ag) (.ints .i64) (.ints .i64) (.ints .u32) (.ag) (.ints .i64) (.ints .i64) (.ai .aa) (.ai .aa) (.ai .str)
def sX.sig:List CT:=[.int .i64,.int .i64]
def kO.sig:List CT:=[.int .i64,.str]
def kZ.sig:List CT:=[.int .i64,.int .i64,.int .i64,.int .u32]
def nm.sig:List CT:=[.int .i64,.int .i64,.str]
def kd.ic(s0:CT):List CT:=[.str,.int .i64,s0,.int .i64,.int .i64,.int .i64]
def kd.sig:List CT:=kd.ic (.ai .aw)
def gr.sig:List CT:=[.int .i64,.int .i64,.int .i64,.int .i64,.int .i32]
def uN.sig:List CT:=[.int .i64,.int .u32,.str]
def py.sig:List CT:=[.int .u64,.int .i64,.int .u32,.str]
def il.sig:List CT:=[.int .i64,.int .u64,.int .u32,.str]
def nS.sig:List CT:=[.str,.int .u32]
def rj.sig:List CT:=[.int .u32,.int .u32,.int .i64]
def kP.sig:List CT:=[.int .i64,.str,.bool]
def wP.sig:List CT:=[.bool,.bool,.bool,.int .i32,.int .i32]
def RK.sig:RK->List CT
 |.bu=>j7.sig
 |.aa=>dx.sig
 |.str=>[.str]
 |.bz=>il.sig
 |.bq=>kO.sig
 |.dq=>nS.sig
 |.ak=>kd.sig
 |.aw=>nm.sig
 |.fe=>py.sig
 |.av=>kP.sig
def RK.cells:(k:RK)->RK.T k->List D
 |.bu,x=>j7.cells x
 |.aa,x=>dx.cells x
 |.str,x=>[.str x]
 |.bz,x=>il.cells x
 |.bq,x=>kO.cells x
 |.dq,x=>nS.cells x
 |.ak,x=>kd.cells x
 |.aw,x=>nm.cells x
 |.fe,x=>py.cells x
 |.av,x=>kP.cells x
def RK.of:(k:RK)->List D->RK.T k
 |.bu,cs=>j7.of cs
 |.aa,cs=>dx.of cs
 |.str,cs=>(cs.getD 0 .dead).toStr
 |.bz,cs=>il.of cs
 |.bq,cs=>kO.of cs
 |.dq,cs=>nS.of cs
 |.ak,cs=>kd.of cs
 |.aw,cs=>nm.of cs
 |.fe,cs=>py.of cs
 |.av,cs=>kP.of cs
theorem RK.Bl(k:RK)(cs:List D):k.cells (k.of cs)=uO k.sig cs 0:=by cases k<;>kernel_rfl
theorem RK.nT(k:RK)(x:RK.T k):uO k.sig (k.cells x) 0=k.cells x:=by cases k<;>kernel_rfl
theorem RK.tG(k:RK):k.sig.length=k.size:=by cases k<;>rfl
