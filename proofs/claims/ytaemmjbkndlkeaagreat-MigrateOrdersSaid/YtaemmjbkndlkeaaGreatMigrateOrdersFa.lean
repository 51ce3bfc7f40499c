import Derived.WalkKit
import Derived.KernelRfl
set_option linter.all false
namespace Go.GD
variable {m n:Nat}{p:Prop}
theorem oY{p:Prop}[Decidable p](h:decide p=true):p:=of_decide_eq_true h
theorem oN[Decidable p](h:decide p=false):¬p:=of_decide_eq_false h
theorem dY[Decidable p](h:p):decide p=true:=decide_eq_true h
theorem dN[Decidable p](h:¬p):decide p=false:=decide_eq_false h
theorem bE(h:Nat.beq n m=true):n=m:=Nat.eq_of_beq_eq_true h
theorem lE(h:Nat.ble n m=true):n<=m:=Nat.le_of_ble_eq_true h
theorem aE(a b:Bool):((a&&b)=true)=(a=true/\b=true):=Bool.and_eq_true a b
theorem lA{α:Type}{a b:List α}:(a++b).length=a.length+b.length:=List.length_append
structure A5(α:Type) where
 (a0 a1 a2 a3 a4:α)
 deriving DecidableEq,Inhabited
def A5.l{α:Type}(x:A5 α):List α:=[x.a0,x.a1,x.a2,x.a3,x.a4]
def A5.of{α:Type}(z:α)(l:List α):A5 α:=⟨l.getD 0 z,l.getD 1 z,l.getD 2 z,l.getD 3 z,l.getD 4 z⟩
structure A8(α:Type) where
 (a0 a1 a2 a3 a4 a5 a6 a7:α)
 deriving DecidableEq,Inhabited
def A8.l{α:Type}(x:A8 α):List α:=[x.a0,x.a1,x.a2,x.a3,x.a4,x.a5,x.a6,x.a7]
def A8.of{α:Type}(z:α)(l:List α):A8 α:=⟨l.getD 0 z,l.getD 1 z,l.getD 2 z,l.getD 3 z,l.getD 4 z,l.getD 5 z,l.getD 6 z,l.getD 7 z⟩
structure iv(α:Type) where
 (a0 a1 a2 a3 a4 a5 a6 a7 a8 a9 kJ kK a12 kL kM kN:α)
 deriving DecidableEq,Inhabited
def iv.l{α:Type}(x:iv α):List α:=[x.a0,x.a1,x.a2,x.a3,x.a4,x.a5,x.a6,x.a7,x.a8,x.a9,x.kJ,x.kK,x.a12,x.kL,x.kM,x.kN]
def iv.of{α:Type}(z:α)(l:List α):iv α:=⟨l.getD 0 z,l.getD 1 z,l.getD 2 z,l.getD 3 z,l.getD 4 z,l.getD 5 z,l.getD 6 z,l.getD 7 z,l.getD 8 z,l.getD 9 z,l.getD 10 z,l.getD 11 z,l.getD 12 z,l.getD 13 z,l.getD 14 z,l.getD 15 z⟩
structure bq where
 X:(iv Int)
 Pc:Int
 C3:(A8 Int)
 deriving DecidableEq,Inhabited
structure iN where
 D9:(List UInt8)
 deriving DecidableEq,Inhabited
structure iV where
 F2:Bool
 D4:Int
 E0:Bool
 deriving DecidableEq,Inhabited
structure fx where
 ae:Int
 C8:Int
 Frame:Int
 C7:Int
 F7:Int
 C5:Int
 C6:Int
 C9:(List UInt8)
 deriving DecidableEq,Inhabited
structure gx where
 Frame:Int
 F8:Int
 D1:Bool
 D3:Int
 C4:Bool
 G0:Int
 deriving DecidableEq,Inhabited
structure gm where
 A2:Int
 D0:Int
 deriving DecidableEq,Inhabited
structure bc where
 B4:bq
 Mem:(List Int)
 B2:iN
 B9:iV
 B7:fx
 D2:gx
 A7:gm
 B6:Int
 B3:Bool
 B5:Bool
 deriving DecidableEq,Inhabited
structure gb where
 B0:(List Bool)
 B8:Int
 D6:Int
 deriving DecidableEq,Inhabited
structure ia where
 A4:Int
 A0:bc
 B1:gb
 A3:(List Int)
 C0:(List Int)
 D5:Int
 deriving DecidableEq,Inhabited
structure iO where
 ae:(List (List UInt8))
 D5:Int
 D7:Int
 deriving DecidableEq,Inhabited
structure fg where
 C2:Int
 B8:Int
 Frame:Int
 F1:(List UInt8)
 A0:bc
 A3:(List Int)
 deriving DecidableEq,Inhabited
structure dr where
 A1:ia
 A2:ia
 A6:(List fg)
 C1:(List fg)
 A9:iO
 deriving DecidableEq,Inhabited
structure kU where
 C2:Int
 N:Int
 C1:Bool
 F5:Int
 deriving DecidableEq,Inhabited
structure de where
 A1:ia
 A2:ia
 A6:(List fg)
 C1:(List fg)
 A9:iO
 deriving DecidableEq,Inhabited
structure tB where
 Ad:Int
 nE:Int
 deriving DecidableEq,Inhabited
structure lj where
 Frame:Int
 F1:(List UInt8)
 deriving DecidableEq,Inhabited
structure lK where
 C2:Int
 D8:Int
 F9:Int
 Value:Int
 deriving DecidableEq,Inhabited
structure nF where
 kz:Int
 num:Int
 label:(List UInt8)
 deriving DecidableEq,Inhabited
structure kp where
 ea:(List UInt8)
 op:Int
 l:(List nF)
 F4:Int
 at_:Int
 size:Int
 deriving DecidableEq,Inhabited
structure gw where
 Op:Int
 A:Int
 B:Int
 C:Int
 bw:Int
 deriving DecidableEq,Inhabited
structure wg where
 C2:Int
 N:Int
 F1:(List UInt8)
 deriving DecidableEq,Inhabited
structure pK where
 At:Int
 Event:wg
 deriving DecidableEq,Inhabited
structure il where
 C2:Int
 At:Int
 C8:Int
 F1:(List UInt8)
 deriving DecidableEq,Inhabited
structure oi where
 Name:(List UInt8)
 Addr:Int
 deriving DecidableEq,Inhabited
structure rI where
 Addr:Int
 G2:Int
 G1:Int
 deriving DecidableEq,Inhabited
structure ll where
 kind:Int
 F3:(List UInt8)
 Ae:Bool
 deriving DecidableEq,Inhabited
structure Af where
 a:Bool
 b:Bool
 c:Bool
 low:Int
 F6:Int
 deriving DecidableEq,Inhabited
inductive RK where
 |bu|aa|str|bz|bn|dm|ak|ax|fc|av
 deriving DecidableEq
@[reducible] def RK.T:RK->Type
 |.bu=>kU
 |.aa=>fg
 |.str=>(List UInt8)
 |.bz=>il
 |.bn=>lj
 |.dm=>oi
 |.ak=>kp
 |.ax=>nF
 |.fc=>pK
 |.av=>ll
def RK.ed:(k:RK)->RK.T k
 |.bu=>(default:kU)
 |.aa=>(default:fg)
 |.str=>(default:List UInt8)
 |.bz=>(default:il)
 |.bn=>(default:lj)
 |.dm=>(default:oi)
 |.ak=>(default:kp)
 |.ax=>(default:nF)
 |.fc=>(default:pK)
 |.av=>(default:ll)
def RK.Ng:Nat->Option RK
 |61=>some .bu
 |80=>some .aa
 |9=>some .str
 |232=>some .bz
 |146=>some .bn
 |243=>some .dm
 |177=>some .ak
 |179=>some .ax
 |193=>some .fc
 |290=>some .av
 |_=>none
end Go.GD
namespace Go.GD
open Go
instance (k:RK):Inhabited (RK.T k):=⟨RK.ed k⟩
mutual
inductive D where
 |bool (b:Bool)
 |int (k:IntKind) (n:Int)
 |str (s:List UInt8)
 |sl (sz:Nat) (es:ai) (fr:Bool)
 |all (r:Nat)
 |own (r o n:Nat)
 |ptr (r i off:Nat)
 |pa (r i off len:Nat) (k:Option IntKind) (n:Nat)
 |im (sz:Nat) (es:ai) (i off:Nat)
 |iw
 |c7
 |emp
 |mW (es:ai)
 |dead
 |gj (f:Nat) (cs:List iB)
 |gk (r:Nat)
 |jI
 |agg (cs:List D)
 |dw (ds:List D)
inductive ai where
 |gen (es:List (List D))
 |ints (k:IntKind) (l:List Int)
 |ag (l:List Bool)
 |ah (k:RK) (l:List (RK.T k))
inductive iB where
 |ptr (r i off:Nat)
 |int (k:IntKind) (n:Int)
 |arr (r:Nat)
 |sl (sz:Nat) (es:ai) (fr:Bool)
 |fn (f:Nat) (ps:List (Nat×Nat×Nat))
end
instance:Inhabited D:=⟨.dead⟩
instance:Inhabited ai:=⟨.gen []⟩
def Ib(p:Nat×Nat×Nat):iB:=.ptr p.1 p.2.1 p.2.2
def iB.d:iB->D|.ptr r i off=>.ptr r i off|.int k n=>.int k n|.arr r=>.all r|.sl a b c=>.sl a b c|.fn f ps=>.gj f (ps.map Ib)
def D.isInt(k:IntKind):D->Bool|.int j _=>decide (j=k)|_=>false
def D.toInt:D->Int|.int _ n=>n|_=>0
def D.isBool:D->Bool|.bool _=>true|_=>false
def D.toBool:D->Bool|.bool b=>b|_=>false
def D.isStr:D->Bool|.str _=>true|_=>false
def D.toStr:D->List UInt8|.str s=>s|_=>[]
def Gr(k k':RK)(l:List (RK.T k)):Option (List (RK.T k')):=if h:k=k' then some (h▸l)else none
theorem Wj(k:RK)(l:List (RK.T k)):Gr k k l=some l:=by simp[Gr]
theorem Wk{k k':RK}{l:List (RK.T k)}{m:List (RK.T k')}(h:Gr k k' l=some m):∃e:k=k',e▸l=m:=by
 unfold Gr at h
 split at h
 ·rename_i e;cases h;exact⟨e,rfl⟩
 ·cases h
def ai.toI(k:IntKind):ai->Option (List Int)
 |.ints k' l=>match decide (k'=k)with|true=>some l|false=>none
 |.gen []=>some []
 |_=>none
def ai.toB:ai->Option (List Bool)
 |.ag l=>some l
 |.gen []=>some []
 |_=>none
def ai.toR(k:RK):ai->Option (List (RK.T k))
 |.ah k' l=>Gr k' k l
 |.gen []=>some []
 |_=>none
inductive CT where|int(k:IntKind)|bool|str|ints(k:IntKind)|ag|ah(k:RK)|row(i:Nat)|nil|Ic|self(i:Nat)|pt(i o f:Nat)|gj(f:Nat)(cs:List iB)
def cf(k:IntKind):D->List Int|.sl _ E _=>(match E.toI k with|some l=>l|none=>[])|_=>[]
def ej:D->List Bool|.sl _ E _=>(match E.toB with|some l=>l|none=>[])|_=>[]
def iP(k:RK):D->List (RK.T k)|.sl _ E _=>(match E.toR k with|some l=>l|none=>[])|_=>[]
def bq.cells(x:bq):List D:=[.int .u32 x.X.a0,.int .u32 x.X.a1,.int .u32 x.X.a2,.int .u32 x.X.a3,.int .u32 x.X.a4,.int .u32 x.X.a5,.int .u32 x.X.a6,.int .u32 x.X.a7,.int .u32 x.X.a8,.int .u32 x.X.a9,.int .u32 x.X.kJ,.int .u32 x.X.kK,.int .u32 x.X.a12,.int .u32 x.X.kL,.int .u32 x.X.kM,.int .u32 x.X.kN,.int .u32 x.Pc,.int .u32 x.C3.a0,.int .u32 x.C3.a1,.int .u32 x.C3.a2,.int .u32 x.C3.a3,.int .u32 x.C3.a4,.int .u32 x.C3.a5,.int .u32 x.C3.a6,.int .u32 x.C3.a7]
def bq.of(cs:List D):bq:=(⟨(⟨(cs.getD 0 .dead).toInt,(cs.getD 1 .dead).toInt,(cs.getD 2 .dead).toInt,(cs.getD 3 .dead).toInt,(cs.getD 4 .dead).toInt,(cs.getD 5 .dead).toInt,(cs.getD 6 .dead).toInt,(cs.getD 7 .dead).toInt,(cs.getD 8 .dead).toInt,(cs.getD 9 .dead).toInt,(cs.getD 10 .dead).toInt,(cs.getD 11 .dead).toInt,(cs.getD 12 .dead).toInt,(cs.getD 13 .dead).toInt,(cs.getD 14 .dead).toInt,(cs.getD 15 .dead).toInt⟩:(iv Int)),(cs.getD 16 .dead).toInt,(⟨(cs.getD 17 .dead).toInt,(cs.getD 18 .dead).toInt,(cs.getD 19 .dead).toInt,(cs.getD 20 .dead).toInt,(cs.getD 21 .dead).toInt,(cs.getD 22 .dead).toInt,(cs.getD 23 .dead).toInt,(cs.getD 24 .dead).toInt⟩:(A8 Int))⟩:bq)
def iN.cells(x:iN):List D:=[.str x.D9]
def iN.of(cs:List D):iN:=(⟨(cs.getD 0 .dead).toStr⟩:iN)
def iV.cells(x:iV):List D:=[.bool x.F2,.int .u32 x.D4,.bool x.E0]
def iV.of(cs:List D):iV:=(⟨(cs.getD 0 .dead).toBool,(cs.getD 1 .dead).toInt,(cs.getD 2 .dead).toBool⟩:iV)
def fx.cells(x:fx):List D:=[.int .u32 x.ae,.int .u32 x.C8,.int .u32 x.Frame,.int .i64 x.C7,.int .i64 x.F7,.int .u32 x.C5,.int .u32 x.C6,.str x.C9]
def fx.of(cs:List D):fx:=(⟨(cs.getD 0 .dead).toInt,(cs.getD 1 .dead).toInt,(cs.getD 2 .dead).toInt,(cs.getD 3 .dead).toInt,(cs.getD 4 .dead).toInt,(cs.getD 5 .dead).toInt,(cs.getD 6 .dead).toInt,(cs.getD 7 .dead).toStr⟩:fx)
def gx.cells(x:gx):List D:=[.int .u32 x.Frame,.int .u32 x.F8,.bool x.D1,.int .u32 x.D3,.bool x.C4,.int .u32 x.G0]
def gx.of(cs:List D):gx:=(⟨(cs.getD 0 .dead).toInt,(cs.getD 1 .dead).toInt,(cs.getD 2 .dead).toBool,(cs.getD 3 .dead).toInt,(cs.getD 4 .dead).toBool,(cs.getD 5 .dead).toInt⟩:gx)
def gm.cells(x:gm):List D:=[.int .u32 x.A2,.int .u32 x.D0]
def gm.of(cs:List D):gm:=(⟨(cs.getD 0 .dead).toInt,(cs.getD 1 .dead).toInt⟩:gm)
def bc.cq(x:bc)(s0:D):List D:=[.int .u32 x.B4.X.a0,.int .u32 x.B4.X.a1,.int .u32 x.B4.X.a2,.int .u32 x.B4.X.a3,.int .u32 x.B4.X.a4,.int .u32 x.B4.X.a5,.int .u32 x.B4.X.a6,.int .u32 x.B4.X.a7,.int .u32 x.B4.X.a8,.int .u32 x.B4.X.a9,.int .u32 x.B4.X.kJ,.int .u32 x.B4.X.kK,.int .u32 x.B4.X.a12,.int .u32 x.B4.X.kL,.int .u32 x.B4.X.kM,.int .u32 x.B4.X.kN,.int .u32 x.B4.Pc,.int .u32 x.B4.C3.a0,.int .u32 x.B4.C3.a1,.int .u32 x.B4.C3.a2,.int .u32 x.B4.C3.a3,.int .u32 x.B4.C3.a4,.int .u32 x.B4.C3.a5,.int .u32 x.B4.C3.a6,.int .u32 x.B4.C3.a7,s0,.str x.B2.D9,.bool x.B9.F2,.int .u32 x.B9.D4,.bool x.B9.E0,.int .u32 x.B7.ae,.int .u32 x.B7.C8,.int .u32 x.B7.Frame,.int .i64 x.B7.C7,.int .i64 x.B7.F7,.int .u32 x.B7.C5,.int .u32 x.B7.C6,.str x.B7.C9,.int .u32 x.D2.Frame,.int .u32 x.D2.F8,.bool x.D2.D1,.int .u32 x.D2.D3,.bool x.D2.C4,.int .u32 x.D2.G0,.int .u32 x.A7.A2,.int .u32 x.A7.D0,.int .u64 x.B6,.bool x.B3,.bool x.B5]
def bc.cells(x:bc):List D:=bc.cq x (.sl 1 (.ints .u32 x.Mem) false)
def bc.iC(cs:List D)(s0:List Int):bc:=(⟨(⟨(⟨(cs.getD 0 .dead).toInt,(cs.getD 1 .dead).toInt,(cs.getD 2 .dead).toInt,(cs.getD 3 .dead).toInt,(cs.getD 4 .dead).toInt,(cs.getD 5 .dead).toInt,(cs.getD 6 .dead).toInt,(cs.getD 7 .dead).toInt,(cs.getD 8 .dead).toInt,(cs.getD 9 .dead).toInt,(cs.getD 10 .dead).toInt,(cs.getD 11 .dead).toInt,(cs.getD 12 .dead).toInt,(cs.getD 13 .dead).toInt,(cs.getD 14 .dead).toInt,(cs.getD 15 .dead).toInt⟩:(iv Int)),(cs.getD 16 .dead).toInt,(⟨(cs.getD 17 .dead).toInt,(cs.getD 18 .dead).toInt,(cs.getD 19 .dead).toInt,(cs.getD 20 .dead).toInt,(cs.getD 21 .dead).toInt,(cs.getD 22 .dead).toInt,(cs.getD 23 .dead).toInt,(cs.getD 24 .dead).toInt⟩:(A8 Int))⟩:bq),s0,(⟨(cs.getD 26 .dead).toStr⟩:iN),(⟨(cs.getD 27 .dead).toBool,(cs.getD 28 .dead).toInt,(cs.getD 29 .dead).toBool⟩:iV),(⟨(cs.getD 30 .dead).toInt,(cs.getD 31 .dead).toInt,(cs.getD 32 .dead).toInt,(cs.getD 33 .dead).toInt,(cs.getD 34 .dead).toInt,(cs.getD 35 .dead).toInt,(cs.getD 36 .dead).toInt,(cs.getD 37 .dead).toStr⟩:fx),(⟨(cs.getD 38 .dead).toInt,(cs.getD 39 .dead).toInt,(cs.getD 40 .dead).toBool,(cs.getD 41 .dead).toInt,(cs.getD 42 .dead).toBool,(cs.getD 43 .dead).toInt⟩:gx),(⟨(cs.getD 44 .dead).toInt,(cs.getD 45 .dead).toInt⟩:gm),(cs.getD 46 .dead).toInt,(cs.getD 47 .dead).toBool,(cs.getD 48 .dead).toBool⟩:bc)
def bc.of(cs:List D):bc:=bc.iC cs (cf .u32 (cs.getD 25 .dead))
def gb.cq(x:gb)(s0:D):List D:=[s0,.int .i64 x.B8,.int .i64 x.D6]
def gb.cells(x:gb):List D:=gb.cq x (.sl 1 (.ag x.B0) false)
def gb.iC(cs:List D)(s0:List Bool):gb:=(⟨s0,(cs.getD 1 .dead).toInt,(cs.getD 2 .dead).toInt⟩:gb)
def gb.of(cs:List D):gb:=gb.iC cs (ej (cs.getD 0 .dead))
def ia.cq(x:ia)(s0 s1 s2 s3:D):List D:=[.int .i64 x.A4,.int .u32 x.A0.B4.X.a0,.int .u32 x.A0.B4.X.a1,.int .u32 x.A0.B4.X.a2,.int .u32 x.A0.B4.X.a3,.int .u32 x.A0.B4.X.a4,.int .u32 x.A0.B4.X.a5,.int .u32 x.A0.B4.X.a6,.int .u32 x.A0.B4.X.a7,.int .u32 x.A0.B4.X.a8,.int .u32 x.A0.B4.X.a9,.int .u32 x.A0.B4.X.kJ,.int .u32 x.A0.B4.X.kK,.int .u32 x.A0.B4.X.a12,.int .u32 x.A0.B4.X.kL,.int .u32 x.A0.B4.X.kM,.int .u32 x.A0.B4.X.kN,.int .u32 x.A0.B4.Pc,.int .u32 x.A0.B4.C3.a0,.int .u32 x.A0.B4.C3.a1,.int .u32 x.A0.B4.C3.a2,.int .u32 x.A0.B4.C3.a3,.int .u32 x.A0.B4.C3.a4,.int .u32 x.A0.B4.C3.a5,.int .u32 x.A0.B4.C3.a6,.int .u32 x.A0.B4.C3.a7,s0,.str x.A0.B2.D9,.bool x.A0.B9.F2,.int .u32 x.A0.B9.D4,.bool x.A0.B9.E0,.int .u32 x.A0.B7.ae,.int .u32 x.A0.B7.C8,.int .u32 x.A0.B7.Frame,.int .i64 x.A0.B7.C7,.int .i64 x.A0.B7.F7,.int .u32 x.A0.B7.C5,.int .u32 x.A0.B7.C6,.str x.A0.B7.C9,.int .u32 x.A0.D2.Frame,.int .u32 x.A0.D2.F8,.bool x.A0.D2.D1,.int .u32 x.A0.D2.D3,.bool x.A0.D2.C4,.int .u32 x.A0.D2.G0,.int .u32 x.A0.A7.A2,.int .u32 x.A0.A7.D0,.int .u64 x.A0.B6,.bool x.A0.B3,.bool x.A0.B5,s1,.int .i64 x.B1.B8,.int .i64 x.B1.D6,s2,s3,.int .u64 x.D5]
def ia.cells(x:ia):List D:=ia.cq x (.sl 1 (.ints .u32 x.A0.Mem) false) (.sl 1 (.ag x.B1.B0) false) (.sl 1 (.ints .i64 x.A3) false) (.sl 1 (.ints .i64 x.C0) false)
def ia.iC(cs:List D)(s0:List Int)(s1:List Bool)(s2 s3:List Int):ia:=(⟨(cs.getD 0 .dead).toInt,(⟨(⟨(⟨(cs.getD 1 .dead).toInt,(cs.getD 2 .dead).toInt,(cs.getD 3 .dead).toInt,(cs.getD 4 .dead).toInt,(cs.getD 5 .dead).toInt,(cs.getD 6 .dead).toInt,(cs.getD 7 .dead).toInt,(cs.getD 8 .dead).toInt,(cs.getD 9 .dead).toInt,(cs.getD 10 .dead).toInt,(cs.getD 11 .dead).toInt,(cs.getD 12 .dead).toInt,(cs.getD 13 .dead).toInt,(cs.getD 14 .dead).toInt,(cs.getD 15 .dead).toInt,(cs.getD 16 .dead).toInt⟩:(iv Int)),(cs.getD 17 .dead).toInt,(⟨(cs.getD 18 .dead).toInt,(cs.getD 19 .dead).toInt,(cs.getD 20 .dead).toInt,(cs.getD 21 .dead).toInt,(cs.getD 22 .dead).toInt,(cs.getD 23 .dead).toInt,(cs.getD 24 .dead).toInt,(cs.getD 25 .dead).toInt⟩:(A8 Int))⟩:bq),s0,(⟨(cs.getD 27 .dead).toStr⟩:iN),(⟨(cs.getD 28 .dead).toBool,(cs.getD 29 .dead).toInt,(cs.getD 30 .dead).toBool⟩:iV),(⟨(cs.getD 31 .dead).toInt,(cs.getD 32 .dead).toInt,(cs.getD 33 .dead).toInt,(cs.getD 34 .dead).toInt,(cs.getD 35 .dead).toInt,(cs.getD 36 .dead).toInt,(cs.getD 37 .dead).toInt,(cs.getD 38 .dead).toStr⟩:fx),(⟨(cs.getD 39 .dead).toInt,(cs.getD 40 .dead).toInt,(cs.getD 41 .dead).toBool,(cs.getD 42 .dead).toInt,(cs.getD 43 .dead).toBool,(cs.getD 44 .dead).toInt⟩:gx),(⟨(cs.getD 45 .dead).toInt,(cs.getD 46 .dead).toInt⟩:gm),(cs.getD 47 .dead).toInt,(cs.getD 48 .dead).toBool,(cs.getD 49 .dead).toBool⟩:bc),(⟨s1,(cs.getD 51 .dead).toInt,(cs.getD 52 .dead).toInt⟩:gb),s2,s3,(cs.getD 55 .dead).toInt⟩:ia)
def ia.of(cs:List D):ia:=ia.iC cs (cf .u32 (cs.getD 26 .dead)) (ej (cs.getD 50 .dead)) (cf .i64 (cs.getD 53 .dead)) (cf .i64 (cs.getD 54 .dead))
def iO.cq(x:iO)(s0:D):List D:=[s0,.int .u64 x.D5,.int .i64 x.D7]
def iO.cells(x:iO):List D:=iO.cq x (.sl 1 (.ah .str x.ae) false)
def iO.iC(cs:List D)(s0:List (List UInt8)):iO:=(⟨s0,(cs.getD 1 .dead).toInt,(cs.getD 2 .dead).toInt⟩:iO)
def iO.of(cs:List D):iO:=iO.iC cs (iP .str (cs.getD 0 .dead))
def fg.cq(x:fg)(s0 s1:D):List D:=[.int .i64 x.C2,.int .i64 x.B8,.int .i64 x.Frame,.str x.F1,.int .u32 x.A0.B4.X.a0,.int .u32 x.A0.B4.X.a1,.int .u32 x.A0.B4.X.a2,.int .u32 x.A0.B4.X.a3,.int .u32 x.A0.B4.X.a4,.int .u32 x.A0.B4.X.a5,.int .u32 x.A0.B4.X.a6,.int .u32 x.A0.B4.X.a7,.int .u32 x.A0.B4.X.a8,.int .u32 x.A0.B4.X.a9,.int .u32 x.A0.B4.X.kJ,.int .u32 x.A0.B4.X.kK,.int .u32 x.A0.B4.X.a12,.int .u32 x.A0.B4.X.kL,.int .u32 x.A0.B4.X.kM,.int .u32 x.A0.B4.X.kN,.int .u32 x.A0.B4.Pc,.int .u32 x.A0.B4.C3.a0,.int .u32 x.A0.B4.C3.a1,.int .u32 x.A0.B4.C3.a2,.int .u32 x.A0.B4.C3.a3,.int .u32 x.A0.B4.C3.a4,.int .u32 x.A0.B4.C3.a5,.int .u32 x.A0.B4.C3.a6,.int .u32 x.A0.B4.C3.a7,s0,.str x.A0.B2.D9,.bool x.A0.B9.F2,.int .u32 x.A0.B9.D4,.bool x.A0.B9.E0,.int .u32 x.A0.B7.ae,.int .u32 x.A0.B7.C8,.int .u32 x.A0.B7.Frame,.int .i64 x.A0.B7.C7,.int .i64 x.A0.B7.F7,.int .u32 x.A0.B7.C5,.int .u32 x.A0.B7.C6,.str x.A0.B7.C9,.int .u32 x.A0.D2.Frame,.int .u32 x.A0.D2.F8,.bool x.A0.D2.D1,.int .u32 x.A0.D2.D3,.bool x.A0.D2.C4,.int .u32 x.A0.D2.G0,.int .u32 x.A0.A7.A2,.int .u32 x.A0.A7.D0,.int .u64 x.A0.B6,.bool x.A0.B3,.bool x.A0.B5,s1]
def fg.cells(x:fg):List D:=fg.cq x (.sl 1 (.ints .u32 x.A0.Mem) false) (.sl 1 (.ints .i64 x.A3) false)
def fg.iC(cs:List D)(s0 s1:List Int):fg:=(⟨(cs.getD 0 .dead).toInt,(cs.getD 1 .dead).toInt,(cs.getD 2 .dead).toInt,(cs.getD 3 .dead).toStr,(⟨(⟨(⟨(cs.getD 4 .dead).toInt,(cs.getD 5 .dead).toInt,(cs.getD 6 .dead).toInt,(cs.getD 7 .dead).toInt,(cs.getD 8 .dead).toInt,(cs.getD 9 .dead).toInt,(cs.getD 10 .dead).toInt,(cs.getD 11 .dead).toInt,(cs.getD 12 .dead).toInt,(cs.getD 13 .dead).toInt,(cs.getD 14 .dead).toInt,(cs.getD 15 .dead).toInt,(cs.getD 16 .dead).toInt,(cs.getD 17 .dead).toInt,(cs.getD 18 .dead).toInt,(cs.getD 19 .dead).toInt⟩:(iv Int)),(cs.getD 20 .dead).toInt,(⟨(cs.getD 21 .dead).toInt,(cs.getD 22 .dead).toInt,(cs.getD 23 .dead).toInt,(cs.getD 24 .dead).toInt,(cs.getD 25 .dead).toInt,(cs.getD 26 .dead).toInt,(cs.getD 27 .dead).toInt,(cs.getD 28 .dead).toInt⟩:(A8 Int))⟩:bq),s0,(⟨(cs.getD 30 .dead).toStr⟩:iN),(⟨(cs.getD 31 .dead).toBool,(cs.getD 32 .dead).toInt,(cs.getD 33 .dead).toBool⟩:iV),(⟨(cs.getD 34 .dead).toInt,(cs.getD 35 .dead).toInt,(cs.getD 36 .dead).toInt,(cs.getD 37 .dead).toInt,(cs.getD 38 .dead).toInt,(cs.getD 39 .dead).toInt,(cs.getD 40 .dead).toInt,(cs.getD 41 .dead).toStr⟩:fx),(⟨(cs.getD 42 .dead).toInt,(cs.getD 43 .dead).toInt,(cs.getD 44 .dead).toBool,(cs.getD 45 .dead).toInt,(cs.getD 46 .dead).toBool,(cs.getD 47 .dead).toInt⟩:gx),(⟨(cs.getD 48 .dead).toInt,(cs.getD 49 .dead).toInt⟩:gm),(cs.getD 50 .dead).toInt,(cs.getD 51 .dead).toBool,(cs.getD 52 .dead).toBool⟩:bc),s1⟩:fg)
def fg.of(cs:List D):fg:=fg.iC cs (cf .u32 (cs.getD 29 .dead)) (cf .i64 (cs.getD 53 .dead))
def dr.cq(x:dr)(s0 s1 s2 s3 s4 s5 s6 s7 s8 s9 BH:D):List D:=[.int .i64 x.A1.A4,.int .u32 x.A1.A0.B4.X.a0,.int .u32 x.A1.A0.B4.X.a1,.int .u32 x.A1.A0.B4.X.a2,.int .u32 x.A1.A0.B4.X.a3,.int .u32 x.A1.A0.B4.X.a4,.int .u32 x.A1.A0.B4.X.a5,.int .u32 x.A1.A0.B4.X.a6,.int .u32 x.A1.A0.B4.X.a7,.int .u32 x.A1.A0.B4.X.a8,.int .u32 x.A1.A0.B4.X.a9,.int .u32 x.A1.A0.B4.X.kJ,.int .u32 x.A1.A0.B4.X.kK,.int .u32 x.A1.A0.B4.X.a12,.int .u32 x.A1.A0.B4.X.kL,.int .u32 x.A1.A0.B4.X.kM,.int .u32 x.A1.A0.B4.X.kN,.int .u32 x.A1.A0.B4.Pc,.int .u32 x.A1.A0.B4.C3.a0,.int .u32 x.A1.A0.B4.C3.a1,.int .u32 x.A1.A0.B4.C3.a2,.int .u32 x.A1.A0.B4.C3.a3,.int .u32 x.A1.A0.B4.C3.a4,.int .u32 x.A1.A0.B4.C3.a5,.int .u32 x.A1.A0.B4.C3.a6,.int .u32 x.A1.A0.B4.C3.a7,s0,.str x.A1.A0.B2.D9,.bool x.A1.A0.B9.F2,.int .u32 x.A1.A0.B9.D4,.bool x.A1.A0.B9.E0,.int .u32 x.A1.A0.B7.ae,.int .u32 x.A1.A0.B7.C8,.int .u32 x.A1.A0.B7.Frame,.int .i64 x.A1.A0.B7.C7,.int .i64 x.A1.A0.B7.F7,.int .u32 x.A1.A0.B7.C5,.int .u32 x.A1.A0.B7.C6,.str x.A1.A0.B7.C9,.int .u32 x.A1.A0.D2.Frame,.int .u32 x.A1.A0.D2.F8,.bool x.A1.A0.D2.D1,.int .u32 x.A1.A0.D2.D3,.bool x.A1.A0.D2.C4,.int .u32 x.A1.A0.D2.G0,.int .u32 x.A1.A0.A7.A2,.int .u32 x.A1.A0.A7.D0,.int .u64 x.A1.A0.B6,.bool x.A1.A0.B3,.bool x.A1.A0.B5,s1,.int .i64 x.A1.B1.B8,.int .i64 x.A1.B1.D6,s2,s3,.int .u64 x.A1.D5,.int .i64 x.A2.A4,.int .u32 x.A2.A0.B4.X.a0,.int .u32 x.A2.A0.B4.X.a1,.int .u32 x.A2.A0.B4.X.a2,.int .u32 x.A2.A0.B4.X.a3,.int .u32 x.A2.A0.B4.X.a4,.int .u32 x.A2.A0.B4.X.a5,.int .u32 x.A2.A0.B4.X.a6,.int .u32 x.A2.A0.B4.X.a7,.int .u32 x.A2.A0.B4.X.a8,.int .u32 x.A2.A0.B4.X.a9,.int .u32 x.A2.A0.B4.X.kJ,.int .u32 x.A2.A0.B4.X.kK,.int .u32 x.A2.A0.B4.X.a12,.int .u32 x.A2.A0.B4.X.kL,.int .u32 x.A2.A0.B4.X.kM,.int .u32 x.A2.A0.B4.X.kN,.int .u32 x.A2.A0.B4.Pc,.int .u32 x.A2.A0.B4.C3.a0,.int .u32 x.A2.A0.B4.C3.a1,.int .u32 x.A2.A0.B4.C3.a2,.int .u32 x.A2.A0.B4.C3.a3,.int .u32 x.A2.A0.B4.C3.a4,.int .u32 x.A2.A0.B4.C3.a5,.int .u32 x.A2.A0.B4.C3.a6,.int .u32 x.A2.A0.B4.C3.a7,s4,.str x.A2.A0.B2.D9,.bool x.A2.A0.B9.F2,.int .u32 x.A2.A0.B9.D4,.bool x.A2.A0.B9.E0,.int .u32 x.A2.A0.B7.ae,.int .u32 x.A2.A0.B7.C8,.int .u32 x.A2.A0.B7.Frame,.int .i64 x.A2.A0.B7.C7,.int .i64 x.A2.A0.B7.F7,.int .u32 x.A2.A0.B7.C5,.int .u32 x.A2.A0.B7.C6,.str x.A2.A0.B7.C9,.int .u32 x.A2.A0.D2.Frame,.int .u32 x.A2.A0.D2.F8,.bool x.A2.A0.D2.D1,.int .u32 x.A2.A0.D2.D3,.bool x.A2.A0.D2.C4,.int .u32 x.A2.A0.D2.G0,.int .u32 x.A2.A0.A7.A2,.int .u32 x.A2.A0.A7.D0,.int .u64 x.A2.A0.B6,.bool x.A2.A0.B3,.bool x.A2.A0.B5,s5,.int .i64 x.A2.B1.B8,.int .i64 x.A2.B1.D6,s6,s7,.int .u64 x.A2.D5,s8,s9,BH,.int .u64 x.A9.D5,.int .i64 x.A9.D7]
def dr.cells(x:dr):List D:=dr.cq x (.sl 1 (.ints .u32 x.A1.A0.Mem) false) (.sl 1 (.ag x.A1.B1.B0) false) (.sl 1 (.ints .i64 x.A1.A3) false) (.sl 1 (.ints .i64 x.A1.C0) false) (.sl 1 (.ints .u32 x.A2.A0.Mem) false) (.sl 1 (.ag x.A2.B1.B0) false) (.sl 1 (.ints .i64 x.A2.A3) false) (.sl 1 (.ints .i64 x.A2.C0) false) (.sl 54 (.ah .aa x.A6) false) (.sl 54 (.ah .aa x.C1) false) (.sl 1 (.ah .str x.A9.ae) false)
def dr.iC(cs:List D)(s0:List Int)(s1:List Bool)(s2 s3 s4:List Int)(s5:List Bool)(s6 s7:List Int)(s8 s9:List fg)(BH:List (List UInt8)):dr:=(⟨(⟨(cs.getD 0 .dead).toInt,(⟨(⟨(⟨(cs.getD 1 .dead).toInt,(cs.getD 2 .dead).toInt,(cs.getD 3 .dead).toInt,(cs.getD 4 .dead).toInt,(cs.getD 5 .dead).toInt,(cs.getD 6 .dead).toInt,(cs.getD 7 .dead).toInt,(cs.getD 8 .dead).toInt,(cs.getD 9 .dead).toInt,(cs.getD 10 .dead).toInt,(cs.getD 11 .dead).toInt,(cs.getD 12 .dead).toInt,(cs.getD 13 .dead).toInt,(cs.getD 14 .dead).toInt,(cs.getD 15 .dead).toInt,(cs.getD 16 .dead).toInt⟩:(iv Int)),(cs.getD 17 .dead).toInt,(⟨(cs.getD 18 .dead).toInt,(cs.getD 19 .dead).toInt,(cs.getD 20 .dead).toInt,(cs.getD 21 .dead).toInt,(cs.getD 22 .dead).toInt,(cs.getD 23 .dead).toInt,(cs.getD 24 .dead).toInt,(cs.getD 25 .dead).toInt⟩:(A8 Int))⟩:bq),s0,(⟨(cs.getD 27 .dead).toStr⟩:iN),(⟨(cs.getD 28 .dead).toBool,(cs.getD 29 .dead).toInt,(cs.getD 30 .dead).toBool⟩:iV),(⟨(cs.getD 31 .dead).toInt,(cs.getD 32 .dead).toInt,(cs.getD 33 .dead).toInt,(cs.getD 34 .dead).toInt,(cs.getD 35 .dead).toInt,(cs.getD 36 .dead).toInt,(cs.getD 37 .dead).toInt,(cs.getD 38 .dead).toStr⟩:fx),(⟨(cs.getD 39 .dead).toInt,(cs.getD 40 .dead).toInt,(cs.getD 41 .dead).toBool,(cs.getD 42 .dead).toInt,(cs.getD 43 .dead).toBool,(cs.getD 44 .dead).toInt⟩:gx),(⟨(cs.getD 45 .dead).toInt,(cs.getD 46 .dead).toInt⟩:gm),(cs.getD 47 .dead).toInt,(cs.getD 48 .dead).toBool,(cs.getD 49 .dead).toBool⟩:bc),(⟨s1,(cs.getD 51 .dead).toInt,(cs.getD 52 .dead).toInt⟩:gb),s2,s3,(cs.getD 55 .dead).toInt⟩:ia),(⟨(cs.getD 56 .dead).toInt,(⟨(⟨(⟨(cs.getD 57 .dead).toInt,(cs.getD 58 .dead).toInt,(cs.getD 59 .dead).toInt,(cs.getD 60 .dead).toInt,(cs.getD 61 .dead).toInt,(cs.getD 62 .dead).toInt,(cs.getD 63 .dead).toInt,(cs.getD 64 .dead).toInt,(cs.getD 65 .dead).toInt,(cs.getD 66 .dead).toInt,(cs.getD 67 .dead).toInt,(cs.getD 68 .dead).toInt,(cs.getD 69 .dead).toInt,(cs.getD 70 .dead).toInt,(cs.getD 71 .dead).toInt,(cs.getD 72 .dead).toInt⟩:(iv Int)),(cs.getD 73 .dead).toInt,(⟨(cs.getD 74 .dead).toInt,(cs.getD 75 .dead).toInt,(cs.getD 76 .dead).toInt,(cs.getD 77 .dead).toInt,(cs.getD 78 .dead).toInt,(cs.getD 79 .dead).toInt,(cs.getD 80 .dead).toInt,(cs.getD 81 .dead).toInt⟩:(A8 Int))⟩:bq),s4,(⟨(cs.getD 83 .dead).toStr⟩:iN),(⟨(cs.getD 84 .dead).toBool,(cs.getD 85 .dead).toInt,(cs.getD 86 .dead).toBool⟩:iV),(⟨(cs.getD 87 .dead).toInt,(cs.getD 88 .dead).toInt,(cs.getD 89 .dead).toInt,(cs.getD 90 .dead).toInt,(cs.getD 91 .dead).toInt,(cs.getD 92 .dead).toInt,(cs.getD 93 .dead).toInt,(cs.getD 94 .dead).toStr⟩:fx),(⟨(cs.getD 95 .dead).toInt,(cs.getD 96 .dead).toInt,(cs.getD 97 .dead).toBool,(cs.getD 98 .dead).toInt,(cs.getD 99 .dead).toBool,(cs.getD 100 .dead).toInt⟩:gx),(⟨(cs.getD 101 .dead).toInt,(cs.getD 102 .dead).toInt⟩:gm),(cs.getD 103 .dead).toInt,(cs.getD 104 .dead).toBool,(cs.getD 105 .dead).toBool⟩:bc),(⟨s5,(cs.getD 107 .dead).toInt,(cs.getD 108 .dead).toInt⟩:gb),s6,s7,(cs.getD 111 .dead).toInt⟩:ia),s8,s9,(⟨BH,(cs.getD 115 .dead).toInt,(cs.getD 116 .dead).toInt⟩:iO)⟩:dr)
def dr.of(cs:List D):dr:=dr.iC cs (cf .u32 (cs.getD 26 .dead)) (ej (cs.getD 50 .dead)) (cf .i64 (cs.getD 53 .dead)) (cf .i64 (cs.getD 54 .dead)) (cf .u32 (cs.getD 82 .dead)) (ej (cs.getD 106 .dead)) (cf .i64 (cs.getD 109 .dead)) (cf .i64 (cs.getD 110 .dead)) (iP .aa (cs.getD 112 .dead)) (iP .aa (cs.getD 113 .dead)) (iP .str (cs.getD 114 .dead))
def kU.cells(x:kU):List D:=[.int .i64 x.C2,.int .i64 x.N,.bool x.C1,.int .u32 x.F5]
def kU.of(cs:List D):kU:=(⟨(cs.getD 0 .dead).toInt,(cs.getD 1 .dead).toInt,(cs.getD 2 .dead).toBool,(cs.getD 3 .dead).toInt⟩:kU)
def de.cq(x:de)(s0 s1 s2 s3 s4 s5 s6 s7 s8 s9 BH:D):List D:=[.int .i64 x.A1.A4,.int .u32 x.A1.A0.B4.X.a0,.int .u32 x.A1.A0.B4.X.a1,.int .u32 x.A1.A0.B4.X.a2,.int .u32 x.A1.A0.B4.X.a3,.int .u32 x.A1.A0.B4.X.a4,.int .u32 x.A1.A0.B4.X.a5,.int .u32 x.A1.A0.B4.X.a6,.int .u32 x.A1.A0.B4.X.a7,.int .u32 x.A1.A0.B4.X.a8,.int .u32 x.A1.A0.B4.X.a9,.int .u32 x.A1.A0.B4.X.kJ,.int .u32 x.A1.A0.B4.X.kK,.int .u32 x.A1.A0.B4.X.a12,.int .u32 x.A1.A0.B4.X.kL,.int .u32 x.A1.A0.B4.X.kM,.int .u32 x.A1.A0.B4.X.kN,.int .u32 x.A1.A0.B4.Pc,.int .u32 x.A1.A0.B4.C3.a0,.int .u32 x.A1.A0.B4.C3.a1,.int .u32 x.A1.A0.B4.C3.a2,.int .u32 x.A1.A0.B4.C3.a3,.int .u32 x.A1.A0.B4.C3.a4,.int .u32 x.A1.A0.B4.C3.a5,.int .u32 x.A1.A0.B4.C3.a6,.int .u32 x.A1.A0.B4.C3.a7,s0,.str x.A1.A0.B2.D9,.bool x.A1.A0.B9.F2,.int .u32 x.A1.A0.B9.D4,.bool x.A1.A0.B9.E0,.int .u32 x.A1.A0.B7.ae,.int .u32 x.A1.A0.B7.C8,.int .u32 x.A1.A0.B7.Frame,.int .i64 x.A1.A0.B7.C7,.int .i64 x.A1.A0.B7.F7,.int .u32 x.A1.A0.B7.C5,.int .u32 x.A1.A0.B7.C6,.str x.A1.A0.B7.C9,.int .u32 x.A1.A0.D2.Frame,.int .u32 x.A1.A0.D2.F8,.bool x.A1.A0.D2.D1,.int .u32 x.A1.A0.D2.D3,.bool x.A1.A0.D2.C4,.int .u32 x.A1.A0.D2.G0,.int .u32 x.A1.A0.A7.A2,.int .u32 x.A1.A0.A7.D0,.int .u64 x.A1.A0.B6,.bool x.A1.A0.B3,.bool x.A1.A0.B5,s1,.int .i64 x.A1.B1.B8,.int .i64 x.A1.B1.D6,s2,s3,.int .u64 x.A1.D5,.int .i64 x.A2.A4,.int .u32 x.A2.A0.B4.X.a0,.int .u32 x.A2.A0.B4.X.a1,.int .u32 x.A2.A0.B4.X.a2,.int .u32 x.A2.A0.B4.X.a3,.int .u32 x.A2.A0.B4.X.a4,.int .u32 x.A2.A0.B4.X.a5,.int .u32 x.A2.A0.B4.X.a6,.int .u32 x.A2.A0.B4.X.a7,.int .u32 x.A2.A0.B4.X.a8,.int .u32 x.A2.A0.B4.X.a9,.int .u32 x.A2.A0.B4.X.kJ,.int .u32 x.A2.A0.B4.X.kK,.int .u32 x.A2.A0.B4.X.a12,.int .u32 x.A2.A0.B4.X.kL,.int .u32 x.A2.A0.B4.X.kM,.int .u32 x.A2.A0.B4.X.kN,.int .u32 x.A2.A0.B4.Pc,.int .u32 x.A2.A0.B4.C3.a0,.int .u32 x.A2.A0.B4.C3.a1,.int .u32 x.A2.A0.B4.C3.a2,.int .u32 x.A2.A0.B4.C3.a3,.int .u32 x.A2.A0.B4.C3.a4,.int .u32 x.A2.A0.B4.C3.a5,.int .u32 x.A2.A0.B4.C3.a6,.int .u32 x.A2.A0.B4.C3.a7,s4,.str x.A2.A0.B2.D9,.bool x.A2.A0.B9.F2,.int .u32 x.A2.A0.B9.D4,.bool x.A2.A0.B9.E0,.int .u32 x.A2.A0.B7.ae,.int .u32 x.A2.A0.B7.C8,.int .u32 x.A2.A0.B7.Frame,.int .i64 x.A2.A0.B7.C7,.int .i64 x.A2.A0.B7.F7,.int .u32 x.A2.A0.B7.C5,.int .u32 x.A2.A0.B7.C6,.str x.A2.A0.B7.C9,.int .u32 x.A2.A0.D2.Frame,.int .u32 x.A2.A0.D2.F8,.bool x.A2.A0.D2.D1,.int .u32 x.A2.A0.D2.D3,.bool x.A2.A0.D2.C4,.int .u32 x.A2.A0.D2.G0,.int .u32 x.A2.A0.A7.A2,.int .u32 x.A2.A0.A7.D0,.int .u64 x.A2.A0.B6,.bool x.A2.A0.B3,.bool x.A2.A0.B5,s5,.int .i64 x.A2.B1.B8,.int .i64 x.A2.B1.D6,s6,s7,.int .u64 x.A2.D5,s8,s9,BH,.int .u64 x.A9.D5,.int .i64 x.A9.D7]
def de.cells(x:de):List D:=de.cq x (.sl 1 (.ints .u32 x.A1.A0.Mem) false) (.sl 1 (.ag x.A1.B1.B0) false) (.sl 1 (.ints .i64 x.A1.A3) false) (.sl 1 (.ints .i64 x.A1.C0) false) (.sl 1 (.ints .u32 x.A2.A0.Mem) false) (.sl 1 (.ag x.A2.B1.B0) false) (.sl 1 (.ints .i64 x.A2.A3) false) (.sl 1 (.ints .i64 x.A2.C0) false) (.sl 54 (.ah .aa x.A6) false) (.sl 54 (.ah .aa x.C1) false) (.sl 1 (.ah .str x.A9.ae) false)
def de.iC(cs:List D)(s0:List Int)(s1:List Bool)(s2 s3 s4:List Int)(s5:List Bool)(s6 s7:List Int)(s8 s9:List fg)(BH:List (List UInt8)):de:=(⟨(⟨(cs.getD 0 .dead).toInt,(⟨(⟨(⟨(cs.getD 1 .dead).toInt,(cs.getD 2 .dead).toInt,(cs.getD 3 .dead).toInt,(cs.getD 4 .dead).toInt,(cs.getD 5 .dead).toInt,(cs.getD 6 .dead).toInt,(cs.getD 7 .dead).toInt,(cs.getD 8 .dead).toInt,(cs.getD 9 .dead).toInt,(cs.getD 10 .dead).toInt,(cs.getD 11 .dead).toInt,(cs.getD 12 .dead).toInt,(cs.getD 13 .dead).toInt,(cs.getD 14 .dead).toInt,(cs.getD 15 .dead).toInt,(cs.getD 16 .dead).toInt⟩:(iv Int)),(cs.getD 17 .dead).toInt,(⟨(cs.getD 18 .dead).toInt,(cs.getD 19 .dead).toInt,(cs.getD 20 .dead).toInt,(cs.getD 21 .dead).toInt,(cs.getD 22 .dead).toInt,(cs.getD 23 .dead).toInt,(cs.getD 24 .dead).toInt,(cs.getD 25 .dead).toInt⟩:(A8 Int))⟩:bq),s0,(⟨(cs.getD 27 .dead).toStr⟩:iN),(⟨(cs.getD 28 .dead).toBool,(cs.getD 29 .dead).toInt,(cs.getD 30 .dead).toBool⟩:iV),(⟨(cs.getD 31 .dead).toInt,(cs.getD 32 .dead).toInt,(cs.getD 33 .dead).toInt,(cs.getD 34 .dead).toInt,(cs.getD 35 .dead).toInt,(cs.getD 36 .dead).toInt,(cs.getD 37 .dead).toInt,(cs.getD 38 .dead).toStr⟩:fx),(⟨(cs.getD 39 .dead).toInt,(cs.getD 40 .dead).toInt,(cs.getD 41 .dead).toBool,(cs.getD 42 .dead).toInt,(cs.getD 43 .dead).toBool,(cs.getD 44 .dead).toInt⟩:gx),(⟨(cs.getD 45 .dead).toInt,(cs.getD 46 .dead).toInt⟩:gm),(cs.getD 47 .dead).toInt,(cs.getD 48 .dead).toBool,(cs.getD 49 .dead).toBool⟩:bc),(⟨s1,(cs.getD 51 .dead).toInt,(cs.getD 52 .dead).toInt⟩:gb),s2,s3,(cs.getD 55 .dead).toInt⟩:ia),(⟨(cs.getD 56 .dead).toInt,(⟨(⟨(⟨(cs.getD 57 .dead).toInt,(cs.getD 58 .dead).toInt,(cs.getD 59 .dead).toInt,(cs.getD 60 .dead).toInt,(cs.getD 61 .dead).toInt,(cs.getD 62 .dead).toInt,(cs.getD 63 .dead).toInt,(cs.getD 64 .dead).toInt,(cs.getD 65 .dead).toInt,(cs.getD 66 .dead).toInt,(cs.getD 67 .dead).toInt,(cs.getD 68 .dead).toInt,(cs.getD 69 .dead).toInt,(cs.getD 70 .dead).toInt,(cs.getD 71 .dead).toInt,(cs.getD 72 .dead).toInt⟩:(iv Int)),(cs.getD 73 .dead).toInt,(⟨(cs.getD 74 .dead).toInt,(cs.getD 75 .dead).toInt,(cs.getD 76 .dead).toInt,(cs.getD 77 .dead).toInt,(cs.getD 78 .dead).toInt,(cs.getD 79 .dead).toInt,(cs.getD 80 .dead).toInt,(cs.getD 81 .dead).toInt⟩:(A8 Int))⟩:bq),s4,(⟨(cs.getD 83 .dead).toStr⟩:iN),(⟨(cs.getD 84 .dead).toBool,(cs.getD 85 .dead).toInt,(cs.getD 86 .dead).toBool⟩:iV),(⟨(cs.getD 87 .dead).toInt,(cs.getD 88 .dead).toInt,(cs.getD 89 .dead).toInt,(cs.getD 90 .dead).toInt,(cs.getD 91 .dead).toInt,(cs.getD 92 .dead).toInt,(cs.getD 93 .dead).toInt,(cs.getD 94 .dead).toStr⟩:fx),(⟨(cs.getD 95 .dead).toInt,(cs.getD 96 .dead).toInt,(cs.getD 97 .dead).toBool,(cs.getD 98 .dead).toInt,(cs.getD 99 .dead).toBool,(cs.getD 100 .dead).toInt⟩:gx),(⟨(cs.getD 101 .dead).toInt,(cs.getD 102 .dead).toInt⟩:gm),(cs.getD 103 .dead).toInt,(cs.getD 104 .dead).toBool,(cs.getD 105 .dead).toBool⟩:bc),(⟨s5,(cs.getD 107 .dead).toInt,(cs.getD 108 .dead).toInt⟩:gb),s6,s7,(cs.getD 111 .dead).toInt⟩:ia),s8,s9,(⟨BH,(cs.getD 115 .dead).toInt,(cs.getD 116 .dead).toInt⟩:iO)⟩:de)
def de.of(cs:List D):de:=de.iC cs (cf .u32 (cs.getD 26 .dead)) (ej (cs.getD 50 .dead)) (cf .i64 (cs.getD 53 .dead)) (cf .i64 (cs.getD 54 .dead)) (cf .u32 (cs.getD 82 .dead)) (ej (cs.getD 106 .dead)) (cf .i64 (cs.getD 109 .dead)) (cf .i64 (cs.getD 110 .dead)) (iP .aa (cs.getD 112 .dead)) (iP .aa (cs.getD 113 .dead)) (iP .str (cs.getD 114 .dead))
def tB.cells(x:tB):List D:=[.int .i64 x.Ad,.int .i64 x.nE]
def tB.of(cs:List D):tB:=(⟨(cs.getD 0 .dead).toInt,(cs.getD 1 .dead).toInt⟩:tB)
def lj.cells(x:lj):List D:=[.int .i64 x.Frame,.str x.F1]
def lj.of(cs:List D):lj:=(⟨(cs.getD 0 .dead).toInt,(cs.getD 1 .dead).toStr⟩:lj)
def lK.cells(x:lK):List D:=[.int .i64 x.C2,.int .i64 x.D8,.int .i64 x.F9,.int .u32 x.Value]
def lK.of(cs:List D):lK:=(⟨(cs.getD 0 .dead).toInt,(cs.getD 1 .dead).toInt,(cs.getD 2 .dead).toInt,(cs.getD 3 .dead).toInt⟩:lK)
def nF.cells(x:nF):List D:=[.int .i64 x.kz,.int .i64 x.num,.str x.label]
def nF.of(cs:List D):nF:=(⟨(cs.getD 0 .dead).toInt,(cs.getD 1 .dead).toInt,(cs.getD 2 .dead).toStr⟩:nF)
def kp.cq(x:kp)(s0:D):List D:=[.str x.ea,.int .i64 x.op,s0,.int .i64 x.F4,.int .i64 x.at_,.int .i64 x.size]
def kp.cells(x:kp):List D:=kp.cq x (.sl 3 (.ah .ax x.l) false)
def kp.iC(cs:List D)(s0:List nF):kp:=(⟨(cs.getD 0 .dead).toStr,(cs.getD 1 .dead).toInt,s0,(cs.getD 3 .dead).toInt,(cs.getD 4 .dead).toInt,(cs.getD 5 .dead).toInt⟩:kp)
def kp.of(cs:List D):kp:=kp.iC cs (iP .ax (cs.getD 2 .dead))
def gw.cells(x:gw):List D:=[.int .i64 x.Op,.int .i64 x.A,.int .i64 x.B,.int .i64 x.C,.int .i32 x.bw]
def gw.of(cs:List D):gw:=(⟨(cs.getD 0 .dead).toInt,(cs.getD 1 .dead).toInt,(cs.getD 2 .dead).toInt,(cs.getD 3 .dead).toInt,(cs.getD 4 .dead).toInt⟩:gw)
def wg.cells(x:wg):List D:=[.int .i64 x.C2,.int .u32 x.N,.str x.F1]
def wg.of(cs:List D):wg:=(⟨(cs.getD 0 .dead).toInt,(cs.getD 1 .dead).toInt,(cs.getD 2 .dead).toStr⟩:wg)
def pK.cells(x:pK):List D:=[.int .u64 x.At,.int .i64 x.Event.C2,.int .u32 x.Event.N,.str x.Event.F1]
def pK.of(cs:List D):pK:=(⟨(cs.getD 0 .dead).toInt,(⟨(cs.getD 1 .dead).toInt,(cs.getD 2 .dead).toInt,(cs.getD 3 .dead).toStr⟩:wg)⟩:pK)
def il.cells(x:il):List D:=[.int .i64 x.C2,.int .u64 x.At,.int .u32 x.C8,.str x.F1]
def il.of(cs:List D):il:=(⟨(cs.getD 0 .dead).toInt,(cs.getD 1 .dead).toInt,(cs.getD 2 .dead).toInt,(cs.getD 3 .dead).toStr⟩:il)
def oi.cells(x:oi):List D:=[.str x.Name,.int .u32 x.Addr]
def oi.of(cs:List D):oi:=(⟨(cs.getD 0 .dead).toStr,(cs.getD 1 .dead).toInt⟩:oi)
def rI.cells(x:rI):List D:=[.int .u32 x.Addr,.int .u32 x.G2,.int .i64 x.G1]
def rI.of(cs:List D):rI:=(⟨(cs.getD 0 .dead).toInt,(cs.getD 1 .dead).toInt,(cs.getD 2 .dead).toInt⟩:rI)
def ll.cells(x:ll):List D:=[.int .i64 x.kind,.str x.F3,.bool x.Ae]
def ll.of(cs:List D):ll:=(⟨(cs.getD 0 .dead).toInt,(cs.getD 1 .dead).toStr,(cs.getD 2 .dead).toBool⟩:ll)
def Af.cells(x:Af):List D:=[.bool x.a,.bool x.b,.bool x.c,.int .i32 x.low,.int .i32 x.F6]
def Af.of(cs:List D):Af:=(⟨(cs.getD 0 .dead).toBool,(cs.getD 1 .dead).toBool,(cs.getD 2 .dead).toBool,(cs.getD 3 .dead).toInt,(cs.getD 4 .dead).toInt⟩:Af)
def RK.size:RK->Nat
 |.bu=>4
 |.aa=>54
 |.str=>1
 |.bz=>4
 |.bn=>2
 |.dm=>2
 |.ak=>6
 |.ax=>3
 |.fc=>4
 |.av=>3
def DI:CT->D->D
 |.int k,d=>.int k d.toInt
 |.bool,d=>.bool d.toBool
 |.str,d=>.str d.toStr
 |.ints k,d=>.sl 1 (.ints k (cf k d)) false
 |.ag,d=>.sl 1 (.ag (ej d)) false
 |.ah k,d=>.sl k.size (.ah k (iP k d)) false
 |.row i,_=>.all i
 |.nil,_=>.sl 0 (.gen []) false
 |.Ic,_=>.c7
 |.self i,_=>.gk i
 |.pt i o f,_=>.ptr i o f
 |.gj f cs,_=>.gj f cs
def wh:List CT->List D->Nat->List D
 |[],_,_=>[]
 |t::ts,cs,j=>DI t (cs.getD j .dead)::wh ts cs (j+1)
def bq.sig:List CT:=[.int .u32,.int .u32,.int .u32,.int .u32,.int .u32,.int .u32,.int .u32,.int .u32,.int .u32,.int .u32,.int .u32,.int .u32,.int .u32,.int .u32,.int .u32,.int .u32,.int .u32,.int .u32,.int .u32,.int .u32,.int .u32,.int .u32,.int .u32,.int .u32,.int .u32]
def iN.sig:List CT:=[.str]
def iV.sig:List CT:=[.bool,.int .u32,.bool]
def fx.sig:List CT:=[.int .u32,.int .u32,.int .u32,.int .i64,.int .i64,.int .u32,.int .u32,.str]
def gx.sig:List CT:=[.int .u32,.int .u32,.bool,.int .u32,.bool,.int .u32]
def gm.sig:List CT:=[.int .u32,.int .u32]
def bc.ig(s0:CT):List CT:=[.int .u32,.int .u32,.int .u32,.int .u32,.int .u32,.int .u32,.int .u32,.int .u32,.int .u32,.int .u32,.int .u32,.int .u32,.int .u32,.int .u32,.int .u32,.int .u32,.int .u32,.int .u32,.int .u32,.int .u32,.int .u32,.int .u32,.int .u32,.int .u32,.int .u32,s0,.str,.bool,.int .u32,.bool,.int .u32,.int .u32,.int .u32,.int .i64,.int .i64,.int .u32,.int .u32,.str,.int .u32,.int .u32,.bool,.int .u32,.bool,.int .u32,.int .u32,.int .u32,.int .u64,.bool,.bool]
def bc.sig:List CT:=bc.ig (.ints .u32)
def gb.ig(s0:CT):List CT:=[s0,.int .i64,.int .i64]
def gb.sig:List CT:=gb.ig (.ag)
def ia.ig(s0 s1 s2 s3:CT):List CT:=[.int .i64,.int .u32,.int .u32,.int .u32,.int .u32,.int .u32,.int .u32,.int .u32,.int .u32,.int .u32,.int .u32,.int .u32,.int .u32,.int .u32,.int .u32,.int .u32,.int .u32,.int .u32,.int .u32,.int .u32,.int .u32,.int .u32,.int .u32,.int .u32,.int .u32,.int .u32,s0,.str,.bool,.int .u32,.bool,.int .u32,.int .u32,.int .u32,.int .i64,.int .i64,.int .u32,.int .u32,.str,.int .u32,.int .u32,.bool,.int .u32,.bool,.int .u32,.int .u32,.int .u32,.int .u64,.bool,.bool,s1,.int .i64,.int .i64,s2,s3,.int .u64]
def ia.sig:List CT:=ia.ig (.ints .u32) (.ag) (.ints .i64) (.ints .i64)
def iO.ig(s0:CT):List CT:=[s0,.int .u64,.int .i64]
def iO.sig:List CT:=iO.ig (.ah .str)
def fg.ig(s0 s1:CT):List CT:=[.int .i64,.int .i64,.int .i64,.str,.int .u32,.int .u32,.int .u32,.int .u32,.int .u32,.int .u32,.int .u32,.int .u32,.int .u32,.int .u32,.int .u32,.int .u32,.int .u32,.int .u32,.int .u32,.int .u32,.int .u32,.int .u32,.int .u32,.int .u32,.int .u32,.int .u32,.int .u32,.int .u32,.int .u32,s0,.str,.bool,.int .u32,.bool,.int .u32,.int .u32,.int .u32,.int .i64,.int .i64,.int .u32,.int .u32,.str,.int .u32,.int .u32,.bool,.int .u32,.bool,.int .u32,.int .u32,.int .u32,.int .u64,.bool,.bool,s1]
def fg.sig:List CT:=fg.ig (.ints .u32) (.ints .i64)
def dr.ig(s0 s1 s2 s3 s4 s5 s6 s7 s8 s9 BH:CT):List CT:=[.int .i64,.int .u32,.int .u32,.int .u32,.int .u32,.int .u32,.int .u32,.int .u32,.int .u32,.int .u32,.int .u32,.int .u32,.int .u32,.int .u32,.int .u32,.int .u32,.int .u32,.int .u32,.int .u32,.int .u32,.int .u32,.int .u32,.int .u32,.int .u32,.int .u32,.int .u32,s0,.str,.bool,.int .u32,.bool,.int .u32,.int .u32,.int .u32,.int .i64,.int .i64,.int .u32,.int .u32,.str,.int .u32,.int .u32,.bool,.int .u32,.bool,.int .u32,.int .u32,.int .u32,.int .u64,.bool,.bool,s1,.int .i64,.int .i64,s2,s3,.int .u64,.int .i64,.int .u32,.int .u32,.int .u32,.int .u32,.int .u32,.int .u32,.int .u32,.int .u32,.int .u32,.int .u32,.int .u32,.int .u32,.int .u32,.int .u32,.int .u32,.int .u32,.int .u32,.int .u32,.int .u32,.int .u32,.int .u32,.int .u32,.int .u32,.int .u32,.int .u32,s4,.str,.bool,.int .u32,.bool,.int .u32,.int .u32,.int .u32,.int .i64,.int .i64,.int .u32,.int .u32,.str,.int .u32,.int .u32,.bool,.int .u32,.bool,.int .u32,.int .u32,.int .u32,.int .u64,.bool,.bool,s5,.int .i64,.int .i64,s6,s7,.int .u64,s8,s9,BH,.int .u64,.int .i64]
def dr.sig:List CT:=dr.ig (.ints .u32) (.ag) (.ints .i64) (.ints .i64) (.ints .u32) (.ag) (.ints .i64) (.ints .i64) (.ah .aa) (.ah .aa) (.ah .str)
def kU.sig:List CT:=[.int .i64,.int .i64,.bool,.int .u32]
def de.ig(s0 s1 s2 s3 s4 s5 s6 s7 s8 s9 BH:CT):List CT:=[.int .i64,.int .u32,.int .u32,.int .u32,.int .u32,.int .u32,.int .u32,.int .u32,.int .u32,.int .u32,.int .u32,.int .u32,.int .u32,.int .u32,.int .u32,.int .u32,.int .u32,.int .u32,.int .u32,.int .u32,.int .u32,.int .u32,.int .u32,.int .u32,.int .u32,.int .u32,s0,.str,.bool,.int .u32,.bool,.int .u32,.int .u32,.int .u32,.int .i64,.int .i64,.int .u32,.int .u32,.str,.int .u32,.int .u32,.bool,.int .u32,.bool,.int .u32,.int .u32,.int .u32,.int .u64,.bool,.bool,s1,.int .i64,.int .i64,s2,s3,.int .u64,.int .i64,.int .u32,.int .u32,.int .u32,.int .u32,.int .u32,.int .u32,.int .u32,.int .u32,.int .u32,.int .u32,.int .u32,.int .u32,.int .u32,.int .u32,.int .u32,.int .u32,.int .u32,.int .u32,.int .u32,.int .u32,.int .u32,.int .u32,.int .u32,.int .u32,.int .u32,s4,.str,.bool,.int .u32,.bool,.int .u32,.int .u32,.int .u32,.int .i64,.int .i64,.int .u32,.int .u32,.str,.int .u32,.int .u32,.bool,.int .u32,.bool,.int .u32,.int .u32,.int .u32,.int .u64,.bool,.bool,s5,.int .i64,.int .i64,s6,s7,.int .u64,s8,s9,BH,.int .u64,.int .i64]
def de.sig:List CT:=de.ig (.ints .u32) (.ag) (.ints .i64) (.ints .i64) (.ints .u32) (.ag) (.ints .i64) (.ints .i64) (.ah .aa) (.ah .aa) (.ah .str)
def tB.sig:List CT:=[.int .i64,.int .i64]
def lj.sig:List CT:=[.int .i64,.str]
def lK.sig:List CT:=[.int .i64,.int .i64,.int .i64,.int .u32]
def nF.sig:List CT:=[.int .i64,.int .i64,.str]
def kp.ig(s0:CT):List CT:=[.str,.int .i64,s0,.int .i64,.int .i64,.int .i64]
def kp.sig:List CT:=kp.ig (.ah .ax)
def gw.sig:List CT:=[.int .i64,.int .i64,.int .i64,.int .i64,.int .i32]
def wg.sig:List CT:=[.int .i64,.int .u32,.str]
def pK.sig:List CT:=[.int .u64,.int .i64,.int .u32,.str]
def il.sig:List CT:=[.int .i64,.int .u64,.int .u32,.str]
def oi.sig:List CT:=[.str,.int .u32]
def rI.sig:List CT:=[.int .u32,.int .u32,.int .i64]
def ll.sig:List CT:=[.int .i64,.str,.bool]
def Af.sig:List CT:=[.bool,.bool,.bool,.int .i32,.int .i32]
def RK.sig:RK->List CT
 |.bu=>kU.sig
 |.aa=>fg.sig
 |.str=>[.str]
 |.bz=>il.sig
 |.bn=>lj.sig
 |.dm=>oi.sig
 |.ak=>kp.sig
 |.ax=>nF.sig
 |.fc=>pK.sig
 |.av=>ll.sig
def RK.cells:(k:RK)->RK.T k->List D
 |.bu,x=>kU.cells x
 |.aa,x=>fg.cells x
 |.str,x=>[.str x]
 |.bz,x=>il.cells x
 |.bn,x=>lj.cells x
 |.dm,x=>oi.cells x
 |.ak,x=>kp.cells x
 |.ax,x=>nF.cells x
 |.fc,x=>pK.cells x
 |.av,x=>ll.cells x
def RK.of:(k:RK)->List D->RK.T k
 |.bu,cs=>kU.of cs
 |.aa,cs=>fg.of cs
 |.str,cs=>(cs.getD 0 .dead).toStr
 |.bz,cs=>il.of cs
 |.bn,cs=>lj.of cs
 |.dm,cs=>oi.of cs
 |.ak,cs=>kp.of cs
 |.ax,cs=>nF.of cs
 |.fc,cs=>pK.of cs
 |.av,cs=>ll.of cs
theorem RK.BI(k:RK)(cs:List D):k.cells (k.of cs)=wh k.sig cs 0:=by cases k<;>kernel_rfl
theorem RK.oj(k:RK)(x:RK.T k):wh k.sig (k.cells x) 0=k.cells x:=by cases k<;>kernel_rfl
theorem RK.tW(k:RK):k.sig.length=k.size:=by cases k<;>rfl
