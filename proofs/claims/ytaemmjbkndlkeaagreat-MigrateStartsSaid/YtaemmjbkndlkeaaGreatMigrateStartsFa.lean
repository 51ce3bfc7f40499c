import Derived.WalkKit
import Derived.KernelRfl
set_option linter.all false
namespace Go.GD
variable {m n:Nat}{p:Prop}
theorem oY{p:Prop}[Decidable p](h:decide p=true):p:=of_decide_eq_true h
theorem oN[Decidable p](h:decide p=false):¬p:=of_decide_eq_false h
theorem dY[Decidable p](h:p):decide p=true:=decide_eq_true h
theorem dN[Decidable p](h:¬p):decide p=false:=decide_eq_false h
theorem bE(h:Nat.beq n m=true):n=m:=Nat.eq_of_beq_eq_true h
theorem lE(h:Nat.ble n m=true):n<=m:=Nat.le_of_ble_eq_true h
theorem aE(a b:Bool):((a&&b)=true)=(a=true/\b=true):=Bool.and_eq_true a b
theorem lA{α:Type}{a b:List α}:(a++b).length=a.length+b.length:=List.length_append
structure A5(α:Type) where
 (a0 a1 a2 a3 a4:α)
 deriving DecidableEq,Inhabited
def A5.l{α:Type}(x:A5 α):List α:=[x.a0,x.a1,x.a2,x.a3,x.a4]
def A5.of{α:Type}(z:α)(l:List α):A5 α:=⟨l.getD 0 z,l.getD 1 z,l.getD 2 z,l.getD 3 z,l.getD 4 z⟩
structure A8(α:Type) where
 (a0 a1 a2 a3 a4 a5 a6 a7:α)
 deriving DecidableEq,Inhabited
def A8.l{α:Type}(x:A8 α):List α:=[x.a0,x.a1,x.a2,x.a3,x.a4,x.a5,x.a6,x.a7]
def A8.of{α:Type}(z:α)(l:List α):A8 α:=⟨l.getD 0 z,l.getD 1 z,l.getD 2 z,l.getD 3 z,l.getD 4 z,l.getD 5 z,l.getD 6 z,l.getD 7 z⟩
structure iI(α:Type) where
 (a0 a1 a2 a3 a4 a5 a6 a7 a8 a9 kO kP a12 kQ kR kS:α)
 deriving DecidableEq,Inhabited
def iI.l{α:Type}(x:iI α):List α:=[x.a0,x.a1,x.a2,x.a3,x.a4,x.a5,x.a6,x.a7,x.a8,x.a9,x.kO,x.kP,x.a12,x.kQ,x.kR,x.kS]
def iI.of{α:Type}(z:α)(l:List α):iI α:=⟨l.getD 0 z,l.getD 1 z,l.getD 2 z,l.getD 3 z,l.getD 4 z,l.getD 5 z,l.getD 6 z,l.getD 7 z,l.getD 8 z,l.getD 9 z,l.getD 10 z,l.getD 11 z,l.getD 12 z,l.getD 13 z,l.getD 14 z,l.getD 15 z⟩
structure bq where
 X:(iI Int)
 Pc:Int
 C3:(A8 Int)
 deriving DecidableEq,Inhabited
structure iV where
 D9:(List UInt8)
 deriving DecidableEq,Inhabited
structure jc where
 F1:Bool
 D3:Int
 E0:Bool
 deriving DecidableEq,Inhabited
structure gh where
 ab:Int
 C8:Int
 Frame:Int
 C9:Int
 F5:Int
 C5:Int
 C6:Int
 C7:(List UInt8)
 deriving DecidableEq,Inhabited
structure ik where
 Frame:Int
 F6:Int
 D1:Bool
 D2:Int
 C4:Bool
 F9:Int
 deriving DecidableEq,Inhabited
structure gx where
 A2:Int
 D0:Int
 deriving DecidableEq,Inhabited
structure bg where
 B4:bq
 Mem:(List Int)
 B1:iV
 B8:jc
 B7:gh
 D4:ik
 A6:gx
 B6:Int
 B2:Bool
 B5:Bool
 deriving DecidableEq,Inhabited
structure fu where
 B0:(List Bool)
 B9:Int
 D7:Int
 deriving DecidableEq,Inhabited
structure ia where
 A4:Int
 A0:bg
 B3:fu
 A3:(List Int)
 C1:(List Int)
 D5:Int
 deriving DecidableEq,Inhabited
structure gj where
 ab:(List (List UInt8))
 D5:Int
 D6:Int
 deriving DecidableEq,Inhabited
structure fi where
 C2:Int
 B9:Int
 Frame:Int
 F0:(List UInt8)
 A0:bg
 A3:(List Int)
 deriving DecidableEq,Inhabited
structure dv where
 A1:ia
 A2:ia
 A7:(List fi)
 C0:(List fi)
 A9:gj
 deriving DecidableEq,Inhabited
structure kT where
 C2:Int
 N:Int
 C0:Bool
 F8:Int
 deriving DecidableEq,Inhabited
structure df where
 A1:ia
 A2:ia
 A7:(List fi)
 C0:(List fi)
 A9:gj
 deriving DecidableEq,Inhabited
structure tA where
 w9:Int
 nD:Int
 deriving DecidableEq,Inhabited
structure lh where
 Frame:Int
 F0:(List UInt8)
 deriving DecidableEq,Inhabited
structure lD where
 C2:Int
 D8:Int
 F7:Int
 Value:Int
 deriving DecidableEq,Inhabited
structure nE where
 kC:Int
 num:Int
 label:(List UInt8)
 deriving DecidableEq,Inhabited
structure kz where
 ed:(List UInt8)
 op:Int
 l:(List nE)
 F3:Int
 at_:Int
 size:Int
 deriving DecidableEq,Inhabited
structure ib where
 Op:Int
 A:Int
 B:Int
 C:Int
 bz:Int
 deriving DecidableEq,Inhabited
structure u9 where
 C2:Int
 N:Int
 F0:(List UInt8)
 deriving DecidableEq,Inhabited
structure pI where
 At:Int
 Event:u9
 deriving DecidableEq,Inhabited
structure ir where
 C2:Int
 At:Int
 C8:Int
 F0:(List UInt8)
 deriving DecidableEq,Inhabited
structure oa where
 Name:(List UInt8)
 Addr:Int
 deriving DecidableEq,Inhabited
structure rG where
 Addr:Int
 G1:Int
 G0:Int
 deriving DecidableEq,Inhabited
structure lj where
 kind:Int
 F2:(List UInt8)
 Aa:Bool
 deriving DecidableEq,Inhabited
structure Ab where
 a:Bool
 b:Bool
 c:Bool
 low:Int
 F4:Int
 deriving DecidableEq,Inhabited
inductive RK where
 |bw|aa|str|cf|bn|dm|ak|ax|fg|aw
 deriving DecidableEq
@[reducible] def RK.T:RK->Type
 |.bw=>kT
 |.aa=>fi
 |.str=>(List UInt8)
 |.cf=>ir
 |.bn=>lh
 |.dm=>oa
 |.ak=>kz
 |.ax=>nE
 |.fg=>pI
 |.aw=>lj
def RK.dx:(k:RK)->RK.T k
 |.bw=>(default:kT)
 |.aa=>(default:fi)
 |.str=>(default:List UInt8)
 |.cf=>(default:ir)
 |.bn=>(default:lh)
 |.dm=>(default:oa)
 |.ak=>(default:kz)
 |.ax=>(default:nE)
 |.fg=>(default:pI)
 |.aw=>(default:lj)
def RK.Nt:Nat->Option RK
 |61=>some .bw
 |80=>some .aa
 |9=>some .str
 |232=>some .cf
 |146=>some .bn
 |243=>some .dm
 |177=>some .ak
 |179=>some .ax
 |193=>some .fg
 |290=>some .aw
 |_=>none
end Go.GD
namespace Go.GD
open Go
instance (k:RK):Inhabited (RK.T k):=⟨RK.dx k⟩
mutual
inductive D where
 |bool (b:Bool)
 |int (k:IntKind) (n:Int)
 |str (s:List UInt8)
 |sl (sz:Nat) (es:ai) (fr:Bool)
 |all (r:Nat)
 |own (r o n:Nat)
 |ptr (r i off:Nat)
 |pa (r i off len:Nat) (k:Option IntKind) (n:Nat)
 |iu (sz:Nat) (es:ai) (i off:Nat)
 |iz
 |c8
 |emp
 |mP (es:ai)
 |dead
 |gm (f:Nat) (cs:List iE)
 |gq (r:Nat)
 |jJ
 |agg (cs:List D)
 |dw (ds:List D)
inductive ai where
 |gen (es:List (List D))
 |ints (k:IntKind) (l:List Int)
 |ag (l:List Bool)
 |ah (k:RK) (l:List (RK.T k))
inductive iE where
 |ptr (r i off:Nat)
 |int (k:IntKind) (n:Int)
 |arr (r:Nat)
 |sl (sz:Nat) (es:ai) (fr:Bool)
 |fn (f:Nat) (ps:List (Nat×Nat×Nat))
end
instance:Inhabited D:=⟨.dead⟩
instance:Inhabited ai:=⟨.gen []⟩
def Ig(p:Nat×Nat×Nat):iE:=.ptr p.1 p.2.1 p.2.2
def iE.d:iE->D|.ptr r i off=>.ptr r i off|.int k n=>.int k n|.arr r=>.all r|.sl a b c=>.sl a b c|.fn f ps=>.gm f (ps.map Ig)
def D.isInt(k:IntKind):D->Bool|.int j _=>decide (j=k)|_=>false
def D.toInt:D->Int|.int _ n=>n|_=>0
def D.isBool:D->Bool|.bool _=>true|_=>false
def D.toBool:D->Bool|.bool b=>b|_=>false
def D.isStr:D->Bool|.str _=>true|_=>false
def D.toStr:D->List UInt8|.str s=>s|_=>[]
def Ge(k k':RK)(l:List (RK.T k)):Option (List (RK.T k')):=if h:k=k' then some (h▸l)else none
theorem WD(k:RK)(l:List (RK.T k)):Ge k k l=some l:=by simp[Ge]
theorem WE{k k':RK}{l:List (RK.T k)}{m:List (RK.T k')}(h:Ge k k' l=some m):∃e:k=k',e▸l=m:=by
 unfold Ge at h
 split at h
 ·rename_i e;cases h;exact⟨e,rfl⟩
 ·cases h
def ai.toI(k:IntKind):ai->Option (List Int)
 |.ints k' l=>match decide (k'=k)with|true=>some l|false=>none
 |.gen []=>some []
 |_=>none
def ai.toB:ai->Option (List Bool)
 |.ag l=>some l
 |.gen []=>some []
 |_=>none
def ai.toR(k:RK):ai->Option (List (RK.T k))
 |.ah k' l=>Ge k' k l
 |.gen []=>some []
 |_=>none
inductive CT where|int(k:IntKind)|bool|str|ints(k:IntKind)|ag|ah(k:RK)|row(i:Nat)|nil|Ih|self(i:Nat)|pt(i o f:Nat)|gm(f:Nat)(cs:List iE)
def cj(k:IntKind):D->List Int|.sl _ E _=>(match E.toI k with|some l=>l|none=>[])|_=>[]
def ey:D->List Bool|.sl _ E _=>(match E.toB with|some l=>l|none=>[])|_=>[]
def iU(k:RK):D->List (RK.T k)|.sl _ E _=>(match E.toR k with|some l=>l|none=>[])|_=>[]
def bq.cells(x:bq):List D:=[.int .u32 x.X.a0,.int .u32 x.X.a1,.int .u32 x.X.a2,.int .u32 x.X.a3,.int .u32 x.X.a4,.int .u32 x.X.a5,.int .u32 x.X.a6,.int .u32 x.X.a7,.int .u32 x.X.a8,.int .u32 x.X.a9,.int .u32 x.X.kO,.int .u32 x.X.kP,.int .u32 x.X.a12,.int .u32 x.X.kQ,.int .u32 x.X.kR,.int .u32 x.X.kS,.int .u32 x.Pc,.int .u32 x.C3.a0,.int .u32 x.C3.a1,.int .u32 x.C3.a2,.int .u32 x.C3.a3,.int .u32 x.C3.a4,.int .u32 x.C3.a5,.int .u32 x.C3.a6,.int .u32 x.C3.a7]
def bq.of(cs:List D):bq:=(⟨(⟨(cs.getD 0 .dead).toInt,(cs.getD 1 .dead).toInt,(cs.getD 2 .dead).toInt,(cs.getD 3 .dead).toInt,(cs.getD 4 .dead).toInt,(cs.getD 5 .dead).toInt,(cs.getD 6 .dead).toInt,(cs.getD 7 .dead).toInt,(cs.getD 8 .dead).toInt,(cs.getD 9 .dead).toInt,(cs.getD 10 .dead).toInt,(cs.getD 11 .dead).toInt,(cs.getD 12 .dead).toInt,(cs.getD 13 .dead).toInt,(cs.getD 14 .dead).toInt,(cs.getD 15 .dead).toInt⟩:(iI Int)),(cs.getD 16 .dead).toInt,(⟨(cs.getD 17 .dead).toInt,(cs.getD 18 .dead).toInt,(cs.getD 19 .dead).toInt,(cs.getD 20 .dead).toInt,(cs.getD 21 .dead).toInt,(cs.getD 22 .dead).toInt,(cs.getD 23 .dead).toInt,(cs.getD 24 .dead).toInt⟩:(A8 Int))⟩:bq)
def iV.cells(x:iV):List D:=[.str x.D9]
def iV.of(cs:List D):iV:=(⟨(cs.getD 0 .dead).toStr⟩:iV)
def jc.cells(x:jc):List D:=[.bool x.F1,.int .u32 x.D3,.bool x.E0]
def jc.of(cs:List D):jc:=(⟨(cs.getD 0 .dead).toBool,(cs.getD 1 .dead).toInt,(cs.getD 2 .dead).toBool⟩:jc)
def gh.cells(x:gh):List D:=[.int .u32 x.ab,.int .u32 x.C8,.int .u32 x.Frame,.int .i64 x.C9,.int .i64 x.F5,.int .u32 x.C5,.int .u32 x.C6,.str x.C7]
def gh.of(cs:List D):gh:=(⟨(cs.getD 0 .dead).toInt,(cs.getD 1 .dead).toInt,(cs.getD 2 .dead).toInt,(cs.getD 3 .dead).toInt,(cs.getD 4 .dead).toInt,(cs.getD 5 .dead).toInt,(cs.getD 6 .dead).toInt,(cs.getD 7 .dead).toStr⟩:gh)
def ik.cells(x:ik):List D:=[.int .u32 x.Frame,.int .u32 x.F6,.bool x.D1,.int .u32 x.D2,.bool x.C4,.int .u32 x.F9]
def ik.of(cs:List D):ik:=(⟨(cs.getD 0 .dead).toInt,(cs.getD 1 .dead).toInt,(cs.getD 2 .dead).toBool,(cs.getD 3 .dead).toInt,(cs.getD 4 .dead).toBool,(cs.getD 5 .dead).toInt⟩:ik)
def gx.cells(x:gx):List D:=[.int .u32 x.A2,.int .u32 x.D0]
def gx.of(cs:List D):gx:=(⟨(cs.getD 0 .dead).toInt,(cs.getD 1 .dead).toInt⟩:gx)
def bg.cq(x:bg)(s0:D):List D:=[.int .u32 x.B4.X.a0,.int .u32 x.B4.X.a1,.int .u32 x.B4.X.a2,.int .u32 x.B4.X.a3,.int .u32 x.B4.X.a4,.int .u32 x.B4.X.a5,.int .u32 x.B4.X.a6,.int .u32 x.B4.X.a7,.int .u32 x.B4.X.a8,.int .u32 x.B4.X.a9,.int .u32 x.B4.X.kO,.int .u32 x.B4.X.kP,.int .u32 x.B4.X.a12,.int .u32 x.B4.X.kQ,.int .u32 x.B4.X.kR,.int .u32 x.B4.X.kS,.int .u32 x.B4.Pc,.int .u32 x.B4.C3.a0,.int .u32 x.B4.C3.a1,.int .u32 x.B4.C3.a2,.int .u32 x.B4.C3.a3,.int .u32 x.B4.C3.a4,.int .u32 x.B4.C3.a5,.int .u32 x.B4.C3.a6,.int .u32 x.B4.C3.a7,s0,.str x.B1.D9,.bool x.B8.F1,.int .u32 x.B8.D3,.bool x.B8.E0,.int .u32 x.B7.ab,.int .u32 x.B7.C8,.int .u32 x.B7.Frame,.int .i64 x.B7.C9,.int .i64 x.B7.F5,.int .u32 x.B7.C5,.int .u32 x.B7.C6,.str x.B7.C7,.int .u32 x.D4.Frame,.int .u32 x.D4.F6,.bool x.D4.D1,.int .u32 x.D4.D2,.bool x.D4.C4,.int .u32 x.D4.F9,.int .u32 x.A6.A2,.int .u32 x.A6.D0,.int .u64 x.B6,.bool x.B2,.bool x.B5]
def bg.cells(x:bg):List D:=bg.cq x (.sl 1 (.ints .u32 x.Mem) false)
def bg.iF(cs:List D)(s0:List Int):bg:=(⟨(⟨(⟨(cs.getD 0 .dead).toInt,(cs.getD 1 .dead).toInt,(cs.getD 2 .dead).toInt,(cs.getD 3 .dead).toInt,(cs.getD 4 .dead).toInt,(cs.getD 5 .dead).toInt,(cs.getD 6 .dead).toInt,(cs.getD 7 .dead).toInt,(cs.getD 8 .dead).toInt,(cs.getD 9 .dead).toInt,(cs.getD 10 .dead).toInt,(cs.getD 11 .dead).toInt,(cs.getD 12 .dead).toInt,(cs.getD 13 .dead).toInt,(cs.getD 14 .dead).toInt,(cs.getD 15 .dead).toInt⟩:(iI Int)),(cs.getD 16 .dead).toInt,(⟨(cs.getD 17 .dead).toInt,(cs.getD 18 .dead).toInt,(cs.getD 19 .dead).toInt,(cs.getD 20 .dead).toInt,(cs.getD 21 .dead).toInt,(cs.getD 22 .dead).toInt,(cs.getD 23 .dead).toInt,(cs.getD 24 .dead).toInt⟩:(A8 Int))⟩:bq),s0,(⟨(cs.getD 26 .dead).toStr⟩:iV),(⟨(cs.getD 27 .dead).toBool,(cs.getD 28 .dead).toInt,(cs.getD 29 .dead).toBool⟩:jc),(⟨(cs.getD 30 .dead).toInt,(cs.getD 31 .dead).toInt,(cs.getD 32 .dead).toInt,(cs.getD 33 .dead).toInt,(cs.getD 34 .dead).toInt,(cs.getD 35 .dead).toInt,(cs.getD 36 .dead).toInt,(cs.getD 37 .dead).toStr⟩:gh),(⟨(cs.getD 38 .dead).toInt,(cs.getD 39 .dead).toInt,(cs.getD 40 .dead).toBool,(cs.getD 41 .dead).toInt,(cs.getD 42 .dead).toBool,(cs.getD 43 .dead).toInt⟩:ik),(⟨(cs.getD 44 .dead).toInt,(cs.getD 45 .dead).toInt⟩:gx),(cs.getD 46 .dead).toInt,(cs.getD 47 .dead).toBool,(cs.getD 48 .dead).toBool⟩:bg)
def bg.of(cs:List D):bg:=bg.iF cs (cj .u32 (cs.getD 25 .dead))
def fu.cq(x:fu)(s0:D):List D:=[s0,.int .i64 x.B9,.int .i64 x.D7]
def fu.cells(x:fu):List D:=fu.cq x (.sl 1 (.ag x.B0) false)
def fu.iF(cs:List D)(s0:List Bool):fu:=(⟨s0,(cs.getD 1 .dead).toInt,(cs.getD 2 .dead).toInt⟩:fu)
def fu.of(cs:List D):fu:=fu.iF cs (ey (cs.getD 0 .dead))
def ia.cq(x:ia)(s0 s1 s2 s3:D):List D:=[.int .i64 x.A4,.int .u32 x.A0.B4.X.a0,.int .u32 x.A0.B4.X.a1,.int .u32 x.A0.B4.X.a2,.int .u32 x.A0.B4.X.a3,.int .u32 x.A0.B4.X.a4,.int .u32 x.A0.B4.X.a5,.int .u32 x.A0.B4.X.a6,.int .u32 x.A0.B4.X.a7,.int .u32 x.A0.B4.X.a8,.int .u32 x.A0.B4.X.a9,.int .u32 x.A0.B4.X.kO,.int .u32 x.A0.B4.X.kP,.int .u32 x.A0.B4.X.a12,.int .u32 x.A0.B4.X.kQ,.int .u32 x.A0.B4.X.kR,.int .u32 x.A0.B4.X.kS,.int .u32 x.A0.B4.Pc,.int .u32 x.A0.B4.C3.a0,.int .u32 x.A0.B4.C3.a1,.int .u32 x.A0.B4.C3.a2,.int .u32 x.A0.B4.C3.a3,.int .u32 x.A0.B4.C3.a4,.int .u32 x.A0.B4.C3.a5,.int .u32 x.A0.B4.C3.a6,.int .u32 x.A0.B4.C3.a7,s0,.str x.A0.B1.D9,.bool x.A0.B8.F1,.int .u32 x.A0.B8.D3,.bool x.A0.B8.E0,.int .u32 x.A0.B7.ab,.int .u32 x.A0.B7.C8,.int .u32 x.A0.B7.Frame,.int .i64 x.A0.B7.C9,.int .i64 x.A0.B7.F5,.int .u32 x.A0.B7.C5,.int .u32 x.A0.B7.C6,.str x.A0.B7.C7,.int .u32 x.A0.D4.Frame,.int .u32 x.A0.D4.F6,.bool x.A0.D4.D1,.int .u32 x.A0.D4.D2,.bool x.A0.D4.C4,.int .u32 x.A0.D4.F9,.int .u32 x.A0.A6.A2,.int .u32 x.A0.A6.D0,.int .u64 x.A0.B6,.bool x.A0.B2,.bool x.A0.B5,s1,.int .i64 x.B3.B9,.int .i64 x.B3.D7,s2,s3,.int .u64 x.D5]
def ia.cells(x:ia):List D:=ia.cq x (.sl 1 (.ints .u32 x.A0.Mem) false) (.sl 1 (.ag x.B3.B0) false) (.sl 1 (.ints .i64 x.A3) false) (.sl 1 (.ints .i64 x.C1) false)
def ia.iF(cs:List D)(s0:List Int)(s1:List Bool)(s2 s3:List Int):ia:=(⟨(cs.getD 0 .dead).toInt,(⟨(⟨(⟨(cs.getD 1 .dead).toInt,(cs.getD 2 .dead).toInt,(cs.getD 3 .dead).toInt,(cs.getD 4 .dead).toInt,(cs.getD 5 .dead).toInt,(cs.getD 6 .dead).toInt,(cs.getD 7 .dead).toInt,(cs.getD 8 .dead).toInt,(cs.getD 9 .dead).toInt,(cs.getD 10 .dead).toInt,(cs.getD 11 .dead).toInt,(cs.getD 12 .dead).toInt,(cs.getD 13 .dead).toInt,(cs.getD 14 .dead).toInt,(cs.getD 15 .dead).toInt,(cs.getD 16 .dead).toInt⟩:(iI Int)),(cs.getD 17 .dead).toInt,(⟨(cs.getD 18 .dead).toInt,(cs.getD 19 .dead).toInt,(cs.getD 20 .dead).toInt,(cs.getD 21 .dead).toInt,(cs.getD 22 .dead).toInt,(cs.getD 23 .dead).toInt,(cs.getD 24 .dead).toInt,(cs.getD 25 .dead).toInt⟩:(A8 Int))⟩:bq),s0,(⟨(cs.getD 27 .dead).toStr⟩:iV),(⟨(cs.getD 28 .dead).toBool,(cs.getD 29 .dead).toInt,(cs.getD 30 .dead).toBool⟩:jc),(⟨(cs.getD 31 .dead).toInt,(cs.getD 32 .dead).toInt,(cs.getD 33 .dead).toInt,(cs.getD 34 .dead).toInt,(cs.getD 35 .dead).toInt,(cs.getD 36 .dead).toInt,(cs.getD 37 .dead).toInt,(cs.getD 38 .dead).toStr⟩:gh),(⟨(cs.getD 39 .dead).toInt,(cs.getD 40 .dead).toInt,(cs.getD 41 .dead).toBool,(cs.getD 42 .dead).toInt,(cs.getD 43 .dead).toBool,(cs.getD 44 .dead).toInt⟩:ik),(⟨(cs.getD 45 .dead).toInt,(cs.getD 46 .dead).toInt⟩:gx),(cs.getD 47 .dead).toInt,(cs.getD 48 .dead).toBool,(cs.getD 49 .dead).toBool⟩:bg),(⟨s1,(cs.getD 51 .dead).toInt,(cs.getD 52 .dead).toInt⟩:fu),s2,s3,(cs.getD 55 .dead).toInt⟩:ia)
def ia.of(cs:List D):ia:=ia.iF cs (cj .u32 (cs.getD 26 .dead)) (ey (cs.getD 50 .dead)) (cj .i64 (cs.getD 53 .dead)) (cj .i64 (cs.getD 54 .dead))
def gj.cq(x:gj)(s0:D):List D:=[s0,.int .u64 x.D5,.int .i64 x.D6]
def gj.cells(x:gj):List D:=gj.cq x (.sl 1 (.ah .str x.ab) false)
def gj.iF(cs:List D)(s0:List (List UInt8)):gj:=(⟨s0,(cs.getD 1 .dead).toInt,(cs.getD 2 .dead).toInt⟩:gj)
def gj.of(cs:List D):gj:=gj.iF cs (iU .str (cs.getD 0 .dead))
def fi.cq(x:fi)(s0 s1:D):List D:=[.int .i64 x.C2,.int .i64 x.B9,.int .i64 x.Frame,.str x.F0,.int .u32 x.A0.B4.X.a0,.int .u32 x.A0.B4.X.a1,.int .u32 x.A0.B4.X.a2,.int .u32 x.A0.B4.X.a3,.int .u32 x.A0.B4.X.a4,.int .u32 x.A0.B4.X.a5,.int .u32 x.A0.B4.X.a6,.int .u32 x.A0.B4.X.a7,.int .u32 x.A0.B4.X.a8,.int .u32 x.A0.B4.X.a9,.int .u32 x.A0.B4.X.kO,.int .u32 x.A0.B4.X.kP,.int .u32 x.A0.B4.X.a12,.int .u32 x.A0.B4.X.kQ,.int .u32 x.A0.B4.X.kR,.int .u32 x.A0.B4.X.kS,.int .u32 x.A0.B4.Pc,.int .u32 x.A0.B4.C3.a0,.int .u32 x.A0.B4.C3.a1,.int .u32 x.A0.B4.C3.a2,.int .u32 x.A0.B4.C3.a3,.int .u32 x.A0.B4.C3.a4,.int .u32 x.A0.B4.C3.a5,.int .u32 x.A0.B4.C3.a6,.int .u32 x.A0.B4.C3.a7,s0,.str x.A0.B1.D9,.bool x.A0.B8.F1,.int .u32 x.A0.B8.D3,.bool x.A0.B8.E0,.int .u32 x.A0.B7.ab,.int .u32 x.A0.B7.C8,.int .u32 x.A0.B7.Frame,.int .i64 x.A0.B7.C9,.int .i64 x.A0.B7.F5,.int .u32 x.A0.B7.C5,.int .u32 x.A0.B7.C6,.str x.A0.B7.C7,.int .u32 x.A0.D4.Frame,.int .u32 x.A0.D4.F6,.bool x.A0.D4.D1,.int .u32 x.A0.D4.D2,.bool x.A0.D4.C4,.int .u32 x.A0.D4.F9,.int .u32 x.A0.A6.A2,.int .u32 x.A0.A6.D0,.int .u64 x.A0.B6,.bool x.A0.B2,.bool x.A0.B5,s1]
def fi.cells(x:fi):List D:=fi.cq x (.sl 1 (.ints .u32 x.A0.Mem) false) (.sl 1 (.ints .i64 x.A3) false)
def fi.iF(cs:List D)(s0 s1:List Int):fi:=(⟨(cs.getD 0 .dead).toInt,(cs.getD 1 .dead).toInt,(cs.getD 2 .dead).toInt,(cs.getD 3 .dead).toStr,(⟨(⟨(⟨(cs.getD 4 .dead).toInt,(cs.getD 5 .dead).toInt,(cs.getD 6 .dead).toInt,(cs.getD 7 .dead).toInt,(cs.getD 8 .dead).toInt,(cs.getD 9 .dead).toInt,(cs.getD 10 .dead).toInt,(cs.getD 11 .dead).toInt,(cs.getD 12 .dead).toInt,(cs.getD 13 .dead).toInt,(cs.getD 14 .dead).toInt,(cs.getD 15 .dead).toInt,(cs.getD 16 .dead).toInt,(cs.getD 17 .dead).toInt,(cs.getD 18 .dead).toInt,(cs.getD 19 .dead).toInt⟩:(iI Int)),(cs.getD 20 .dead).toInt,(⟨(cs.getD 21 .dead).toInt,(cs.getD 22 .dead).toInt,(cs.getD 23 .dead).toInt,(cs.getD 24 .dead).toInt,(cs.getD 25 .dead).toInt,(cs.getD 26 .dead).toInt,(cs.getD 27 .dead).toInt,(cs.getD 28 .dead).toInt⟩:(A8 Int))⟩:bq),s0,(⟨(cs.getD 30 .dead).toStr⟩:iV),(⟨(cs.getD 31 .dead).toBool,(cs.getD 32 .dead).toInt,(cs.getD 33 .dead).toBool⟩:jc),(⟨(cs.getD 34 .dead).toInt,(cs.getD 35 .dead).toInt,(cs.getD 36 .dead).toInt,(cs.getD 37 .dead).toInt,(cs.getD 38 .dead).toInt,(cs.getD 39 .dead).toInt,(cs.getD 40 .dead).toInt,(cs.getD 41 .dead).toStr⟩:gh),(⟨(cs.getD 42 .dead).toInt,(cs.getD 43 .dead).toInt,(cs.getD 44 .dead).toBool,(cs.getD 45 .dead).toInt,(cs.getD 46 .dead).toBool,(cs.getD 47 .dead).toInt⟩:ik),(⟨(cs.getD 48 .dead).toInt,(cs.getD 49 .dead).toInt⟩:gx),(cs.getD 50 .dead).toInt,(cs.getD 51 .dead).toBool,(cs.getD 52 .dead).toBool⟩:bg),s1⟩:fi)
def fi.of(cs:List D):fi:=fi.iF cs (cj .u32 (cs.getD 29 .dead)) (cj .i64 (cs.getD 53 .dead))
def dv.cq(x:dv)(s0 s1 s2 s3 s4 s5 s6 s7 s8 s9 BE:D):List D:=[.int .i64 x.A1.A4,.int .u32 x.A1.A0.B4.X.a0,.int .u32 x.A1.A0.B4.X.a1,.int .u32 x.A1.A0.B4.X.a2,.int .u32 x.A1.A0.B4.X.a3,.int .u32 x.A1.A0.B4.X.a4,.int .u32 x.A1.A0.B4.X.a5,.int .u32 x.A1.A0.B4.X.a6,.int .u32 x.A1.A0.B4.X.a7,.int .u32 x.A1.A0.B4.X.a8,.int .u32 x.A1.A0.B4.X.a9,.int .u32 x.A1.A0.B4.X.kO,.int .u32 x.A1.A0.B4.X.kP,.int .u32 x.A1.A0.B4.X.a12,.int .u32 x.A1.A0.B4.X.kQ,.int .u32 x.A1.A0.B4.X.kR,.int .u32 x.A1.A0.B4.X.kS,.int .u32 x.A1.A0.B4.Pc,.int .u32 x.A1.A0.B4.C3.a0,.int .u32 x.A1.A0.B4.C3.a1,.int .u32 x.A1.A0.B4.C3.a2,.int .u32 x.A1.A0.B4.C3.a3,.int .u32 x.A1.A0.B4.C3.a4,.int .u32 x.A1.A0.B4.C3.a5,.int .u32 x.A1.A0.B4.C3.a6,.int .u32 x.A1.A0.B4.C3.a7,s0,.str x.A1.A0.B1.D9,.bool x.A1.A0.B8.F1,.int .u32 x.A1.A0.B8.D3,.bool x.A1.A0.B8.E0,.int .u32 x.A1.A0.B7.ab,.int .u32 x.A1.A0.B7.C8,.int .u32 x.A1.A0.B7.Frame,.int .i64 x.A1.A0.B7.C9,.int .i64 x.A1.A0.B7.F5,.int .u32 x.A1.A0.B7.C5,.int .u32 x.A1.A0.B7.C6,.str x.A1.A0.B7.C7,.int .u32 x.A1.A0.D4.Frame,.int .u32 x.A1.A0.D4.F6,.bool x.A1.A0.D4.D1,.int .u32 x.A1.A0.D4.D2,.bool x.A1.A0.D4.C4,.int .u32 x.A1.A0.D4.F9,.int .u32 x.A1.A0.A6.A2,.int .u32 x.A1.A0.A6.D0,.int .u64 x.A1.A0.B6,.bool x.A1.A0.B2,.bool x.A1.A0.B5,s1,.int .i64 x.A1.B3.B9,.int .i64 x.A1.B3.D7,s2,s3,.int .u64 x.A1.D5,.int .i64 x.A2.A4,.int .u32 x.A2.A0.B4.X.a0,.int .u32 x.A2.A0.B4.X.a1,.int .u32 x.A2.A0.B4.X.a2,.int .u32 x.A2.A0.B4.X.a3,.int .u32 x.A2.A0.B4.X.a4,.int .u32 x.A2.A0.B4.X.a5,.int .u32 x.A2.A0.B4.X.a6,.int .u32 x.A2.A0.B4.X.a7,.int .u32 x.A2.A0.B4.X.a8,.int .u32 x.A2.A0.B4.X.a9,.int .u32 x.A2.A0.B4.X.kO,.int .u32 x.A2.A0.B4.X.kP,.int .u32 x.A2.A0.B4.X.a12,.int .u32 x.A2.A0.B4.X.kQ,.int .u32 x.A2.A0.B4.X.kR,.int .u32 x.A2.A0.B4.X.kS,.int .u32 x.A2.A0.B4.Pc,.int .u32 x.A2.A0.B4.C3.a0,.int .u32 x.A2.A0.B4.C3.a1,.int .u32 x.A2.A0.B4.C3.a2,.int .u32 x.A2.A0.B4.C3.a3,.int .u32 x.A2.A0.B4.C3.a4,.int .u32 x.A2.A0.B4.C3.a5,.int .u32 x.A2.A0.B4.C3.a6,.int .u32 x.A2.A0.B4.C3.a7,s4,.str x.A2.A0.B1.D9,.bool x.A2.A0.B8.F1,.int .u32 x.A2.A0.B8.D3,.bool x.A2.A0.B8.E0,.int .u32 x.A2.A0.B7.ab,.int .u32 x.A2.A0.B7.C8,.int .u32 x.A2.A0.B7.Frame,.int .i64 x.A2.A0.B7.C9,.int .i64 x.A2.A0.B7.F5,.int .u32 x.A2.A0.B7.C5,.int .u32 x.A2.A0.B7.C6,.str x.A2.A0.B7.C7,.int .u32 x.A2.A0.D4.Frame,.int .u32 x.A2.A0.D4.F6,.bool x.A2.A0.D4.D1,.int .u32 x.A2.A0.D4.D2,.bool x.A2.A0.D4.C4,.int .u32 x.A2.A0.D4.F9,.int .u32 x.A2.A0.A6.A2,.int .u32 x.A2.A0.A6.D0,.int .u64 x.A2.A0.B6,.bool x.A2.A0.B2,.bool x.A2.A0.B5,s5,.int .i64 x.A2.B3.B9,.int .i64 x.A2.B3.D7,s6,s7,.int .u64 x.A2.D5,s8,s9,BE,.int .u64 x.A9.D5,.int .i64 x.A9.D6]
def dv.cells(x:dv):List D:=dv.cq x (.sl 1 (.ints .u32 x.A1.A0.Mem) false) (.sl 1 (.ag x.A1.B3.B0) false) (.sl 1 (.ints .i64 x.A1.A3) false) (.sl 1 (.ints .i64 x.A1.C1) false) (.sl 1 (.ints .u32 x.A2.A0.Mem) false) (.sl 1 (.ag x.A2.B3.B0) false) (.sl 1 (.ints .i64 x.A2.A3) false) (.sl 1 (.ints .i64 x.A2.C1) false) (.sl 54 (.ah .aa x.A7) false) (.sl 54 (.ah .aa x.C0) false) (.sl 1 (.ah .str x.A9.ab) false)
def dv.iF(cs:List D)(s0:List Int)(s1:List Bool)(s2 s3 s4:List Int)(s5:List Bool)(s6 s7:List Int)(s8 s9:List fi)(BE:List (List UInt8)):dv:=(⟨(⟨(cs.getD 0 .dead).toInt,(⟨(⟨(⟨(cs.getD 1 .dead).toInt,(cs.getD 2 .dead).toInt,(cs.getD 3 .dead).toInt,(cs.getD 4 .dead).toInt,(cs.getD 5 .dead).toInt,(cs.getD 6 .dead).toInt,(cs.getD 7 .dead).toInt,(cs.getD 8 .dead).toInt,(cs.getD 9 .dead).toInt,(cs.getD 10 .dead).toInt,(cs.getD 11 .dead).toInt,(cs.getD 12 .dead).toInt,(cs.getD 13 .dead).toInt,(cs.getD 14 .dead).toInt,(cs.getD 15 .dead).toInt,(cs.getD 16 .dead).toInt⟩:(iI Int)),(cs.getD 17 .dead).toInt,(⟨(cs.getD 18 .dead).toInt,(cs.getD 19 .dead).toInt,(cs.getD 20 .dead).toInt,(cs.getD 21 .dead).toInt,(cs.getD 22 .dead).toInt,(cs.getD 23 .dead).toInt,(cs.getD 24 .dead).toInt,(cs.getD 25 .dead).toInt⟩:(A8 Int))⟩:bq),s0,(⟨(cs.getD 27 .dead).toStr⟩:iV),(⟨(cs.getD 28 .dead).toBool,(cs.getD 29 .dead).toInt,(cs.getD 30 .dead).toBool⟩:jc),(⟨(cs.getD 31 .dead).toInt,(cs.getD 32 .dead).toInt,(cs.getD 33 .dead).toInt,(cs.getD 34 .dead).toInt,(cs.getD 35 .dead).toInt,(cs.getD 36 .dead).toInt,(cs.getD 37 .dead).toInt,(cs.getD 38 .dead).toStr⟩:gh),(⟨(cs.getD 39 .dead).toInt,(cs.getD 40 .dead).toInt,(cs.getD 41 .dead).toBool,(cs.getD 42 .dead).toInt,(cs.getD 43 .dead).toBool,(cs.getD 44 .dead).toInt⟩:ik),(⟨(cs.getD 45 .dead).toInt,(cs.getD 46 .dead).toInt⟩:gx),(cs.getD 47 .dead).toInt,(cs.getD 48 .dead).toBool,(cs.getD 49 .dead).toBool⟩:bg),(⟨s1,(cs.getD 51 .dead).toInt,(cs.getD 52 .dead).toInt⟩:fu),s2,s3,(cs.getD 55 .dead).toInt⟩:ia),(⟨(cs.getD 56 .dead).toInt,(⟨(⟨(⟨(cs.getD 57 .dead).toInt,(cs.getD 58 .dead).toInt,(cs.getD 59 .dead).toInt,(cs.getD 60 .dead).toInt,(cs.getD 61 .dead).toInt,(cs.getD 62 .dead).toInt,(cs.getD 63 .dead).toInt,(cs.getD 64 .dead).toInt,(cs.getD 65 .dead).toInt,(cs.getD 66 .dead).toInt,(cs.getD 67 .dead).toInt,(cs.getD 68 .dead).toInt,(cs.getD 69 .dead).toInt,(cs.getD 70 .dead).toInt,(cs.getD 71 .dead).toInt,(cs.getD 72 .dead).toInt⟩:(iI Int)),(cs.getD 73 .dead).toInt,(⟨(cs.getD 74 .dead).toInt,(cs.getD 75 .dead).toInt,(cs.getD 76 .dead).toInt,(cs.getD 77 .dead).toInt,(cs.getD 78 .dead).toInt,(cs.getD 79 .dead).toInt,(cs.getD 80 .dead).toInt,(cs.getD 81 .dead).toInt⟩:(A8 Int))⟩:bq),s4,(⟨(cs.getD 83 .dead).toStr⟩:iV),(⟨(cs.getD 84 .dead).toBool,(cs.getD 85 .dead).toInt,(cs.getD 86 .dead).toBool⟩:jc),(⟨(cs.getD 87 .dead).toInt,(cs.getD 88 .dead).toInt,(cs.getD 89 .dead).toInt,(cs.getD 90 .dead).toInt,(cs.getD 91 .dead).toInt,(cs.getD 92 .dead).toInt,(cs.getD 93 .dead).toInt,(cs.getD 94 .dead).toStr⟩:gh),(⟨(cs.getD 95 .dead).toInt,(cs.getD 96 .dead).toInt,(cs.getD 97 .dead).toBool,(cs.getD 98 .dead).toInt,(cs.getD 99 .dead).toBool,(cs.getD 100 .dead).toInt⟩:ik),(⟨(cs.getD 101 .dead).toInt,(cs.getD 102 .dead).toInt⟩:gx),(cs.getD 103 .dead).toInt,(cs.getD 104 .dead).toBool,(cs.getD 105 .dead).toBool⟩:bg),(⟨s5,(cs.getD 107 .dead).toInt,(cs.getD 108 .dead).toInt⟩:fu),s6,s7,(cs.getD 111 .dead).toInt⟩:ia),s8,s9,(⟨BE,(cs.getD 115 .dead).toInt,(cs.getD 116 .dead).toInt⟩:gj)⟩:dv)
def dv.of(cs:List D):dv:=dv.iF cs (cj .u32 (cs.getD 26 .dead)) (ey (cs.getD 50 .dead)) (cj .i64 (cs.getD 53 .dead)) (cj .i64 (cs.getD 54 .dead)) (cj .u32 (cs.getD 82 .dead)) (ey (cs.getD 106 .dead)) (cj .i64 (cs.getD 109 .dead)) (cj .i64 (cs.getD 110 .dead)) (iU .aa (cs.getD 112 .dead)) (iU .aa (cs.getD 113 .dead)) (iU .str (cs.getD 114 .dead))
def kT.cells(x:kT):List D:=[.int .i64 x.C2,.int .i64 x.N,.bool x.C0,.int .u32 x.F8]
def kT.of(cs:List D):kT:=(⟨(cs.getD 0 .dead).toInt,(cs.getD 1 .dead).toInt,(cs.getD 2 .dead).toBool,(cs.getD 3 .dead).toInt⟩:kT)
def df.cq(x:df)(s0 s1 s2 s3 s4 s5 s6 s7 s8 s9 BE:D):List D:=[.int .i64 x.A1.A4,.int .u32 x.A1.A0.B4.X.a0,.int .u32 x.A1.A0.B4.X.a1,.int .u32 x.A1.A0.B4.X.a2,.int .u32 x.A1.A0.B4.X.a3,.int .u32 x.A1.A0.B4.X.a4,.int .u32 x.A1.A0.B4.X.a5,.int .u32 x.A1.A0.B4.X.a6,.int .u32 x.A1.A0.B4.X.a7,.int .u32 x.A1.A0.B4.X.a8,.int .u32 x.A1.A0.B4.X.a9,.int .u32 x.A1.A0.B4.X.kO,.int .u32 x.A1.A0.B4.X.kP,.int .u32 x.A1.A0.B4.X.a12,.int .u32 x.A1.A0.B4.X.kQ,.int .u32 x.A1.A0.B4.X.kR,.int .u32 x.A1.A0.B4.X.kS,.int .u32 x.A1.A0.B4.Pc,.int .u32 x.A1.A0.B4.C3.a0,.int .u32 x.A1.A0.B4.C3.a1,.int .u32 x.A1.A0.B4.C3.a2,.int .u32 x.A1.A0.B4.C3.a3,.int .u32 x.A1.A0.B4.C3.a4,.int .u32 x.A1.A0.B4.C3.a5,.int .u32 x.A1.A0.B4.C3.a6,.int .u32 x.A1.A0.B4.C3.a7,s0,.str x.A1.A0.B1.D9,.bool x.A1.A0.B8.F1,.int .u32 x.A1.A0.B8.D3,.bool x.A1.A0.B8.E0,.int .u32 x.A1.A0.B7.ab,.int .u32 x.A1.A0.B7.C8,.int .u32 x.A1.A0.B7.Frame,.int .i64 x.A1.A0.B7.C9,.int .i64 x.A1.A0.B7.F5,.int .u32 x.A1.A0.B7.C5,.int .u32 x.A1.A0.B7.C6,.str x.A1.A0.B7.C7,.int .u32 x.A1.A0.D4.Frame,.int .u32 x.A1.A0.D4.F6,.bool x.A1.A0.D4.D1,.int .u32 x.A1.A0.D4.D2,.bool x.A1.A0.D4.C4,.int .u32 x.A1.A0.D4.F9,.int .u32 x.A1.A0.A6.A2,.int .u32 x.A1.A0.A6.D0,.int .u64 x.A1.A0.B6,.bool x.A1.A0.B2,.bool x.A1.A0.B5,s1,.int .i64 x.A1.B3.B9,.int .i64 x.A1.B3.D7,s2,s3,.int .u64 x.A1.D5,.int .i64 x.A2.A4,.int .u32 x.A2.A0.B4.X.a0,.int .u32 x.A2.A0.B4.X.a1,.int .u32 x.A2.A0.B4.X.a2,.int .u32 x.A2.A0.B4.X.a3,.int .u32 x.A2.A0.B4.X.a4,.int .u32 x.A2.A0.B4.X.a5,.int .u32 x.A2.A0.B4.X.a6,.int .u32 x.A2.A0.B4.X.a7,.int .u32 x.A2.A0.B4.X.a8,.int .u32 x.A2.A0.B4.X.a9,.int .u32 x.A2.A0.B4.X.kO,.int .u32 x.A2.A0.B4.X.kP,.int .u32 x.A2.A0.B4.X.a12,.int .u32 x.A2.A0.B4.X.kQ,.int .u32 x.A2.A0.B4.X.kR,.int .u32 x.A2.A0.B4.X.kS,.int .u32 x.A2.A0.B4.Pc,.int .u32 x.A2.A0.B4.C3.a0,.int .u32 x.A2.A0.B4.C3.a1,.int .u32 x.A2.A0.B4.C3.a2,.int .u32 x.A2.A0.B4.C3.a3,.int .u32 x.A2.A0.B4.C3.a4,.int .u32 x.A2.A0.B4.C3.a5,.int .u32 x.A2.A0.B4.C3.a6,.int .u32 x.A2.A0.B4.C3.a7,s4,.str x.A2.A0.B1.D9,.bool x.A2.A0.B8.F1,.int .u32 x.A2.A0.B8.D3,.bool x.A2.A0.B8.E0,.int .u32 x.A2.A0.B7.ab,.int .u32 x.A2.A0.B7.C8,.int .u32 x.A2.A0.B7.Frame,.int .i64 x.A2.A0.B7.C9,.int .i64 x.A2.A0.B7.F5,.int .u32 x.A2.A0.B7.C5,.int .u32 x.A2.A0.B7.C6,.str x.A2.A0.B7.C7,.int .u32 x.A2.A0.D4.Frame,.int .u32 x.A2.A0.D4.F6,.bool x.A2.A0.D4.D1,.int .u32 x.A2.A0.D4.D2,.bool x.A2.A0.D4.C4,.int .u32 x.A2.A0.D4.F9,.int .u32 x.A2.A0.A6.A2,.int .u32 x.A2.A0.A6.D0,.int .u64 x.A2.A0.B6,.bool x.A2.A0.B2,.bool x.A2.A0.B5,s5,.int .i64 x.A2.B3.B9,.int .i64 x.A2.B3.D7,s6,s7,.int .u64 x.A2.D5,s8,s9,BE,.int .u64 x.A9.D5,.int .i64 x.A9.D6]
def df.cells(x:df):List D:=df.cq x (.sl 1 (.ints .u32 x.A1.A0.Mem) false) (.sl 1 (.ag x.A1.B3.B0) false) (.sl 1 (.ints .i64 x.A1.A3) false) (.sl 1 (.ints .i64 x.A1.C1) false) (.sl 1 (.ints .u32 x.A2.A0.Mem) false) (.sl 1 (.ag x.A2.B3.B0) false) (.sl 1 (.ints .i64 x.A2.A3) false) (.sl 1 (.ints .i64 x.A2.C1) false) (.sl 54 (.ah .aa x.A7) false) (.sl 54 (.ah .aa x.C0) false) (.sl 1 (.ah .str x.A9.ab) false)
def df.iF(cs:List D)(s0:List Int)(s1:List Bool)(s2 s3 s4:List Int)(s5:List Bool)(s6 s7:List Int)(s8 s9:List fi)(BE:List (List UInt8)):df:=(⟨(⟨(cs.getD 0 .dead).toInt,(⟨(⟨(⟨(cs.getD 1 .dead).toInt,(cs.getD 2 .dead).toInt,(cs.getD 3 .dead).toInt,(cs.getD 4 .dead).toInt,(cs.getD 5 .dead).toInt,(cs.getD 6 .dead).toInt,(cs.getD 7 .dead).toInt,(cs.getD 8 .dead).toInt,(cs.getD 9 .dead).toInt,(cs.getD 10 .dead).toInt,(cs.getD 11 .dead).toInt,(cs.getD 12 .dead).toInt,(cs.getD 13 .dead).toInt,(cs.getD 14 .dead).toInt,(cs.getD 15 .dead).toInt,(cs.getD 16 .dead).toInt⟩:(iI Int)),(cs.getD 17 .dead).toInt,(⟨(cs.getD 18 .dead).toInt,(cs.getD 19 .dead).toInt,(cs.getD 20 .dead).toInt,(cs.getD 21 .dead).toInt,(cs.getD 22 .dead).toInt,(cs.getD 23 .dead).toInt,(cs.getD 24 .dead).toInt,(cs.getD 25 .dead).toInt⟩:(A8 Int))⟩:bq),s0,(⟨(cs.getD 27 .dead).toStr⟩:iV),(⟨(cs.getD 28 .dead).toBool,(cs.getD 29 .dead).toInt,(cs.getD 30 .dead).toBool⟩:jc),(⟨(cs.getD 31 .dead).toInt,(cs.getD 32 .dead).toInt,(cs.getD 33 .dead).toInt,(cs.getD 34 .dead).toInt,(cs.getD 35 .dead).toInt,(cs.getD 36 .dead).toInt,(cs.getD 37 .dead).toInt,(cs.getD 38 .dead).toStr⟩:gh),(⟨(cs.getD 39 .dead).toInt,(cs.getD 40 .dead).toInt,(cs.getD 41 .dead).toBool,(cs.getD 42 .dead).toInt,(cs.getD 43 .dead).toBool,(cs.getD 44 .dead).toInt⟩:ik),(⟨(cs.getD 45 .dead).toInt,(cs.getD 46 .dead).toInt⟩:gx),(cs.getD 47 .dead).toInt,(cs.getD 48 .dead).toBool,(cs.getD 49 .dead).toBool⟩:bg),(⟨s1,(cs.getD 51 .dead).toInt,(cs.getD 52 .dead).toInt⟩:fu),s2,s3,(cs.getD 55 .dead).toInt⟩:ia),(⟨(cs.getD 56 .dead).toInt,(⟨(⟨(⟨(cs.getD 57 .dead).toInt,(cs.getD 58 .dead).toInt,(cs.getD 59 .dead).toInt,(cs.getD 60 .dead).toInt,(cs.getD 61 .dead).toInt,(cs.getD 62 .dead).toInt,(cs.getD 63 .dead).toInt,(cs.getD 64 .dead).toInt,(cs.getD 65 .dead).toInt,(cs.getD 66 .dead).toInt,(cs.getD 67 .dead).toInt,(cs.getD 68 .dead).toInt,(cs.getD 69 .dead).toInt,(cs.getD 70 .dead).toInt,(cs.getD 71 .dead).toInt,(cs.getD 72 .dead).toInt⟩:(iI Int)),(cs.getD 73 .dead).toInt,(⟨(cs.getD 74 .dead).toInt,(cs.getD 75 .dead).toInt,(cs.getD 76 .dead).toInt,(cs.getD 77 .dead).toInt,(cs.getD 78 .dead).toInt,(cs.getD 79 .dead).toInt,(cs.getD 80 .dead).toInt,(cs.getD 81 .dead).toInt⟩:(A8 Int))⟩:bq),s4,(⟨(cs.getD 83 .dead).toStr⟩:iV),(⟨(cs.getD 84 .dead).toBool,(cs.getD 85 .dead).toInt,(cs.getD 86 .dead).toBool⟩:jc),(⟨(cs.getD 87 .dead).toInt,(cs.getD 88 .dead).toInt,(cs.getD 89 .dead).toInt,(cs.getD 90 .dead).toInt,(cs.getD 91 .dead).toInt,(cs.getD 92 .dead).toInt,(cs.getD 93 .dead).toInt,(cs.getD 94 .dead).toStr⟩:gh),(⟨(cs.getD 95 .dead).toInt,(cs.getD 96 .dead).toInt,(cs.getD 97 .dead).toBool,(cs.getD 98 .dead).toInt,(cs.getD 99 .dead).toBool,(cs.getD 100 .dead).toInt⟩:ik),(⟨(cs.getD 101 .dead).toInt,(cs.getD 102 .dead).toInt⟩:gx),(cs.getD 103 .dead).toInt,(cs.getD 104 .dead).toBool,(cs.getD 105 .dead).toBool⟩:bg),(⟨s5,(cs.getD 107 .dead).toInt,(cs.getD 108 .dead).toInt⟩:fu),s6,s7,(cs.getD 111 .dead).toInt⟩:ia),s8,s9,(⟨BE,(cs.getD 115 .dead).toInt,(cs.getD 116 .dead).toInt⟩:gj)⟩:df)
def df.of(cs:List D):df:=df.iF cs (cj .u32 (cs.getD 26 .dead)) (ey (cs.getD 50 .dead)) (cj .i64 (cs.getD 53 .dead)) (cj .i64 (cs.getD 54 .dead)) (cj .u32 (cs.getD 82 .dead)) (ey (cs.getD 106 .dead)) (cj .i64 (cs.getD 109 .dead)) (cj .i64 (cs.getD 110 .dead)) (iU .aa (cs.getD 112 .dead)) (iU .aa (cs.getD 113 .dead)) (iU .str (cs.getD 114 .dead))
def tA.cells(x:tA):List D:=[.int .i64 x.w9,.int .i64 x.nD]
def tA.of(cs:List D):tA:=(⟨(cs.getD 0 .dead).toInt,(cs.getD 1 .dead).toInt⟩:tA)
def lh.cells(x:lh):List D:=[.int .i64 x.Frame,.str x.F0]
def lh.of(cs:List D):lh:=(⟨(cs.getD 0 .dead).toInt,(cs.getD 1 .dead).toStr⟩:lh)
def lD.cells(x:lD):List D:=[.int .i64 x.C2,.int .i64 x.D8,.int .i64 x.F7,.int .u32 x.Value]
def lD.of(cs:List D):lD:=(⟨(cs.getD 0 .dead).toInt,(cs.getD 1 .dead).toInt,(cs.getD 2 .dead).toInt,(cs.getD 3 .dead).toInt⟩:lD)
def nE.cells(x:nE):List D:=[.int .i64 x.kC,.int .i64 x.num,.str x.label]
def nE.of(cs:List D):nE:=(⟨(cs.getD 0 .dead).toInt,(cs.getD 1 .dead).toInt,(cs.getD 2 .dead).toStr⟩:nE)
def kz.cq(x:kz)(s0:D):List D:=[.str x.ed,.int .i64 x.op,s0,.int .i64 x.F3,.int .i64 x.at_,.int .i64 x.size]
def kz.cells(x:kz):List D:=kz.cq x (.sl 3 (.ah .ax x.l) false)
def kz.iF(cs:List D)(s0:List nE):kz:=(⟨(cs.getD 0 .dead).toStr,(cs.getD 1 .dead).toInt,s0,(cs.getD 3 .dead).toInt,(cs.getD 4 .dead).toInt,(cs.getD 5 .dead).toInt⟩:kz)
def kz.of(cs:List D):kz:=kz.iF cs (iU .ax (cs.getD 2 .dead))
def ib.cells(x:ib):List D:=[.int .i64 x.Op,.int .i64 x.A,.int .i64 x.B,.int .i64 x.C,.int .i32 x.bz]
def ib.of(cs:List D):ib:=(⟨(cs.getD 0 .dead).toInt,(cs.getD 1 .dead).toInt,(cs.getD 2 .dead).toInt,(cs.getD 3 .dead).toInt,(cs.getD 4 .dead).toInt⟩:ib)
def u9.cells(x:u9):List D:=[.int .i64 x.C2,.int .u32 x.N,.str x.F0]
def u9.of(cs:List D):u9:=(⟨(cs.getD 0 .dead).toInt,(cs.getD 1 .dead).toInt,(cs.getD 2 .dead).toStr⟩:u9)
def pI.cells(x:pI):List D:=[.int .u64 x.At,.int .i64 x.Event.C2,.int .u32 x.Event.N,.str x.Event.F0]
def pI.of(cs:List D):pI:=(⟨(cs.getD 0 .dead).toInt,(⟨(cs.getD 1 .dead).toInt,(cs.getD 2 .dead).toInt,(cs.getD 3 .dead).toStr⟩:u9)⟩:pI)
def ir.cells(x:ir):List D:=[.int .i64 x.C2,.int .u64 x.At,.int .u32 x.C8,.str x.F0]
def ir.of(cs:List D):ir:=(⟨(cs.getD 0 .dead).toInt,(cs.getD 1 .dead).toInt,(cs.getD 2 .dead).toInt,(cs.getD 3 .dead).toStr⟩:ir)
def oa.cells(x:oa):List D:=[.str x.Name,.int .u32 x.Addr]
def oa.of(cs:List D):oa:=(⟨(cs.getD 0 .dead).toStr,(cs.getD 1 .dead).toInt⟩:oa)
def rG.cells(x:rG):List D:=[.int .u32 x.Addr,.int .u32 x.G1,.int .i64 x.G0]
def rG.of(cs:List D):rG:=(⟨(cs.getD 0 .dead).toInt,(cs.getD 1 .dead).toInt,(cs.getD 2 .dead).toInt⟩:rG)
def lj.cells(x:lj):List D:=[.int .i64 x.kind,.str x.F2,.bool x.Aa]
def lj.of(cs:List D):lj:=(⟨(cs.getD 0 .dead).toInt,(cs.getD 1 .dead).toStr,(cs.getD 2 .dead).toBool⟩:lj)
def Ab.cells(x:Ab):List D:=[.bool x.a,.bool x.b,.bool x.c,.int .i32 x.low,.int .i32 x.F4]
def Ab.of(cs:List D):Ab:=(⟨(cs.getD 0 .dead).toBool,(cs.getD 1 .dead).toBool,(cs.getD 2 .dead).toBool,(cs.getD 3 .dead).toInt,(cs.getD 4 .dead).toInt⟩:Ab)
def RK.size:RK->Nat
 |.bw=>4
 |.aa=>54
 |.str=>1
 |.cf=>4
 |.bn=>2
 |.dm=>2
 |.ak=>6
 |.ax=>3
 |.fg=>4
 |.aw=>3
def DB:CT->D->D
 |.int k,d=>.int k d.toInt
 |.bool,d=>.bool d.toBool
 |.str,d=>.str d.toStr
 |.ints k,d=>.sl 1 (.ints k (cj k d)) false
 |.ag,d=>.sl 1 (.ag (ey d)) false
 |.ah k,d=>.sl k.size (.ah k (iU k d)) false
 |.row i,_=>.all i
 |.nil,_=>.sl 0 (.gen []) false
 |.Ih,_=>.c8
 |.self i,_=>.gq i
 |.pt i o f,_=>.ptr i o f
 |.gm f cs,_=>.gm f cs
def wa:List CT->List D->Nat->List D
 |[],_,_=>[]
 |t::ts,cs,j=>DB t (cs.getD j .dead)::wa ts cs (j+1)
def bq.sig:List CT:=[.int .u32,.int .u32,.int .u32,.int .u32,.int .u32,.int .u32,.int .u32,.int .u32,.int .u32,.int .u32,.int .u32,.int .u32,.int .u32,.int .u32,.int .u32,.int .u32,.int .u32,.int .u32,.int .u32,.int .u32,.int .u32,.int .u32,.int .u32,.int .u32,.int .u32]
def iV.sig:List CT:=[.str]
def jc.sig:List CT:=[.bool,.int .u32,.bool]
def gh.sig:List CT:=[.int .u32,.int .u32,.int .u32,.int .i64,.int .i64,.int .u32,.int .u32,.str]
def ik.sig:List CT:=[.int .u32,.int .u32,.bool,.int .u32,.bool,.int .u32]
def gx.sig:List CT:=[.int .u32,.int .u32]
def bg.il(s0:CT):List CT:=[.int .u32,.int .u32,.int .u32,.int .u32,.int .u32,.int .u32,.int .u32,.int .u32,.int .u32,.int .u32,.int .u32,.int .u32,.int .u32,.int .u32,.int .u32,.int .u32,.int .u32,.int .u32,.int .u32,.int .u32,.int .u32,.int .u32,.int .u32,.int .u32,.int .u32,s0,.str,.bool,.int .u32,.bool,.int .u32,.int .u32,.int .u32,.int .i64,.int .i64,.int .u32,.int .u32,.str,.int .u32,.int .u32,.bool,.int .u32,.bool,.int .u32,.int .u32,.int .u32,.int .u64,.bool,.bool]
def bg.sig:List CT:=bg.il (.ints .u32)
def fu.il(s0:CT):List CT:=[s0,.int .i64,.int .i64]
def fu.sig:List CT:=fu.il (.ag)
def ia.il(s0 s1 s2 s3:CT):List CT:=[.int .i64,.int .u32,.int .u32,.int .u32,.int .u32,.int .u32,.int .u32,.int .u32,.int .u32,.int .u32,.int .u32,.int .u32,.int .u32,.int .u32,.int .u32,.int .u32,.int .u32,.int .u32,.int .u32,.int .u32,.int .u32,.int .u32,.int .u32,.int .u32,.int .u32,.int .u32,s0,.str,.bool,.int .u32,.bool,.int .u32,.int .u32,.int .u32,.int .i64,.int .i64,.int .u32,.int .u32,.str,.int .u32,.int .u32,.bool,.int .u32,.bool,.int .u32,.int .u32,.int .u32,.int .u64,.bool,.bool,s1,.int .i64,.int .i64,s2,s3,.int .u64]
def ia.sig:List CT:=ia.il (.ints .u32) (.ag) (.ints .i64) (.ints .i64)
def gj.il(s0:CT):List CT:=[s0,.int .u64,.int .i64]
def gj.sig:List CT:=gj.il (.ah .str)
def fi.il(s0 s1:CT):List CT:=[.int .i64,.int .i64,.int .i64,.str,.int .u32,.int .u32,.int .u32,.int .u32,.int .u32,.int .u32,.int .u32,.int .u32,.int .u32,.int .u32,.int .u32,.int .u32,.int .u32,.int .u32,.int .u32,.int .u32,.int .u32,.int .u32,.int .u32,.int .u32,.int .u32,.int .u32,.int .u32,.int .u32,.int .u32,s0,.str,.bool,.int .u32,.bool,.int .u32,.int .u32,.int .u32,.int .i64,.int .i64,.int .u32,.int .u32,.str,.int .u32,.int .u32,.bool,.int .u32,.bool,.int .u32,.int .u32,.int .u32,.int .u64,.bool,.bool,s1]
def fi.sig:List CT:=fi.il (.ints .u32) (.ints .i64)
def dv.il(s0 s1 s2 s3 s4 s5 s6 s7 s8 s9 BE:CT):List CT:=[.int .i64,.int .u32,.int .u32,.int .u32,.int .u32,.int .u32,.int .u32,.int .u32,.int .u32,.int .u32,.int .u32,.int .u32,.int .u32,.int .u32,.int .u32,.int .u32,.int .u32,.int .u32,.int .u32,.int .u32,.int .u32,.int .u32,.int .u32,.int .u32,.int .u32,.int .u32,s0,.str,.bool,.int .u32,.bool,.int .u32,.int .u32,.int .u32,.int .i64,.int .i64,.int .u32,.int .u32,.str,.int .u32,.int .u32,.bool,.int .u32,.bool,.int .u32,.int .u32,.int .u32,.int .u64,.bool,.bool,s1,.int .i64,.int .i64,s2,s3,.int .u64,.int .i64,.int .u32,.int .u32,.int .u32,.int .u32,.int .u32,.int .u32,.int .u32,.int .u32,.int .u32,.int .u32,.int .u32,.int .u32,.int .u32,.int .u32,.int .u32,.int .u32,.int .u32,.int .u32,.int .u32,.int .u32,.int .u32,.int .u32,.int .u32,.int .u32,.int .u32,s4,.str,.bool,.int .u32,.bool,.int .u32,.int .u32,.int .u32,.int .i64,.int .i64,.int .u32,.int .u32,.str,.int .u32,.int .u32,.bool,.int .u32,.bool,.int .u32,.int .u32,.int .u32,.int .u64,.bool,.bool,s5,.int .i64,.int .i64,s6,s7,.int .u64,s8,s9,BE,.int .u64,.int .i64]
def dv.sig:List CT:=dv.il (.ints .u32) (.ag) (.ints .i64) (.ints .i64) (.ints .u32) (.ag) (.ints .i64) (.ints .i64) (.ah .aa) (.ah .aa) (.ah .str)
def kT.sig:List CT:=[.int .i64,.int .i64,.bool,.int .u32]
def df.il(s0 s1 s2 s3 s4 s5 s6 s7 s8 s9 BE:CT):List CT:=[.int .i64,.int .u32,.int .u32,.int .u32,.int .u32,.int .u32,.int .u32,.int .u32,.int .u32,.int .u32,.int .u32,.int .u32,.int .u32,.int .u32,.int .u32,.int .u32,.int .u32,.int .u32,.int .u32,.int .u32,.int .u32,.int .u32,.int .u32,.int .u32,.int .u32,.int .u32,s0,.str,.bool,.int .u32,.bool,.int .u32,.int .u32,.int .u32,.int .i64,.int .i64,.int .u32,.int .u32,.str,.int .u32,.int .u32,.bool,.int .u32,.bool,.int .u32,.int .u32,.int .u32,.int .u64,.bool,.bool,s1,.int .i64,.int .i64,s2,s3,.int .u64,.int .i64,.int .u32,.int .u32,.int .u32,.int .u32,.int .u32,.int .u32,.int .u32,.int .u32,.int .u32,.int .u32,.int .u32,.int .u32,.int .u32,.int .u32,.int .u32,.int .u32,.int .u32,.int .u32,.int .u32,.int .u32,.int .u32,.int .u32,.int .u32,.int .u32,.int .u32,s4,.str,.bool,.int .u32,.bool,.int .u32,.int .u32,.int .u32,.int .i64,.int .i64,.int .u32,.int .u32,.str,.int .u32,.int .u32,.bool,.int .u32,.bool,.int .u32,.int .u32,.int .u32,.int .u64,.bool,.bool,s5,.int .i64,.int .i64,s6,s7,.int .u64,s8,s9,BE,.int .u64,.int .i64]
def df.sig:List CT:=df.il (.ints .u32) (.ag) (.ints .i64) (.ints .i64) (.ints .u32) (.ag) (.ints .i64) (.ints .i64) (.ah .aa) (.ah .aa) (.ah .str)
def tA.sig:List CT:=[.int .i64,.int .i64]
def lh.sig:List CT:=[.int .i64,.str]
def lD.sig:List CT:=[.int .i64,.int .i64,.int .i64,.int .u32]
def nE.sig:List CT:=[.int .i64,.int .i64,.str]
def kz.il(s0:CT):List CT:=[.str,.int .i64,s0,.int .i64,.int .i64,.int .i64]
def kz.sig:List CT:=kz.il (.ah .ax)
def ib.sig:List CT:=[.int .i64,.int .i64,.int .i64,.int .i64,.int .i32]
def u9.sig:List CT:=[.int .i64,.int .u32,.str]
def pI.sig:List CT:=[.int .u64,.int .i64,.int .u32,.str]
def ir.sig:List CT:=[.int .i64,.int .u64,.int .u32,.str]
def oa.sig:List CT:=[.str,.int .u32]
def rG.sig:List CT:=[.int .u32,.int .u32,.int .i64]
def lj.sig:List CT:=[.int .i64,.str,.bool]
def Ab.sig:List CT:=[.bool,.bool,.bool,.int .i32,.int .i32]
def RK.sig:RK->List CT
 |.bw=>kT.sig
 |.aa=>fi.sig
 |.str=>[.str]
 |.cf=>ir.sig
 |.bn=>lh.sig
 |.dm=>oa.sig
 |.ak=>kz.sig
 |.ax=>nE.sig
 |.fg=>pI.sig
 |.aw=>lj.sig
def RK.cells:(k:RK)->RK.T k->List D
 |.bw,x=>kT.cells x
 |.aa,x=>fi.cells x
 |.str,x=>[.str x]
 |.cf,x=>ir.cells x
 |.bn,x=>lh.cells x
 |.dm,x=>oa.cells x
 |.ak,x=>kz.cells x
 |.ax,x=>nE.cells x
 |.fg,x=>pI.cells x
 |.aw,x=>lj.cells x
def RK.of:(k:RK)->List D->RK.T k
 |.bw,cs=>kT.of cs
 |.aa,cs=>fi.of cs
 |.str,cs=>(cs.getD 0 .dead).toStr
 |.cf,cs=>ir.of cs
 |.bn,cs=>lh.of cs
 |.dm,cs=>oa.of cs
 |.ak,cs=>kz.of cs
 |.ax,cs=>nE.of cs
 |.fg,cs=>pI.of cs
 |.aw,cs=>lj.of cs
theorem RK.BF(k:RK)(cs:List D):k.cells (k.of cs)=wa k.sig cs 0:=by cases k<;>kernel_rfl
theorem RK.ob(k:RK)(x:RK.T k):wa k.sig (k.cells x) 0=k.cells x:=by cases k<;>kernel_rfl
theorem RK.tX(k:RK):k.sig.length=k.size:=by cases k<;>rfl
