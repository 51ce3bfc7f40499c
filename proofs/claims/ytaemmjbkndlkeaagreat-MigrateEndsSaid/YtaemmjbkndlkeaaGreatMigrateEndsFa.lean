import Derived.WalkKit
import Derived.KernelRfl
set_option linter.all false
namespace Go.GD
variable {m n:Nat}{p:Prop}
theorem oY{p:Prop}[Decidable p](h:decide p=true):p:=of_decide_eq_true h
theorem oN[Decidable p](h:decide p=false):¬p:=of_decide_eq_false h
theorem dY[Decidable p](h:p):decide p=true:=decide_eq_true h
theorem dN[Decidable p](h:¬p):decide p=false:=decide_eq_false h
theorem bE(h:Nat.beq n m=true):n=m:=Nat.eq_of_beq_eq_true h
theorem lE(h:Nat.ble n m=true):n<=m:=Nat.le_of_ble_eq_true h
theorem aE(a b:Bool):((a&&b)=true)=(a=true/\b=true):=Bool.and_eq_true a b
theorem lA{α:Type}{a b:List α}:(a++b).length=a.length+b.length:=List.length_append
structure A5(α:Type) where
 (a0 a1 a2 a3 a4:α)
 deriving DecidableEq,Inhabited
def A5.l{α:Type}(x:A5 α):List α:=[x.a0,x.a1,x.a2,x.a3,x.a4]
def A5.of{α:Type}(z:α)(l:List α):A5 α:=⟨l.getD 0 z,l.getD 1 z,l.getD 2 z,l.getD 3 z,l.getD 4 z⟩
structure A8(α:Type) where
 (a0 a1 a2 a3 a4 a5 a6 a7:α)
 deriving DecidableEq,Inhabited
def A8.l{α:Type}(x:A8 α):List α:=[x.a0,x.a1,x.a2,x.a3,x.a4,x.a5,x.a6,x.a7]
def A8.of{α:Type}(z:α)(l:List α):A8 α:=⟨l.getD 0 z,l.getD 1 z,l.getD 2 z,l.getD 3 z,l.getD 4 z,l.getD 5 z,l.getD 6 z,l.getD 7 z⟩
structure ir(α:Type) where
 (a0 a1 a2 a3 a4 a5 a6 a7 a8 a9 kz kA a12 kB kC kD:α)
 deriving DecidableEq,Inhabited
def ir.l{α:Type}(x:ir α):List α:=[x.a0,x.a1,x.a2,x.a3,x.a4,x.a5,x.a6,x.a7,x.a8,x.a9,x.kz,x.kA,x.a12,x.kB,x.kC,x.kD]
def ir.of{α:Type}(z:α)(l:List α):ir α:=⟨l.getD 0 z,l.getD 1 z,l.getD 2 z,l.getD 3 z,l.getD 4 z,l.getD 5 z,l.getD 6 z,l.getD 7 z,l.getD 8 z,l.getD 9 z,l.getD 10 z,l.getD 11 z,l.getD 12 z,l.getD 13 z,l.getD 14 z,l.getD 15 z⟩
structure bu where
 X:(ir Int)
 Pc:Int
 C3:(A8 Int)
 deriving DecidableEq,Inhabited
structure iH where
 E0:(List UInt8)
 deriving DecidableEq,Inhabited
structure iV where
 F1:Bool
 D3:Int
 D9:Bool
 deriving DecidableEq,Inhabited
structure fv where
 ae:Int
 C8:Int
 Frame:Int
 C9:Int
 F6:Int
 C5:Int
 C6:Int
 C7:(List UInt8)
 deriving DecidableEq,Inhabited
structure gz where
 Frame:Int
 F7:Int
 D2:Bool
 D4:Int
 C4:Bool
 F8:Int
 deriving DecidableEq,Inhabited
structure gm where
 A2:Int
 D0:Int
 deriving DecidableEq,Inhabited
structure bg where
 B2:bu
 Mem:(List Int)
 B3:iH
 B9:iV
 B5:fv
 D1:gz
 A6:gm
 B7:Int
 B4:Bool
 B6:Bool
 deriving DecidableEq,Inhabited
structure gd where
 B1:(List Bool)
 C0:Int
 D6:Int
 deriving DecidableEq,Inhabited
structure ic where
 A4:Int
 A0:bg
 B0:gd
 A3:(List Int)
 B8:(List Int)
 D5:Int
 deriving DecidableEq,Inhabited
structure iO where
 ae:(List (List UInt8))
 D5:Int
 D7:Int
 deriving DecidableEq,Inhabited
structure fh where
 C2:Int
 C0:Int
 Frame:Int
 F2:(List UInt8)
 A0:bg
 A3:(List Int)
 deriving DecidableEq,Inhabited
structure dk where
 A1:ic
 A2:ic
 A7:(List fh)
 C1:(List fh)
 A9:iO
 deriving DecidableEq,Inhabited
structure jt where
 C2:Int
 N:Int
 C1:Bool
 D8:Int
 deriving DecidableEq,Inhabited
structure de where
 A1:ic
 A2:ic
 A7:(List fh)
 C1:(List fh)
 A9:iO
 deriving DecidableEq,Inhabited
structure tq where
 wY:Int
 ny:Int
 deriving DecidableEq,Inhabited
structure kY where
 Frame:Int
 F2:(List UInt8)
 deriving DecidableEq,Inhabited
structure ly where
 C2:Int
 F0:Int
 F9:Int
 Value:Int
 deriving DecidableEq,Inhabited
structure nz where
 kE:Int
 num:Int
 label:(List UInt8)
 deriving DecidableEq,Inhabited
structure kr where
 ea:(List UInt8)
 op:Int
 l:(List nz)
 F4:Int
 at_:Int
 size:Int
 deriving DecidableEq,Inhabited
structure ib where
 Op:Int
 A:Int
 B:Int
 C:Int
 cf:Int
 deriving DecidableEq,Inhabited
structure uW where
 C2:Int
 N:Int
 F2:(List UInt8)
 deriving DecidableEq,Inhabited
structure pH where
 At:Int
 Event:uW
 deriving DecidableEq,Inhabited
structure iq where
 C2:Int
 At:Int
 C8:Int
 F2:(List UInt8)
 deriving DecidableEq,Inhabited
structure nZ where
 Name:(List UInt8)
 Addr:Int
 deriving DecidableEq,Inhabited
structure rF where
 Addr:Int
 G1:Int
 G0:Int
 deriving DecidableEq,Inhabited
structure kZ where
 kind:Int
 F3:(List UInt8)
 wZ:Bool
 deriving DecidableEq,Inhabited
structure w4 where
 a:Bool
 b:Bool
 c:Bool
 low:Int
 F5:Int
 deriving DecidableEq,Inhabited
inductive RK where
 |aw|aa|str|bw|bq|dq|ak|ay|ff|av
 deriving DecidableEq
@[reducible] def RK.T:RK->Type
 |.aw=>jt
 |.aa=>fh
 |.str=>(List UInt8)
 |.bw=>iq
 |.bq=>kY
 |.dq=>nZ
 |.ak=>kr
 |.ay=>nz
 |.ff=>pH
 |.av=>kZ
def RK.ed:(k:RK)->RK.T k
 |.aw=>(default:jt)
 |.aa=>(default:fh)
 |.str=>(default:List UInt8)
 |.bw=>(default:iq)
 |.bq=>(default:kY)
 |.dq=>(default:nZ)
 |.ak=>(default:kr)
 |.ay=>(default:nz)
 |.ff=>(default:pH)
 |.av=>(default:kZ)
def RK.M0:Nat->Option RK
 |61=>some .aw
 |80=>some .aa
 |9=>some .str
 |232=>some .bw
 |146=>some .bq
 |243=>some .dq
 |177=>some .ak
 |179=>some .ay
 |193=>some .ff
 |290=>some .av
 |_=>none
end Go.GD
namespace Go.GD
open Go
instance (k:RK):Inhabited (RK.T k):=⟨RK.ed k⟩
mutual
inductive D where
 |bool (b:Bool)
 |int (k:IntKind) (n:Int)
 |str (s:List UInt8)
 |sl (sz:Nat) (es:ai) (fr:Bool)
 |all (r:Nat)
 |own (r o n:Nat)
 |ptr (r i off:Nat)
 |pa (r i off len:Nat) (k:Option IntKind) (n:Nat)
 |iu (sz:Nat) (es:ai) (i off:Nat)
 |iz
 |c8
 |emp
 |mO (es:ai)
 |dead
 |gp (f:Nat) (cs:List iD)
 |gq (r:Nat)
 |jL
 |agg (cs:List D)
 |dw (ds:List D)
inductive ai where
 |gen (es:List (List D))
 |ints (k:IntKind) (l:List Int)
 |ag (l:List Bool)
 |ah (k:RK) (l:List (RK.T k))
inductive iD where
 |ptr (r i off:Nat)
 |int (k:IntKind) (n:Int)
 |arr (r:Nat)
 |sl (sz:Nat) (es:ai) (fr:Bool)
 |fn (f:Nat) (ps:List (Nat×Nat×Nat))
end
instance:Inhabited D:=⟨.dead⟩
instance:Inhabited ai:=⟨.gen []⟩
def HM(p:Nat×Nat×Nat):iD:=.ptr p.1 p.2.1 p.2.2
def iD.d:iD->D|.ptr r i off=>.ptr r i off|.int k n=>.int k n|.arr r=>.all r|.sl a b c=>.sl a b c|.fn f ps=>.gp f (ps.map HM)
def D.isInt(k:IntKind):D->Bool|.int j _=>decide (j=k)|_=>false
def D.toInt:D->Int|.int _ n=>n|_=>0
def D.isBool:D->Bool|.bool _=>true|_=>false
def D.toBool:D->Bool|.bool b=>b|_=>false
def D.isStr:D->Bool|.str _=>true|_=>false
def D.toStr:D->List UInt8|.str s=>s|_=>[]
def FU(k k':RK)(l:List (RK.T k)):Option (List (RK.T k')):=if h:k=k' then some (h▸l)else none
theorem Wc(k:RK)(l:List (RK.T k)):FU k k l=some l:=by simp[FU]
theorem Wd{k k':RK}{l:List (RK.T k)}{m:List (RK.T k')}(h:FU k k' l=some m):∃e:k=k',e▸l=m:=by
 unfold FU at h
 split at h
 ·rename_i e;cases h;exact⟨e,rfl⟩
 ·cases h
def ai.toI(k:IntKind):ai->Option (List Int)
 |.ints k' l=>match decide (k'=k)with|true=>some l|false=>none
 |.gen []=>some []
 |_=>none
def ai.toB:ai->Option (List Bool)
 |.ag l=>some l
 |.gen []=>some []
 |_=>none
def ai.toR(k:RK):ai->Option (List (RK.T k))
 |.ah k' l=>FU k' k l
 |.gen []=>some []
 |_=>none
inductive CT where|int(k:IntKind)|bool|str|ints(k:IntKind)|ag|ah(k:RK)|row(i:Nat)|nil|HN|self(i:Nat)|pt(i o f:Nat)|gp(f:Nat)(cs:List iD)
def bz(k:IntKind):D->List Int|.sl _ E _=>(match E.toI k with|some l=>l|none=>[])|_=>[]
def ez:D->List Bool|.sl _ E _=>(match E.toB with|some l=>l|none=>[])|_=>[]
def iP(k:RK):D->List (RK.T k)|.sl _ E _=>(match E.toR k with|some l=>l|none=>[])|_=>[]
def bu.cells(x:bu):List D:=[.int .u32 x.X.a0,.int .u32 x.X.a1,.int .u32 x.X.a2,.int .u32 x.X.a3,.int .u32 x.X.a4,.int .u32 x.X.a5,.int .u32 x.X.a6,.int .u32 x.X.a7,.int .u32 x.X.a8,.int .u32 x.X.a9,.int .u32 x.X.kz,.int .u32 x.X.kA,.int .u32 x.X.a12,.int .u32 x.X.kB,.int .u32 x.X.kC,.int .u32 x.X.kD,.int .u32 x.Pc,.int .u32 x.C3.a0,.int .u32 x.C3.a1,.int .u32 x.C3.a2,.int .u32 x.C3.a3,.int .u32 x.C3.a4,.int .u32 x.C3.a5,.int .u32 x.C3.a6,.int .u32 x.C3.a7]
def bu.of(cs:List D):bu:=(⟨(⟨(cs.getD 0 .dead).toInt,(cs.getD 1 .dead).toInt,(cs.getD 2 .dead).toInt,(cs.getD 3 .dead).toInt,(cs.getD 4 .dead).toInt,(cs.getD 5 .dead).toInt,(cs.getD 6 .dead).toInt,(cs.getD 7 .dead).toInt,(cs.getD 8 .dead).toInt,(cs.getD 9 .dead).toInt,(cs.getD 10 .dead).toInt,(cs.getD 11 .dead).toInt,(cs.getD 12 .dead).toInt,(cs.getD 13 .dead).toInt,(cs.getD 14 .dead).toInt,(cs.getD 15 .dead).toInt⟩:(ir Int)),(cs.getD 16 .dead).toInt,(⟨(cs.getD 17 .dead).toInt,(cs.getD 18 .dead).toInt,(cs.getD 19 .dead).toInt,(cs.getD 20 .dead).toInt,(cs.getD 21 .dead).toInt,(cs.getD 22 .dead).toInt,(cs.getD 23 .dead).toInt,(cs.getD 24 .dead).toInt⟩:(A8 Int))⟩:bu)
def iH.cells(x:iH):List D:=[.str x.E0]
def iH.of(cs:List D):iH:=(⟨(cs.getD 0 .dead).toStr⟩:iH)
def iV.cells(x:iV):List D:=[.bool x.F1,.int .u32 x.D3,.bool x.D9]
def iV.of(cs:List D):iV:=(⟨(cs.getD 0 .dead).toBool,(cs.getD 1 .dead).toInt,(cs.getD 2 .dead).toBool⟩:iV)
def fv.cells(x:fv):List D:=[.int .u32 x.ae,.int .u32 x.C8,.int .u32 x.Frame,.int .i64 x.C9,.int .i64 x.F6,.int .u32 x.C5,.int .u32 x.C6,.str x.C7]
def fv.of(cs:List D):fv:=(⟨(cs.getD 0 .dead).toInt,(cs.getD 1 .dead).toInt,(cs.getD 2 .dead).toInt,(cs.getD 3 .dead).toInt,(cs.getD 4 .dead).toInt,(cs.getD 5 .dead).toInt,(cs.getD 6 .dead).toInt,(cs.getD 7 .dead).toStr⟩:fv)
def gz.cells(x:gz):List D:=[.int .u32 x.Frame,.int .u32 x.F7,.bool x.D2,.int .u32 x.D4,.bool x.C4,.int .u32 x.F8]
def gz.of(cs:List D):gz:=(⟨(cs.getD 0 .dead).toInt,(cs.getD 1 .dead).toInt,(cs.getD 2 .dead).toBool,(cs.getD 3 .dead).toInt,(cs.getD 4 .dead).toBool,(cs.getD 5 .dead).toInt⟩:gz)
def gm.cells(x:gm):List D:=[.int .u32 x.A2,.int .u32 x.D0]
def gm.of(cs:List D):gm:=(⟨(cs.getD 0 .dead).toInt,(cs.getD 1 .dead).toInt⟩:gm)
def bg.cj(x:bg)(s0:D):List D:=[.int .u32 x.B2.X.a0,.int .u32 x.B2.X.a1,.int .u32 x.B2.X.a2,.int .u32 x.B2.X.a3,.int .u32 x.B2.X.a4,.int .u32 x.B2.X.a5,.int .u32 x.B2.X.a6,.int .u32 x.B2.X.a7,.int .u32 x.B2.X.a8,.int .u32 x.B2.X.a9,.int .u32 x.B2.X.kz,.int .u32 x.B2.X.kA,.int .u32 x.B2.X.a12,.int .u32 x.B2.X.kB,.int .u32 x.B2.X.kC,.int .u32 x.B2.X.kD,.int .u32 x.B2.Pc,.int .u32 x.B2.C3.a0,.int .u32 x.B2.C3.a1,.int .u32 x.B2.C3.a2,.int .u32 x.B2.C3.a3,.int .u32 x.B2.C3.a4,.int .u32 x.B2.C3.a5,.int .u32 x.B2.C3.a6,.int .u32 x.B2.C3.a7,s0,.str x.B3.E0,.bool x.B9.F1,.int .u32 x.B9.D3,.bool x.B9.D9,.int .u32 x.B5.ae,.int .u32 x.B5.C8,.int .u32 x.B5.Frame,.int .i64 x.B5.C9,.int .i64 x.B5.F6,.int .u32 x.B5.C5,.int .u32 x.B5.C6,.str x.B5.C7,.int .u32 x.D1.Frame,.int .u32 x.D1.F7,.bool x.D1.D2,.int .u32 x.D1.D4,.bool x.D1.C4,.int .u32 x.D1.F8,.int .u32 x.A6.A2,.int .u32 x.A6.D0,.int .u64 x.B7,.bool x.B4,.bool x.B6]
def bg.cells(x:bg):List D:=bg.cj x (.sl 1 (.ints .u32 x.Mem) false)
def bg.iE(cs:List D)(s0:List Int):bg:=(⟨(⟨(⟨(cs.getD 0 .dead).toInt,(cs.getD 1 .dead).toInt,(cs.getD 2 .dead).toInt,(cs.getD 3 .dead).toInt,(cs.getD 4 .dead).toInt,(cs.getD 5 .dead).toInt,(cs.getD 6 .dead).toInt,(cs.getD 7 .dead).toInt,(cs.getD 8 .dead).toInt,(cs.getD 9 .dead).toInt,(cs.getD 10 .dead).toInt,(cs.getD 11 .dead).toInt,(cs.getD 12 .dead).toInt,(cs.getD 13 .dead).toInt,(cs.getD 14 .dead).toInt,(cs.getD 15 .dead).toInt⟩:(ir Int)),(cs.getD 16 .dead).toInt,(⟨(cs.getD 17 .dead).toInt,(cs.getD 18 .dead).toInt,(cs.getD 19 .dead).toInt,(cs.getD 20 .dead).toInt,(cs.getD 21 .dead).toInt,(cs.getD 22 .dead).toInt,(cs.getD 23 .dead).toInt,(cs.getD 24 .dead).toInt⟩:(A8 Int))⟩:bu),s0,(⟨(cs.getD 26 .dead).toStr⟩:iH),(⟨(cs.getD 27 .dead).toBool,(cs.getD 28 .dead).toInt,(cs.getD 29 .dead).toBool⟩:iV),(⟨(cs.getD 30 .dead).toInt,(cs.getD 31 .dead).toInt,(cs.getD 32 .dead).toInt,(cs.getD 33 .dead).toInt,(cs.getD 34 .dead).toInt,(cs.getD 35 .dead).toInt,(cs.getD 36 .dead).toInt,(cs.getD 37 .dead).toStr⟩:fv),(⟨(cs.getD 38 .dead).toInt,(cs.getD 39 .dead).toInt,(cs.getD 40 .dead).toBool,(cs.getD 41 .dead).toInt,(cs.getD 42 .dead).toBool,(cs.getD 43 .dead).toInt⟩:gz),(⟨(cs.getD 44 .dead).toInt,(cs.getD 45 .dead).toInt⟩:gm),(cs.getD 46 .dead).toInt,(cs.getD 47 .dead).toBool,(cs.getD 48 .dead).toBool⟩:bg)
def bg.of(cs:List D):bg:=bg.iE cs (bz .u32 (cs.getD 25 .dead))
def gd.cj(x:gd)(s0:D):List D:=[s0,.int .i64 x.C0,.int .i64 x.D6]
def gd.cells(x:gd):List D:=gd.cj x (.sl 1 (.ag x.B1) false)
def gd.iE(cs:List D)(s0:List Bool):gd:=(⟨s0,(cs.getD 1 .dead).toInt,(cs.getD 2 .dead).toInt⟩:gd)
def gd.of(cs:List D):gd:=gd.iE cs (ez (cs.getD 0 .dead))
def ic.cj(x:ic)(s0 s1 s2 s3:D):List D:=[.int .i64 x.A4,.int .u32 x.A0.B2.X.a0,.int .u32 x.A0.B2.X.a1,.int .u32 x.A0.B2.X.a2,.int .u32 x.A0.B2.X.a3,.int .u32 x.A0.B2.X.a4,.int .u32 x.A0.B2.X.a5,.int .u32 x.A0.B2.X.a6,.int .u32 x.A0.B2.X.a7,.int .u32 x.A0.B2.X.a8,.int .u32 x.A0.B2.X.a9,.int .u32 x.A0.B2.X.kz,.int .u32 x.A0.B2.X.kA,.int .u32 x.A0.B2.X.a12,.int .u32 x.A0.B2.X.kB,.int .u32 x.A0.B2.X.kC,.int .u32 x.A0.B2.X.kD,.int .u32 x.A0.B2.Pc,.int .u32 x.A0.B2.C3.a0,.int .u32 x.A0.B2.C3.a1,.int .u32 x.A0.B2.C3.a2,.int .u32 x.A0.B2.C3.a3,.int .u32 x.A0.B2.C3.a4,.int .u32 x.A0.B2.C3.a5,.int .u32 x.A0.B2.C3.a6,.int .u32 x.A0.B2.C3.a7,s0,.str x.A0.B3.E0,.bool x.A0.B9.F1,.int .u32 x.A0.B9.D3,.bool x.A0.B9.D9,.int .u32 x.A0.B5.ae,.int .u32 x.A0.B5.C8,.int .u32 x.A0.B5.Frame,.int .i64 x.A0.B5.C9,.int .i64 x.A0.B5.F6,.int .u32 x.A0.B5.C5,.int .u32 x.A0.B5.C6,.str x.A0.B5.C7,.int .u32 x.A0.D1.Frame,.int .u32 x.A0.D1.F7,.bool x.A0.D1.D2,.int .u32 x.A0.D1.D4,.bool x.A0.D1.C4,.int .u32 x.A0.D1.F8,.int .u32 x.A0.A6.A2,.int .u32 x.A0.A6.D0,.int .u64 x.A0.B7,.bool x.A0.B4,.bool x.A0.B6,s1,.int .i64 x.B0.C0,.int .i64 x.B0.D6,s2,s3,.int .u64 x.D5]
def ic.cells(x:ic):List D:=ic.cj x (.sl 1 (.ints .u32 x.A0.Mem) false) (.sl 1 (.ag x.B0.B1) false) (.sl 1 (.ints .i64 x.A3) false) (.sl 1 (.ints .i64 x.B8) false)
def ic.iE(cs:List D)(s0:List Int)(s1:List Bool)(s2 s3:List Int):ic:=(⟨(cs.getD 0 .dead).toInt,(⟨(⟨(⟨(cs.getD 1 .dead).toInt,(cs.getD 2 .dead).toInt,(cs.getD 3 .dead).toInt,(cs.getD 4 .dead).toInt,(cs.getD 5 .dead).toInt,(cs.getD 6 .dead).toInt,(cs.getD 7 .dead).toInt,(cs.getD 8 .dead).toInt,(cs.getD 9 .dead).toInt,(cs.getD 10 .dead).toInt,(cs.getD 11 .dead).toInt,(cs.getD 12 .dead).toInt,(cs.getD 13 .dead).toInt,(cs.getD 14 .dead).toInt,(cs.getD 15 .dead).toInt,(cs.getD 16 .dead).toInt⟩:(ir Int)),(cs.getD 17 .dead).toInt,(⟨(cs.getD 18 .dead).toInt,(cs.getD 19 .dead).toInt,(cs.getD 20 .dead).toInt,(cs.getD 21 .dead).toInt,(cs.getD 22 .dead).toInt,(cs.getD 23 .dead).toInt,(cs.getD 24 .dead).toInt,(cs.getD 25 .dead).toInt⟩:(A8 Int))⟩:bu),s0,(⟨(cs.getD 27 .dead).toStr⟩:iH),(⟨(cs.getD 28 .dead).toBool,(cs.getD 29 .dead).toInt,(cs.getD 30 .dead).toBool⟩:iV),(⟨(cs.getD 31 .dead).toInt,(cs.getD 32 .dead).toInt,(cs.getD 33 .dead).toInt,(cs.getD 34 .dead).toInt,(cs.getD 35 .dead).toInt,(cs.getD 36 .dead).toInt,(cs.getD 37 .dead).toInt,(cs.getD 38 .dead).toStr⟩:fv),(⟨(cs.getD 39 .dead).toInt,(cs.getD 40 .dead).toInt,(cs.getD 41 .dead).toBool,(cs.getD 42 .dead).toInt,(cs.getD 43 .dead).toBool,(cs.getD 44 .dead).toInt⟩:gz),(⟨(cs.getD 45 .dead).toInt,(cs.getD 46 .dead).toInt⟩:gm),(cs.getD 47 .dead).toInt,(cs.getD 48 .dead).toBool,(cs.getD 49 .dead).toBool⟩:bg),(⟨s1,(cs.getD 51 .dead).toInt,(cs.getD 52 .dead).toInt⟩:gd),s2,s3,(cs.getD 55 .dead).toInt⟩:ic)
def ic.of(cs:List D):ic:=ic.iE cs (bz .u32 (cs.getD 26 .dead)) (ez (cs.getD 50 .dead)) (bz .i64 (cs.getD 53 .dead)) (bz .i64 (cs.getD 54 .dead))
def iO.cj(x:iO)(s0:D):List D:=[s0,.int .u64 x.D5,.int .i64 x.D7]
def iO.cells(x:iO):List D:=iO.cj x (.sl 1 (.ah .str x.ae) false)
def iO.iE(cs:List D)(s0:List (List UInt8)):iO:=(⟨s0,(cs.getD 1 .dead).toInt,(cs.getD 2 .dead).toInt⟩:iO)
def iO.of(cs:List D):iO:=iO.iE cs (iP .str (cs.getD 0 .dead))
def fh.cj(x:fh)(s0 s1:D):List D:=[.int .i64 x.C2,.int .i64 x.C0,.int .i64 x.Frame,.str x.F2,.int .u32 x.A0.B2.X.a0,.int .u32 x.A0.B2.X.a1,.int .u32 x.A0.B2.X.a2,.int .u32 x.A0.B2.X.a3,.int .u32 x.A0.B2.X.a4,.int .u32 x.A0.B2.X.a5,.int .u32 x.A0.B2.X.a6,.int .u32 x.A0.B2.X.a7,.int .u32 x.A0.B2.X.a8,.int .u32 x.A0.B2.X.a9,.int .u32 x.A0.B2.X.kz,.int .u32 x.A0.B2.X.kA,.int .u32 x.A0.B2.X.a12,.int .u32 x.A0.B2.X.kB,.int .u32 x.A0.B2.X.kC,.int .u32 x.A0.B2.X.kD,.int .u32 x.A0.B2.Pc,.int .u32 x.A0.B2.C3.a0,.int .u32 x.A0.B2.C3.a1,.int .u32 x.A0.B2.C3.a2,.int .u32 x.A0.B2.C3.a3,.int .u32 x.A0.B2.C3.a4,.int .u32 x.A0.B2.C3.a5,.int .u32 x.A0.B2.C3.a6,.int .u32 x.A0.B2.C3.a7,s0,.str x.A0.B3.E0,.bool x.A0.B9.F1,.int .u32 x.A0.B9.D3,.bool x.A0.B9.D9,.int .u32 x.A0.B5.ae,.int .u32 x.A0.B5.C8,.int .u32 x.A0.B5.Frame,.int .i64 x.A0.B5.C9,.int .i64 x.A0.B5.F6,.int .u32 x.A0.B5.C5,.int .u32 x.A0.B5.C6,.str x.A0.B5.C7,.int .u32 x.A0.D1.Frame,.int .u32 x.A0.D1.F7,.bool x.A0.D1.D2,.int .u32 x.A0.D1.D4,.bool x.A0.D1.C4,.int .u32 x.A0.D1.F8,.int .u32 x.A0.A6.A2,.int .u32 x.A0.A6.D0,.int .u64 x.A0.B7,.bool x.A0.B4,.bool x.A0.B6,s1]
def fh.cells(x:fh):List D:=fh.cj x (.sl 1 (.ints .u32 x.A0.Mem) false) (.sl 1 (.ints .i64 x.A3) false)
def fh.iE(cs:List D)(s0 s1:List Int):fh:=(⟨(cs.getD 0 .dead).toInt,(cs.getD 1 .dead).toInt,(cs.getD 2 .dead).toInt,(cs.getD 3 .dead).toStr,(⟨(⟨(⟨(cs.getD 4 .dead).toInt,(cs.getD 5 .dead).toInt,(cs.getD 6 .dead).toInt,(cs.getD 7 .dead).toInt,(cs.getD 8 .dead).toInt,(cs.getD 9 .dead).toInt,(cs.getD 10 .dead).toInt,(cs.getD 11 .dead).toInt,(cs.getD 12 .dead).toInt,(cs.getD 13 .dead).toInt,(cs.getD 14 .dead).toInt,(cs.getD 15 .dead).toInt,(cs.getD 16 .dead).toInt,(cs.getD 17 .dead).toInt,(cs.getD 18 .dead).toInt,(cs.getD 19 .dead).toInt⟩:(ir Int)),(cs.getD 20 .dead).toInt,(⟨(cs.getD 21 .dead).toInt,(cs.getD 22 .dead).toInt,(cs.getD 23 .dead).toInt,(cs.getD 24 .dead).toInt,(cs.getD 25 .dead).toInt,(cs.getD 26 .dead).toInt,(cs.getD 27 .dead).toInt,(cs.getD 28 .dead).toInt⟩:(A8 Int))⟩:bu),s0,(⟨(cs.getD 30 .dead).toStr⟩:iH),(⟨(cs.getD 31 .dead).toBool,(cs.getD 32 .dead).toInt,(cs.getD 33 .dead).toBool⟩:iV),(⟨(cs.getD 34 .dead).toInt,(cs.getD 35 .dead).toInt,(cs.getD 36 .dead).toInt,(cs.getD 37 .dead).toInt,(cs.getD 38 .dead).toInt,(cs.getD 39 .dead).toInt,(cs.getD 40 .dead).toInt,(cs.getD 41 .dead).toStr⟩:fv),(⟨(cs.getD 42 .dead).toInt,(cs.getD 43 .dead).toInt,(cs.getD 44 .dead).toBool,(cs.getD 45 .dead).toInt,(cs.getD 46 .dead).toBool,(cs.getD 47 .dead).toInt⟩:gz),(⟨(cs.getD 48 .dead).toInt,(cs.getD 49 .dead).toInt⟩:gm),(cs.getD 50 .dead).toInt,(cs.getD 51 .dead).toBool,(cs.getD 52 .dead).toBool⟩:bg),s1⟩:fh)
def fh.of(cs:List D):fh:=fh.iE cs (bz .u32 (cs.getD 29 .dead)) (bz .i64 (cs.getD 53 .dead))
def dk.cj(x:dk)(s0 s1 s2 s3 s4 s5 s6 s7 s8 s9 Bw:D):List D:=[.int .i64 x.A1.A4,.int .u32 x.A1.A0.B2.X.a0,.int .u32 x.A1.A0.B2.X.a1,.int .u32 x.A1.A0.B2.X.a2,.int .u32 x.A1.A0.B2.X.a3,.int .u32 x.A1.A0.B2.X.a4,.int .u32 x.A1.A0.B2.X.a5,.int .u32 x.A1.A0.B2.X.a6,.int .u32 x.A1.A0.B2.X.a7,.int .u32 x.A1.A0.B2.X.a8,.int .u32 x.A1.A0.B2.X.a9,.int .u32 x.A1.A0.B2.X.kz,.int .u32 x.A1.A0.B2.X.kA,.int .u32 x.A1.A0.B2.X.a12,.int .u32 x.A1.A0.B2.X.kB,.int .u32 x.A1.A0.B2.X.kC,.int .u32 x.A1.A0.B2.X.kD,.int .u32 x.A1.A0.B2.Pc,.int .u32 x.A1.A0.B2.C3.a0,.int .u32 x.A1.A0.B2.C3.a1,.int .u32 x.A1.A0.B2.C3.a2,.int .u32 x.A1.A0.B2.C3.a3,.int .u32 x.A1.A0.B2.C3.a4,.int .u32 x.A1.A0.B2.C3.a5,.int .u32 x.A1.A0.B2.C3.a6,.int .u32 x.A1.A0.B2.C3.a7,s0,.str x.A1.A0.B3.E0,.bool x.A1.A0.B9.F1,.int .u32 x.A1.A0.B9.D3,.bool x.A1.A0.B9.D9,.int .u32 x.A1.A0.B5.ae,.int .u32 x.A1.A0.B5.C8,.int .u32 x.A1.A0.B5.Frame,.int .i64 x.A1.A0.B5.C9,.int .i64 x.A1.A0.B5.F6,.int .u32 x.A1.A0.B5.C5,.int .u32 x.A1.A0.B5.C6,.str x.A1.A0.B5.C7,.int .u32 x.A1.A0.D1.Frame,.int .u32 x.A1.A0.D1.F7,.bool x.A1.A0.D1.D2,.int .u32 x.A1.A0.D1.D4,.bool x.A1.A0.D1.C4,.int .u32 x.A1.A0.D1.F8,.int .u32 x.A1.A0.A6.A2,.int .u32 x.A1.A0.A6.D0,.int .u64 x.A1.A0.B7,.bool x.A1.A0.B4,.bool x.A1.A0.B6,s1,.int .i64 x.A1.B0.C0,.int .i64 x.A1.B0.D6,s2,s3,.int .u64 x.A1.D5,.int .i64 x.A2.A4,.int .u32 x.A2.A0.B2.X.a0,.int .u32 x.A2.A0.B2.X.a1,.int .u32 x.A2.A0.B2.X.a2,.int .u32 x.A2.A0.B2.X.a3,.int .u32 x.A2.A0.B2.X.a4,.int .u32 x.A2.A0.B2.X.a5,.int .u32 x.A2.A0.B2.X.a6,.int .u32 x.A2.A0.B2.X.a7,.int .u32 x.A2.A0.B2.X.a8,.int .u32 x.A2.A0.B2.X.a9,.int .u32 x.A2.A0.B2.X.kz,.int .u32 x.A2.A0.B2.X.kA,.int .u32 x.A2.A0.B2.X.a12,.int .u32 x.A2.A0.B2.X.kB,.int .u32 x.A2.A0.B2.X.kC,.int .u32 x.A2.A0.B2.X.kD,.int .u32 x.A2.A0.B2.Pc,.int .u32 x.A2.A0.B2.C3.a0,.int .u32 x.A2.A0.B2.C3.a1,.int .u32 x.A2.A0.B2.C3.a2,.int .u32 x.A2.A0.B2.C3.a3,.int .u32 x.A2.A0.B2.C3.a4,.int .u32 x.A2.A0.B2.C3.a5,.int .u32 x.A2.A0.B2.C3.a6,.int .u32 x.A2.A0.B2.C3.a7,s4,.str x.A2.A0.B3.E0,.bool x.A2.A0.B9.F1,.int .u32 x.A2.A0.B9.D3,.bool x.A2.A0.B9.D9,.int .u32 x.A2.A0.B5.ae,.int .u32 x.A2.A0.B5.C8,.int .u32 x.A2.A0.B5.Frame,.int .i64 x.A2.A0.B5.C9,.int .i64 x.A2.A0.B5.F6,.int .u32 x.A2.A0.B5.C5,.int .u32 x.A2.A0.B5.C6,.str x.A2.A0.B5.C7,.int .u32 x.A2.A0.D1.Frame,.int .u32 x.A2.A0.D1.F7,.bool x.A2.A0.D1.D2,.int .u32 x.A2.A0.D1.D4,.bool x.A2.A0.D1.C4,.int .u32 x.A2.A0.D1.F8,.int .u32 x.A2.A0.A6.A2,.int .u32 x.A2.A0.A6.D0,.int .u64 x.A2.A0.B7,.bool x.A2.A0.B4,.bool x.A2.A0.B6,s5,.int .i64 x.A2.B0.C0,.int .i64 x.A2.B0.D6,s6,s7,.int .u64 x.A2.D5,s8,s9,Bw,.int .u64 x.A9.D5,.int .i64 x.A9.D7]
def dk.cells(x:dk):List D:=dk.cj x (.sl 1 (.ints .u32 x.A1.A0.Mem) false) (.sl 1 (.ag x.A1.B0.B1) false) (.sl 1 (.ints .i64 x.A1.A3) false) (.sl 1 (.ints .i64 x.A1.B8) false) (.sl 1 (.ints .u32 x.A2.A0.Mem) false) (.sl 1 (.ag x.A2.B0.B1) false) (.sl 1 (.ints .i64 x.A2.A3) false) (.sl 1 (.ints .i64 x.A2.B8) false) (.sl 54 (.ah .aa x.A7) false) (.sl 54 (.ah .aa x.C1) false) (.sl 1 (.ah .str x.A9.ae) false)
def dk.iE(cs:List D)(s0:List Int)(s1:List Bool)(s2 s3 s4:List Int)(s5:List Bool)(s6 s7:List Int)(s8 s9:List fh)(Bw:List (List UInt8)):dk:=(⟨(⟨(cs.getD 0 .dead).toInt,(⟨(⟨(⟨(cs.getD 1 .dead).toInt,(cs.getD 2 .dead).toInt,(cs.getD 3 .dead).toInt,(cs.getD 4 .dead).toInt,(cs.getD 5 .dead).toInt,(cs.getD 6 .dead).toInt,(cs.getD 7 .dead).toInt,(cs.getD 8 .dead).toInt,(cs.getD 9 .dead).toInt,(cs.getD 10 .dead).toInt,(cs.getD 11 .dead).toInt,(cs.getD 12 .dead).toInt,(cs.getD 13 .dead).toInt,(cs.getD 14 .dead).toInt,(cs.getD 15 .dead).toInt,(cs.getD 16 .dead).toInt⟩:(ir Int)),(cs.getD 17 .dead).toInt,(⟨(cs.getD 18 .dead).toInt,(cs.getD 19 .dead).toInt,(cs.getD 20 .dead).toInt,(cs.getD 21 .dead).toInt,(cs.getD 22 .dead).toInt,(cs.getD 23 .dead).toInt,(cs.getD 24 .dead).toInt,(cs.getD 25 .dead).toInt⟩:(A8 Int))⟩:bu),s0,(⟨(cs.getD 27 .dead).toStr⟩:iH),(⟨(cs.getD 28 .dead).toBool,(cs.getD 29 .dead).toInt,(cs.getD 30 .dead).toBool⟩:iV),(⟨(cs.getD 31 .dead).toInt,(cs.getD 32 .dead).toInt,(cs.getD 33 .dead).toInt,(cs.getD 34 .dead).toInt,(cs.getD 35 .dead).toInt,(cs.getD 36 .dead).toInt,(cs.getD 37 .dead).toInt,(cs.getD 38 .dead).toStr⟩:fv),(⟨(cs.getD 39 .dead).toInt,(cs.getD 40 .dead).toInt,(cs.getD 41 .dead).toBool,(cs.getD 42 .dead).toInt,(cs.getD 43 .dead).toBool,(cs.getD 44 .dead).toInt⟩:gz),(⟨(cs.getD 45 .dead).toInt,(cs.getD 46 .dead).toInt⟩:gm),(cs.getD 47 .dead).toInt,(cs.getD 48 .dead).toBool,(cs.getD 49 .dead).toBool⟩:bg),(⟨s1,(cs.getD 51 .dead).toInt,(cs.getD 52 .dead).toInt⟩:gd),s2,s3,(cs.getD 55 .dead).toInt⟩:ic),(⟨(cs.getD 56 .dead).toInt,(⟨(⟨(⟨(cs.getD 57 .dead).toInt,(cs.getD 58 .dead).toInt,(cs.getD 59 .dead).toInt,(cs.getD 60 .dead).toInt,(cs.getD 61 .dead).toInt,(cs.getD 62 .dead).toInt,(cs.getD 63 .dead).toInt,(cs.getD 64 .dead).toInt,(cs.getD 65 .dead).toInt,(cs.getD 66 .dead).toInt,(cs.getD 67 .dead).toInt,(cs.getD 68 .dead).toInt,(cs.getD 69 .dead).toInt,(cs.getD 70 .dead).toInt,(cs.getD 71 .dead).toInt,(cs.getD 72 .dead).toInt⟩:(ir Int)),(cs.getD 73 .dead).toInt,(⟨(cs.getD 74 .dead).toInt,(cs.getD 75 .dead).toInt,(cs.getD 76 .dead).toInt,(cs.getD 77 .dead).toInt,(cs.getD 78 .dead).toInt,(cs.getD 79 .dead).toInt,(cs.getD 80 .dead).toInt,(cs.getD 81 .dead).toInt⟩:(A8 Int))⟩:bu),s4,(⟨(cs.getD 83 .dead).toStr⟩:iH),(⟨(cs.getD 84 .dead).toBool,(cs.getD 85 .dead).toInt,(cs.getD 86 .dead).toBool⟩:iV),(⟨(cs.getD 87 .dead).toInt,(cs.getD 88 .dead).toInt,(cs.getD 89 .dead).toInt,(cs.getD 90 .dead).toInt,(cs.getD 91 .dead).toInt,(cs.getD 92 .dead).toInt,(cs.getD 93 .dead).toInt,(cs.getD 94 .dead).toStr⟩:fv),(⟨(cs.getD 95 .dead).toInt,(cs.getD 96 .dead).toInt,(cs.getD 97 .dead).toBool,(cs.getD 98 .dead).toInt,(cs.getD 99 .dead).toBool,(cs.getD 100 .dead).toInt⟩:gz),(⟨(cs.getD 101 .dead).toInt,(cs.getD 102 .dead).toInt⟩:gm),(cs.getD 103 .dead).toInt,(cs.getD 104 .dead).toBool,(cs.getD 105 .dead).toBool⟩:bg),(⟨s5,(cs.getD 107 .dead).toInt,(cs.getD 108 .dead).toInt⟩:gd),s6,s7,(cs.getD 111 .dead).toInt⟩:ic),s8,s9,(⟨Bw,(cs.getD 115 .dead).toInt,(cs.getD 116 .dead).toInt⟩:iO)⟩:dk)
def dk.of(cs:List D):dk:=dk.iE cs (bz .u32 (cs.getD 26 .dead)) (ez (cs.getD 50 .dead)) (bz .i64 (cs.getD 53 .dead)) (bz .i64 (cs.getD 54 .dead)) (bz .u32 (cs.getD 82 .dead)) (ez (cs.getD 106 .dead)) (bz .i64 (cs.getD 109 .dead)) (bz .i64 (cs.getD 110 .dead)) (iP .aa (cs.getD 112 .dead)) (iP .aa (cs.getD 113 .dead)) (iP .str (cs.getD 114 .dead))
def jt.cells(x:jt):List D:=[.int .i64 x.C2,.int .i64 x.N,.bool x.C1,.int .u32 x.D8]
def jt.of(cs:List D):jt:=(⟨(cs.getD 0 .dead).toInt,(cs.getD 1 .dead).toInt,(cs.getD 2 .dead).toBool,(cs.getD 3 .dead).toInt⟩:jt)
def de.cj(x:de)(s0 s1 s2 s3 s4 s5 s6 s7 s8 s9 Bw:D):List D:=[.int .i64 x.A1.A4,.int .u32 x.A1.A0.B2.X.a0,.int .u32 x.A1.A0.B2.X.a1,.int .u32 x.A1.A0.B2.X.a2,.int .u32 x.A1.A0.B2.X.a3,.int .u32 x.A1.A0.B2.X.a4,.int .u32 x.A1.A0.B2.X.a5,.int .u32 x.A1.A0.B2.X.a6,.int .u32 x.A1.A0.B2.X.a7,.int .u32 x.A1.A0.B2.X.a8,.int .u32 x.A1.A0.B2.X.a9,.int .u32 x.A1.A0.B2.X.kz,.int .u32 x.A1.A0.B2.X.kA,.int .u32 x.A1.A0.B2.X.a12,.int .u32 x.A1.A0.B2.X.kB,.int .u32 x.A1.A0.B2.X.kC,.int .u32 x.A1.A0.B2.X.kD,.int .u32 x.A1.A0.B2.Pc,.int .u32 x.A1.A0.B2.C3.a0,.int .u32 x.A1.A0.B2.C3.a1,.int .u32 x.A1.A0.B2.C3.a2,.int .u32 x.A1.A0.B2.C3.a3,.int .u32 x.A1.A0.B2.C3.a4,.int .u32 x.A1.A0.B2.C3.a5,.int .u32 x.A1.A0.B2.C3.a6,.int .u32 x.A1.A0.B2.C3.a7,s0,.str x.A1.A0.B3.E0,.bool x.A1.A0.B9.F1,.int .u32 x.A1.A0.B9.D3,.bool x.A1.A0.B9.D9,.int .u32 x.A1.A0.B5.ae,.int .u32 x.A1.A0.B5.C8,.int .u32 x.A1.A0.B5.Frame,.int .i64 x.A1.A0.B5.C9,.int .i64 x.A1.A0.B5.F6,.int .u32 x.A1.A0.B5.C5,.int .u32 x.A1.A0.B5.C6,.str x.A1.A0.B5.C7,.int .u32 x.A1.A0.D1.Frame,.int .u32 x.A1.A0.D1.F7,.bool x.A1.A0.D1.D2,.int .u32 x.A1.A0.D1.D4,.bool x.A1.A0.D1.C4,.int .u32 x.A1.A0.D1.F8,.int .u32 x.A1.A0.A6.A2,.int .u32 x.A1.A0.A6.D0,.int .u64 x.A1.A0.B7,.bool x.A1.A0.B4,.bool x.A1.A0.B6,s1,.int .i64 x.A1.B0.C0,.int .i64 x.A1.B0.D6,s2,s3,.int .u64 x.A1.D5,.int .i64 x.A2.A4,.int .u32 x.A2.A0.B2.X.a0,.int .u32 x.A2.A0.B2.X.a1,.int .u32 x.A2.A0.B2.X.a2,.int .u32 x.A2.A0.B2.X.a3,.int .u32 x.A2.A0.B2.X.a4,.int .u32 x.A2.A0.B2.X.a5,.int .u32 x.A2.A0.B2.X.a6,.int .u32 x.A2.A0.B2.X.a7,.int .u32 x.A2.A0.B2.X.a8,.int .u32 x.A2.A0.B2.X.a9,.int .u32 x.A2.A0.B2.X.kz,.int .u32 x.A2.A0.B2.X.kA,.int .u32 x.A2.A0.B2.X.a12,.int .u32 x.A2.A0.B2.X.kB,.int .u32 x.A2.A0.B2.X.kC,.int .u32 x.A2.A0.B2.X.kD,.int .u32 x.A2.A0.B2.Pc,.int .u32 x.A2.A0.B2.C3.a0,.int .u32 x.A2.A0.B2.C3.a1,.int .u32 x.A2.A0.B2.C3.a2,.int .u32 x.A2.A0.B2.C3.a3,.int .u32 x.A2.A0.B2.C3.a4,.int .u32 x.A2.A0.B2.C3.a5,.int .u32 x.A2.A0.B2.C3.a6,.int .u32 x.A2.A0.B2.C3.a7,s4,.str x.A2.A0.B3.E0,.bool x.A2.A0.B9.F1,.int .u32 x.A2.A0.B9.D3,.bool x.A2.A0.B9.D9,.int .u32 x.A2.A0.B5.ae,.int .u32 x.A2.A0.B5.C8,.int .u32 x.A2.A0.B5.Frame,.int .i64 x.A2.A0.B5.C9,.int .i64 x.A2.A0.B5.F6,.int .u32 x.A2.A0.B5.C5,.int .u32 x.A2.A0.B5.C6,.str x.A2.A0.B5.C7,.int .u32 x.A2.A0.D1.Frame,.int .u32 x.A2.A0.D1.F7,.bool x.A2.A0.D1.D2,.int .u32 x.A2.A0.D1.D4,.bool x.A2.A0.D1.C4,.int .u32 x.A2.A0.D1.F8,.int .u32 x.A2.A0.A6.A2,.int .u32 x.A2.A0.A6.D0,.int .u64 x.A2.A0.B7,.bool x.A2.A0.B4,.bool x.A2.A0.B6,s5,.int .i64 x.A2.B0.C0,.int .i64 x.A2.B0.D6,s6,s7,.int .u64 x.A2.D5,s8,s9,Bw,.int .u64 x.A9.D5,.int .i64 x.A9.D7]
def de.cells(x:de):List D:=de.cj x (.sl 1 (.ints .u32 x.A1.A0.Mem) false) (.sl 1 (.ag x.A1.B0.B1) false) (.sl 1 (.ints .i64 x.A1.A3) false) (.sl 1 (.ints .i64 x.A1.B8) false) (.sl 1 (.ints .u32 x.A2.A0.Mem) false) (.sl 1 (.ag x.A2.B0.B1) false) (.sl 1 (.ints .i64 x.A2.A3) false) (.sl 1 (.ints .i64 x.A2.B8) false) (.sl 54 (.ah .aa x.A7) false) (.sl 54 (.ah .aa x.C1) false) (.sl 1 (.ah .str x.A9.ae) false)
def de.iE(cs:List D)(s0:List Int)(s1:List Bool)(s2 s3 s4:List Int)(s5:List Bool)(s6 s7:List Int)(s8 s9:List fh)(Bw:List (List UInt8)):de:=(⟨(⟨(cs.getD 0 .dead).toInt,(⟨(⟨(⟨(cs.getD 1 .dead).toInt,(cs.getD 2 .dead).toInt,(cs.getD 3 .dead).toInt,(cs.getD 4 .dead).toInt,(cs.getD 5 .dead).toInt,(cs.getD 6 .dead).toInt,(cs.getD 7 .dead).toInt,(cs.getD 8 .dead).toInt,(cs.getD 9 .dead).toInt,(cs.getD 10 .dead).toInt,(cs.getD 11 .dead).toInt,(cs.getD 12 .dead).toInt,(cs.getD 13 .dead).toInt,(cs.getD 14 .dead).toInt,(cs.getD 15 .dead).toInt,(cs.getD 16 .dead).toInt⟩:(ir Int)),(cs.getD 17 .dead).toInt,(⟨(cs.getD 18 .dead).toInt,(cs.getD 19 .dead).toInt,(cs.getD 20 .dead).toInt,(cs.getD 21 .dead).toInt,(cs.getD 22 .dead).toInt,(cs.getD 23 .dead).toInt,(cs.getD 24 .dead).toInt,(cs.getD 25 .dead).toInt⟩:(A8 Int))⟩:bu),s0,(⟨(cs.getD 27 .dead).toStr⟩:iH),(⟨(cs.getD 28 .dead).toBool,(cs.getD 29 .dead).toInt,(cs.getD 30 .dead).toBool⟩:iV),(⟨(cs.getD 31 .dead).toInt,(cs.getD 32 .dead).toInt,(cs.getD 33 .dead).toInt,(cs.getD 34 .dead).toInt,(cs.getD 35 .dead).toInt,(cs.getD 36 .dead).toInt,(cs.getD 37 .dead).toInt,(cs.getD 38 .dead).toStr⟩:fv),(⟨(cs.getD 39 .dead).toInt,(cs.getD 40 .dead).toInt,(cs.getD 41 .dead).toBool,(cs.getD 42 .dead).toInt,(cs.getD 43 .dead).toBool,(cs.getD 44 .dead).toInt⟩:gz),(⟨(cs.getD 45 .dead).toInt,(cs.getD 46 .dead).toInt⟩:gm),(cs.getD 47 .dead).toInt,(cs.getD 48 .dead).toBool,(cs.getD 49 .dead).toBool⟩:bg),(⟨s1,(cs.getD 51 .dead).toInt,(cs.getD 52 .dead).toInt⟩:gd),s2,s3,(cs.getD 55 .dead).toInt⟩:ic),(⟨(cs.getD 56 .dead).toInt,(⟨(⟨(⟨(cs.getD 57 .dead).toInt,(cs.getD 58 .dead).toInt,(cs.getD 59 .dead).toInt,(cs.getD 60 .dead).toInt,(cs.getD 61 .dead).toInt,(cs.getD 62 .dead).toInt,(cs.getD 63 .dead).toInt,(cs.getD 64 .dead).toInt,(cs.getD 65 .dead).toInt,(cs.getD 66 .dead).toInt,(cs.getD 67 .dead).toInt,(cs.getD 68 .dead).toInt,(cs.getD 69 .dead).toInt,(cs.getD 70 .dead).toInt,(cs.getD 71 .dead).toInt,(cs.getD 72 .dead).toInt⟩:(ir Int)),(cs.getD 73 .dead).toInt,(⟨(cs.getD 74 .dead).toInt,(cs.getD 75 .dead).toInt,(cs.getD 76 .dead).toInt,(cs.getD 77 .dead).toInt,(cs.getD 78 .dead).toInt,(cs.getD 79 .dead).toInt,(cs.getD 80 .dead).toInt,(cs.getD 81 .dead).toInt⟩:(A8 Int))⟩:bu),s4,(⟨(cs.getD 83 .dead).toStr⟩:iH),(⟨(cs.getD 84 .dead).toBool,(cs.getD 85 .dead).toInt,(cs.getD 86 .dead).toBool⟩:iV),(⟨(cs.getD 87 .dead).toInt,(cs.getD 88 .dead).toInt,(cs.getD 89 .dead).toInt,(cs.getD 90 .dead).toInt,(cs.getD 91 .dead).toInt,(cs.getD 92 .dead).toInt,(cs.getD 93 .dead).toInt,(cs.getD 94 .dead).toStr⟩:fv),(⟨(cs.getD 95 .dead).toInt,(cs.getD 96 .dead).toInt,(cs.getD 97 .dead).toBool,(cs.getD 98 .dead).toInt,(cs.getD 99 .dead).toBool,(cs.getD 100 .dead).toInt⟩:gz),(⟨(cs.getD 101 .dead).toInt,(cs.getD 102 .dead).toInt⟩:gm),(cs.getD 103 .dead).toInt,(cs.getD 104 .dead).toBool,(cs.getD 105 .dead).toBool⟩:bg),(⟨s5,(cs.getD 107 .dead).toInt,(cs.getD 108 .dead).toInt⟩:gd),s6,s7,(cs.getD 111 .dead).toInt⟩:ic),s8,s9,(⟨Bw,(cs.getD 115 .dead).toInt,(cs.getD 116 .dead).toInt⟩:iO)⟩:de)
def de.of(cs:List D):de:=de.iE cs (bz .u32 (cs.getD 26 .dead)) (ez (cs.getD 50 .dead)) (bz .i64 (cs.getD 53 .dead)) (bz .i64 (cs.getD 54 .dead)) (bz .u32 (cs.getD 82 .dead)) (ez (cs.getD 106 .dead)) (bz .i64 (cs.getD 109 .dead)) (bz .i64 (cs.getD 110 .dead)) (iP .aa (cs.getD 112 .dead)) (iP .aa (cs.getD 113 .dead)) (iP .str (cs.getD 114 .dead))
def tq.cells(x:tq):List D:=[.int .i64 x.wY,.int .i64 x.ny]
def tq.of(cs:List D):tq:=(⟨(cs.getD 0 .dead).toInt,(cs.getD 1 .dead).toInt⟩:tq)
def kY.cells(x:kY):List D:=[.int .i64 x.Frame,.str x.F2]
def kY.of(cs:List D):kY:=(⟨(cs.getD 0 .dead).toInt,(cs.getD 1 .dead).toStr⟩:kY)
def ly.cells(x:ly):List D:=[.int .i64 x.C2,.int .i64 x.F0,.int .i64 x.F9,.int .u32 x.Value]
def ly.of(cs:List D):ly:=(⟨(cs.getD 0 .dead).toInt,(cs.getD 1 .dead).toInt,(cs.getD 2 .dead).toInt,(cs.getD 3 .dead).toInt⟩:ly)
def nz.cells(x:nz):List D:=[.int .i64 x.kE,.int .i64 x.num,.str x.label]
def nz.of(cs:List D):nz:=(⟨(cs.getD 0 .dead).toInt,(cs.getD 1 .dead).toInt,(cs.getD 2 .dead).toStr⟩:nz)
def kr.cj(x:kr)(s0:D):List D:=[.str x.ea,.int .i64 x.op,s0,.int .i64 x.F4,.int .i64 x.at_,.int .i64 x.size]
def kr.cells(x:kr):List D:=kr.cj x (.sl 3 (.ah .ay x.l) false)
def kr.iE(cs:List D)(s0:List nz):kr:=(⟨(cs.getD 0 .dead).toStr,(cs.getD 1 .dead).toInt,s0,(cs.getD 3 .dead).toInt,(cs.getD 4 .dead).toInt,(cs.getD 5 .dead).toInt⟩:kr)
def kr.of(cs:List D):kr:=kr.iE cs (iP .ay (cs.getD 2 .dead))
def ib.cells(x:ib):List D:=[.int .i64 x.Op,.int .i64 x.A,.int .i64 x.B,.int .i64 x.C,.int .i32 x.cf]
def ib.of(cs:List D):ib:=(⟨(cs.getD 0 .dead).toInt,(cs.getD 1 .dead).toInt,(cs.getD 2 .dead).toInt,(cs.getD 3 .dead).toInt,(cs.getD 4 .dead).toInt⟩:ib)
def uW.cells(x:uW):List D:=[.int .i64 x.C2,.int .u32 x.N,.str x.F2]
def uW.of(cs:List D):uW:=(⟨(cs.getD 0 .dead).toInt,(cs.getD 1 .dead).toInt,(cs.getD 2 .dead).toStr⟩:uW)
def pH.cells(x:pH):List D:=[.int .u64 x.At,.int .i64 x.Event.C2,.int .u32 x.Event.N,.str x.Event.F2]
def pH.of(cs:List D):pH:=(⟨(cs.getD 0 .dead).toInt,(⟨(cs.getD 1 .dead).toInt,(cs.getD 2 .dead).toInt,(cs.getD 3 .dead).toStr⟩:uW)⟩:pH)
def iq.cells(x:iq):List D:=[.int .i64 x.C2,.int .u64 x.At,.int .u32 x.C8,.str x.F2]
def iq.of(cs:List D):iq:=(⟨(cs.getD 0 .dead).toInt,(cs.getD 1 .dead).toInt,(cs.getD 2 .dead).toInt,(cs.getD 3 .dead).toStr⟩:iq)
def nZ.cells(x:nZ):List D:=[.str x.Name,.int .u32 x.Addr]
def nZ.of(cs:List D):nZ:=(⟨(cs.getD 0 .dead).toStr,(cs.getD 1 .dead).toInt⟩:nZ)
def rF.cells(x:rF):List D:=[.int .u32 x.Addr,.int .u32 x.G1,.int .i64 x.G0]
def rF.of(cs:List D):rF:=(⟨(cs.getD 0 .dead).toInt,(cs.getD 1 .dead).toInt,(cs.getD 2 .dead).toInt⟩:rF)
def kZ.cells(x:kZ):List D:=[.int .i64 x.kind,.str x.F3,.bool x.wZ]
def kZ.of(cs:List D):kZ:=(⟨(cs.getD 0 .dead).toInt,(cs.getD 1 .dead).toStr,(cs.getD 2 .dead).toBool⟩:kZ)
def w4.cells(x:w4):List D:=[.bool x.a,.bool x.b,.bool x.c,.int .i32 x.low,.int .i32 x.F5]
def w4.of(cs:List D):w4:=(⟨(cs.getD 0 .dead).toBool,(cs.getD 1 .dead).toBool,(cs.getD 2 .dead).toBool,(cs.getD 3 .dead).toInt,(cs.getD 4 .dead).toInt⟩:w4)
def RK.size:RK->Nat
 |.aw=>4
 |.aa=>54
 |.str=>1
 |.bw=>4
 |.bq=>2
 |.dq=>2
 |.ak=>6
 |.ay=>3
 |.ff=>4
 |.av=>3
def Dt:CT->D->D
 |.int k,d=>.int k d.toInt
 |.bool,d=>.bool d.toBool
 |.str,d=>.str d.toStr
 |.ints k,d=>.sl 1 (.ints k (bz k d)) false
 |.ag,d=>.sl 1 (.ag (ez d)) false
 |.ah k,d=>.sl k.size (.ah k (iP k d)) false
 |.row i,_=>.all i
 |.nil,_=>.sl 0 (.gen []) false
 |.HN,_=>.c8
 |.self i,_=>.gq i
 |.pt i o f,_=>.ptr i o f
 |.gp f cs,_=>.gp f cs
def uX:List CT->List D->Nat->List D
 |[],_,_=>[]
 |t::ts,cs,j=>Dt t (cs.getD j .dead)::uX ts cs (j+1)
def bu.sig:List CT:=[.int .u32,.int .u32,.int .u32,.int .u32,.int .u32,.int .u32,.int .u32,.int .u32,.int .u32,.int .u32,.int .u32,.int .u32,.int .u32,.int .u32,.int .u32,.int .u32,.int .u32,.int .u32,.int .u32,.int .u32,.int .u32,.int .u32,.int .u32,.int .u32,.int .u32]
def iH.sig:List CT:=[.str]
def iV.sig:List CT:=[.bool,.int .u32,.bool]
def fv.sig:List CT:=[.int .u32,.int .u32,.int .u32,.int .i64,.int .i64,.int .u32,.int .u32,.str]
def gz.sig:List CT:=[.int .u32,.int .u32,.bool,.int .u32,.bool,.int .u32]
def gm.sig:List CT:=[.int .u32,.int .u32]
def bg.ik(s0:CT):List CT:=[.int .u32,.int .u32,.int .u32,.int .u32,.int .u32,.int .u32,.int .u32,.int .u32,.int .u32,.int .u32,.int .u32,.int .u32,.int .u32,.int .u32,.int .u32,.int .u32,.int .u32,.int .u32,.int .u32,.int .u32,.int .u32,.int .u32,.int .u32,.int .u32,.int .u32,s0,.str,.bool,.int .u32,.bool,.int .u32,.int .u32,.int .u32,.int .i64,.int .i64,.int .u32,.int .u32,.str,.int .u32,.int .u32,.bool,.int .u32,.bool,.int .u32,.int .u32,.int .u32,.int .u64,.bool,.bool]
def bg.sig:List CT:=bg.ik (.ints .u32)
def gd.ik(s0:CT):List CT:=[s0,.int .i64,.int .i64]
def gd.sig:List CT:=gd.ik (.ag)
def ic.ik(s0 s1 s2 s3:CT):List CT:=[.int .i64,.int .u32,.int .u32,.int .u32,.int .u32,.int .u32,.int .u32,.int .u32,.int .u32,.int .u32,.int .u32,.int .u32,.int .u32,.int .u32,.int .u32,.int .u32,.int .u32,.int .u32,.int .u32,.int .u32,.int .u32,.int .u32,.int .u32,.int .u32,.int .u32,.int .u32,s0,.str,.bool,.int .u32,.bool,.int .u32,.int .u32,.int .u32,.int .i64,.int .i64,.int .u32,.int .u32,.str,.int .u32,.int .u32,.bool,.int .u32,.bool,.int .u32,.int .u32,.int .u32,.int .u64,.bool,.bool,s1,.int .i64,.int .i64,s2,s3,.int .u64]
def ic.sig:List CT:=ic.ik (.ints .u32) (.ag) (.ints .i64) (.ints .i64)
def iO.ik(s0:CT):List CT:=[s0,.int .u64,.int .i64]
def iO.sig:List CT:=iO.ik (.ah .str)
def fh.ik(s0 s1:CT):List CT:=[.int .i64,.int .i64,.int .i64,.str,.int .u32,.int .u32,.int .u32,.int .u32,.int .u32,.int .u32,.int .u32,.int .u32,.int .u32,.int .u32,.int .u32,.int .u32,.int .u32,.int .u32,.int .u32,.int .u32,.int .u32,.int .u32,.int .u32,.int .u32,.int .u32,.int .u32,.int .u32,.int .u32,.int .u32,s0,.str,.bool,.int .u32,.bool,.int .u32,.int .u32,.int .u32,.int .i64,.int .i64,.int .u32,.int .u32,.str,.int .u32,.int .u32,.bool,.int .u32,.bool,.int .u32,.int .u32,.int .u32,.int .u64,.bool,.bool,s1]
def fh.sig:List CT:=fh.ik (.ints .u32) (.ints .i64)
def dk.ik(s0 s1 s2 s3 s4 s5 s6 s7 s8 s9 Bw:CT):List CT:=[.int .i64,.int .u32,.int .u32,.int .u32,.int .u32,.int .u32,.int .u32,.int .u32,.int .u32,.int .u32,.int .u32,.int .u32,.int .u32,.int .u32,.int .u32,.int .u32,.int .u32,.int .u32,.int .u32,.int .u32,.int .u32,.int .u32,.int .u32,.int .u32,.int .u32,.int .u32,s0,.str,.bool,.int .u32,.bool,.int .u32,.int .u32,.int .u32,.int .i64,.int .i64,.int .u32,.int .u32,.str,.int .u32,.int .u32,.bool,.int .u32,.bool,.int .u32,.int .u32,.int .u32,.int .u64,.bool,.bool,s1,.int .i64,.int .i64,s2,s3,.int .u64,.int .i64,.int .u32,.int .u32,.int .u32,.int .u32,.int .u32,.int .u32,.int .u32,.int .u32,.int .u32,.int .u32,.int .u32,.int .u32,.int .u32,.int .u32,.int .u32,.int .u32,.int .u32,.int .u32,.int .u32,.int .u32,.int .u32,.int .u32,.int .u32,.int .u32,.int .u32,s4,.str,.bool,.int .u32,.bool,.int .u32,.int .u32,.int .u32,.int .i64,.int .i64,.int .u32,.int .u32,.str,.int .u32,.int .u32,.bool,.int .u32,.bool,.int .u32,.int .u32,.int .u32,.int .u64,.bool,.bool,s5,.int .i64,.int .i64,s6,s7,.int .u64,s8,s9,Bw,.int .u64,.int .i64]
def dk.sig:List CT:=dk.ik (.ints .u32) (.ag) (.ints .i64) (.ints .i64) (.ints .u32) (.ag) (.ints .i64) (.ints .i64) (.ah .aa) (.ah .aa) (.ah .str)
def jt.sig:List CT:=[.int .i64,.int .i64,.bool,.int .u32]
def de.ik(s0 s1 s2 s3 s4 s5 s6 s7 s8 s9 Bw:CT):List CT:=[.int .i64,.int .u32,.int .u32,.int .u32,.int .u32,.int .u32,.int .u32,.int .u32,.int .u32,.int .u32,.int .u32,.int .u32,.int .u32,.int .u32,.int .u32,.int .u32,.int .u32,.int .u32,.int .u32,.int .u32,.int .u32,.int .u32,.int .u32,.int .u32,.int .u32,.int .u32,s0,.str,.bool,.int .u32,.bool,.int .u32,.int .u32,.int .u32,.int .i64,.int .i64,.int .u32,.int .u32,.str,.int .u32,.int .u32,.bool,.int .u32,.bool,.int .u32,.int .u32,.int .u32,.int .u64,.bool,.bool,s1,.int .i64,.int .i64,s2,s3,.int .u64,.int .i64,.int .u32,.int .u32,.int .u32,.int .u32,.int .u32,.int .u32,.int .u32,.int .u32,.int .u32,.int .u32,.int .u32,.int .u32,.int .u32,.int .u32,.int .u32,.int .u32,.int .u32,.int .u32,.int .u32,.int .u32,.int .u32,.int .u32,.int .u32,.int .u32,.int .u32,s4,.str,.bool,.int .u32,.bool,.int .u32,.int .u32,.int .u32,.int .i64,.int .i64,.int .u32,.int .u32,.str,.int .u32,.int .u32,.bool,.int .u32,.bool,.int .u32,.int .u32,.int .u32,.int .u64,.bool,.bool,s5,.int .i64,.int .i64,s6,s7,.int .u64,s8,s9,Bw,.int .u64,.int .i64]
def de.sig:List CT:=de.ik (.ints .u32) (.ag) (.ints .i64) (.ints .i64) (.ints .u32) (.ag) (.ints .i64) (.ints .i64) (.ah .aa) (.ah .aa) (.ah .str)
def tq.sig:List CT:=[.int .i64,.int .i64]
def kY.sig:List CT:=[.int .i64,.str]
def ly.sig:List CT:=[.int .i64,.int .i64,.int .i64,.int .u32]
def nz.sig:List CT:=[.int .i64,.int .i64,.str]
def kr.ik(s0:CT):List CT:=[.str,.int .i64,s0,.int .i64,.int .i64,.int .i64]
def kr.sig:List CT:=kr.ik (.ah .ay)
def ib.sig:List CT:=[.int .i64,.int .i64,.int .i64,.int .i64,.int .i32]
def uW.sig:List CT:=[.int .i64,.int .u32,.str]
def pH.sig:List CT:=[.int .u64,.int .i64,.int .u32,.str]
def iq.sig:List CT:=[.int .i64,.int .u64,.int .u32,.str]
def nZ.sig:List CT:=[.str,.int .u32]
def rF.sig:List CT:=[.int .u32,.int .u32,.int .i64]
def kZ.sig:List CT:=[.int .i64,.str,.bool]
def w4.sig:List CT:=[.bool,.bool,.bool,.int .i32,.int .i32]
def RK.sig:RK->List CT
 |.aw=>jt.sig
 |.aa=>fh.sig
 |.str=>[.str]
 |.bw=>iq.sig
 |.bq=>kY.sig
 |.dq=>nZ.sig
 |.ak=>kr.sig
 |.ay=>nz.sig
 |.ff=>pH.sig
 |.av=>kZ.sig
def RK.cells:(k:RK)->RK.T k->List D
 |.aw,x=>jt.cells x
 |.aa,x=>fh.cells x
 |.str,x=>[.str x]
 |.bw,x=>iq.cells x
 |.bq,x=>kY.cells x
 |.dq,x=>nZ.cells x
 |.ak,x=>kr.cells x
 |.ay,x=>nz.cells x
 |.ff,x=>pH.cells x
 |.av,x=>kZ.cells x
def RK.of:(k:RK)->List D->RK.T k
 |.aw,cs=>jt.of cs
 |.aa,cs=>fh.of cs
 |.str,cs=>(cs.getD 0 .dead).toStr
 |.bw,cs=>iq.of cs
 |.bq,cs=>kY.of cs
 |.dq,cs=>nZ.of cs
 |.ak,cs=>kr.of cs
 |.ay,cs=>nz.of cs
 |.ff,cs=>pH.of cs
 |.av,cs=>kZ.of cs
theorem RK.Bx(k:RK)(cs:List D):k.cells (k.of cs)=uX k.sig cs 0:=by cases k<;>kernel_rfl
theorem RK.oa(k:RK)(x:RK.T k):uX k.sig (k.cells x) 0=k.cells x:=by cases k<;>kernel_rfl
theorem RK.tO(k:RK):k.sig.length=k.size:=by cases k<;>rfl
