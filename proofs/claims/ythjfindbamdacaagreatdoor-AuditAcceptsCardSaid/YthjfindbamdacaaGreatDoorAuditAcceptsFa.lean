import Derived.WalkKit
import Derived.KernelRfl
set_option linter.all false
namespace Go.GD
variable {m n:Nat}{p:Prop}
theorem oY{p:Prop}[Decidable p](h:decide p=true):p:=of_decide_eq_true h
theorem oN[Decidable p](h:decide p=false):¬p:=of_decide_eq_false h
theorem dY[Decidable p](h:p):decide p=true:=decide_eq_true h
theorem dN[Decidable p](h:¬p):decide p=false:=decide_eq_false h
theorem bE(h:Nat.beq n m=true):n=m:=Nat.eq_of_beq_eq_true h
theorem lE(h:Nat.ble n m=true):n<=m:=Nat.le_of_ble_eq_true h
theorem aE(a b:Bool):((a&&b)=true)=(a=true/\b=true):=Bool.and_eq_true a b
theorem lA{α:Type}{a b:List α}:(a++b).length=a.length+b.length:=List.length_append
structure A5(α:Type) where
 (a0 a1 a2 a3 a4:α)
 deriving DecidableEq,Inhabited
def A5.l{α:Type}(x:A5 α):List α:=[x.a0,x.a1,x.a2,x.a3,x.a4]
def A5.of{α:Type}(z:α)(l:List α):A5 α:=⟨l.getD 0 z,l.getD 1 z,l.getD 2 z,l.getD 3 z,l.getD 4 z⟩
structure A8(α:Type) where
 (a0 a1 a2 a3 a4 a5 a6 a7:α)
 deriving DecidableEq,Inhabited
def A8.l{α:Type}(x:A8 α):List α:=[x.a0,x.a1,x.a2,x.a3,x.a4,x.a5,x.a6,x.a7]
def A8.of{α:Type}(z:α)(l:List α):A8 α:=⟨l.getD 0 z,l.getD 1 z,l.getD 2 z,l.getD 3 z,l.getD 4 z,l.getD 5 z,l.getD 6 z,l.getD 7 z⟩
structure gn(α:Type) where
 (a0 a1 a2 a3 a4 a5 a6 a7 a8 a9 kv ky a12 kz kA kB:α)
 deriving DecidableEq,Inhabited
def gn.l{α:Type}(x:gn α):List α:=[x.a0,x.a1,x.a2,x.a3,x.a4,x.a5,x.a6,x.a7,x.a8,x.a9,x.kv,x.ky,x.a12,x.kz,x.kA,x.kB]
def gn.of{α:Type}(z:α)(l:List α):gn α:=⟨l.getD 0 z,l.getD 1 z,l.getD 2 z,l.getD 3 z,l.getD 4 z,l.getD 5 z,l.getD 6 z,l.getD 7 z,l.getD 8 z,l.getD 9 z,l.getD 10 z,l.getD 11 z,l.getD 12 z,l.getD 13 z,l.getD 14 z,l.getD 15 z⟩
structure SY(α:Type) where
 (a0 a1 a2 a3 a4 a5 a6 a7 a8 a9 kv ky a12 kz kA kB NB NC ND NF:α)
 deriving DecidableEq,Inhabited
def SY.l{α:Type}(x:SY α):List α:=[x.a0,x.a1,x.a2,x.a3,x.a4,x.a5,x.a6,x.a7,x.a8,x.a9,x.kv,x.ky,x.a12,x.kz,x.kA,x.kB,x.NB,x.NC,x.ND,x.NF]
def SY.of{α:Type}(z:α)(l:List α):SY α:=⟨l.getD 0 z,l.getD 1 z,l.getD 2 z,l.getD 3 z,l.getD 4 z,l.getD 5 z,l.getD 6 z,l.getD 7 z,l.getD 8 z,l.getD 9 z,l.getD 10 z,l.getD 11 z,l.getD 12 z,l.getD 13 z,l.getD 14 z,l.getD 15 z,l.getD 16 z,l.getD 17 z,l.getD 18 z,l.getD 19 z⟩
structure SZ(α:Type) where
 (a0 a1 a2 a3 a4 a5 a6 a7 a8 a9 kv ky a12 kz kA kB NB NC ND NF a20 a21 a22 WO:α)
 deriving DecidableEq,Inhabited
def SZ.l{α:Type}(x:SZ α):List α:=[x.a0,x.a1,x.a2,x.a3,x.a4,x.a5,x.a6,x.a7,x.a8,x.a9,x.kv,x.ky,x.a12,x.kz,x.kA,x.kB,x.NB,x.NC,x.ND,x.NF,x.a20,x.a21,x.a22,x.WO]
def SZ.of{α:Type}(z:α)(l:List α):SZ α:=⟨l.getD 0 z,l.getD 1 z,l.getD 2 z,l.getD 3 z,l.getD 4 z,l.getD 5 z,l.getD 6 z,l.getD 7 z,l.getD 8 z,l.getD 9 z,l.getD 10 z,l.getD 11 z,l.getD 12 z,l.getD 13 z,l.getD 14 z,l.getD 15 z,l.getD 16 z,l.getD 17 z,l.getD 18 z,l.getD 19 z,l.getD 20 z,l.getD 21 z,l.getD 22 z,l.getD 23 z⟩
structure S0(α:Type) where
 (a0 a1 a2 a3 a4 a5 a6 a7 a8 a9 kv ky a12 kz kA kB NB NC ND NF a20 a21 a22 WO a24 a25 a26 a27 a28 a29 a30 a31:α)
 deriving DecidableEq,Inhabited
def S0.l{α:Type}(x:S0 α):List α:=[x.a0,x.a1,x.a2,x.a3,x.a4,x.a5,x.a6,x.a7,x.a8,x.a9,x.kv,x.ky,x.a12,x.kz,x.kA,x.kB,x.NB,x.NC,x.ND,x.NF,x.a20,x.a21,x.a22,x.WO,x.a24,x.a25,x.a26,x.a27,x.a28,x.a29,x.a30,x.a31]
def S0.of{α:Type}(z:α)(l:List α):S0 α:=⟨l.getD 0 z,l.getD 1 z,l.getD 2 z,l.getD 3 z,l.getD 4 z,l.getD 5 z,l.getD 6 z,l.getD 7 z,l.getD 8 z,l.getD 9 z,l.getD 10 z,l.getD 11 z,l.getD 12 z,l.getD 13 z,l.getD 14 z,l.getD 15 z,l.getD 16 z,l.getD 17 z,l.getD 18 z,l.getD 19 z,l.getD 20 z,l.getD 21 z,l.getD 22 z,l.getD 23 z,l.getD 24 z,l.getD 25 z,l.getD 26 z,l.getD 27 z,l.getD 28 z,l.getD 29 z,l.getD 30 z,l.getD 31 z⟩
structure bm where
 X:(gn Int)
 Pc:Int
 B3:(A8 Int)
 deriving DecidableEq,Inhabited
structure iY where
 C9:(List UInt8)
 deriving DecidableEq,Inhabited
structure iZ where
 D3:Bool
 C3:Int
 D2:Bool
 deriving DecidableEq,Inhabited
structure fv where
 ag:Int
 C2:Int
 Frame:Int
 B8:Int
 D5:Int
 B6:Int
 B2:Int
 B7:(List UInt8)
 deriving DecidableEq,Inhabited
structure ik where
 Frame:Int
 D9:Int
 C5:Bool
 B9:Int
 B5:Bool
 F0:Int
 deriving DecidableEq,Inhabited
structure iu where
 C7:Int
 C4:Int
 deriving DecidableEq,Inhabited
structure av where
 B0:bm
 Mem:(List Int)
 A3:iY
 A9:iZ
 A7:fv
 C1:ik
 A2:iu
 A1:Int
 A4:Bool
 A6:Bool
 deriving DecidableEq,Inhabited
structure wD where
 A0:av
 Fe:(List Bool)
 WQ:Int
 Iy:Int
 deriving DecidableEq,Inhabited
structure KR where
 Frame:Int
 D0:(List UInt8)
 deriving DecidableEq,Inhabited
structure ib where
 C0:Int
 N:Int
 D0:(List UInt8)
 deriving DecidableEq,Inhabited
structure jW where
 Good:Bool
 D8:Int
 At:Int
 deriving DecidableEq,Inhabited
structure fx where
 At:Int
 D4:Int
 deriving DecidableEq,Inhabited
structure ep where
 At:Int
 C6:ib
 deriving DecidableEq,Inhabited
structure tL where
 Ay:Int
 nG:Int
 deriving DecidableEq,Inhabited
structure kT where
 C0:Int
 D1:Int
 E0:Int
 Value:Int
 deriving DecidableEq,Inhabited
structure dk where
 C0:Int
 At:Int
 C2:Int
 D0:(List UInt8)
 deriving DecidableEq,Inhabited
structure dj where
 A0:av
 B4:Int
 C8:(List ep)
 B1:(List ib)
 deriving DecidableEq,Inhabited
structure nH where
 kM:Int
 num:Int
 label:(List UInt8)
 deriving DecidableEq,Inhabited
structure kH where
 ej:(List UInt8)
 op:Int
 l:(List nH)
 D7:Int
 at_:Int
 size:Int
 deriving DecidableEq,Inhabited
structure gw where
 Op:Int
 A:Int
 B:Int
 C:Int
 bo:Int
 deriving DecidableEq,Inhabited
structure oq where
 Name:(List UInt8)
 Addr:Int
 deriving DecidableEq,Inhabited
structure rY where
 Addr:Int
 F3:Int
 F1:Int
 deriving DecidableEq,Inhabited
structure Az where
 a:Bool
 b:Bool
 c:Bool
 low:Int
 D6:Int
 deriving DecidableEq,Inhabited
structure lJ where
 kind:Int
 text:(List UInt8)
 AA:Bool
 deriving DecidableEq,Inhabited
inductive RK where
 |ay|ab|ae|bc|dq|ai|bb|str|ba
 deriving DecidableEq
@[reducible] def RK.T:RK->Type
 |.ay=>dk
 |.ab=>ep
 |.ae=>fx
 |.bc=>ib
 |.dq=>oq
 |.ai=>kH
 |.bb=>nH
 |.str=>(List UInt8)
 |.ba=>lJ
def RK.cw:(k:RK)->RK.T k
 |.ay=>(default:dk)
 |.ab=>(default:ep)
 |.ae=>(default:fx)
 |.bc=>(default:ib)
 |.dq=>(default:oq)
 |.ai=>(default:kH)
 |.bb=>(default:nH)
 |.str=>(default:List UInt8)
 |.ba=>(default:lJ)
def RK.NG:Nat->Option RK
 |137=>some .ay
 |103=>some .ab
 |100=>some .ae
 |72=>some .bc
 |238=>some .dq
 |175=>some .ai
 |177=>some .bb
 |9=>some .str
 |303=>some .ba
 |_=>none
end Go.GD
namespace Go.GD
open Go
instance (k:RK):Inhabited (RK.T k):=⟨RK.cw k⟩
mutual
inductive D where
 |bool (b:Bool)
 |int (k:IntKind) (n:Int)
 |str (s:List UInt8)
 |sl (sz:Nat) (es:ak) (fr:Bool)
 |all (r:Nat)
 |own (r o n:Nat)
 |ptr (r i off:Nat)
 |pa (r i off len:Nat) (k:Option IntKind) (n:Nat)
 |iv (sz:Nat) (es:ak) (i off:Nat)
 |iO
 |dx
 |emp
 |rz (es:ak)
 |dead
 |gq (f:Nat) (cs:List iJ)
 |c9 (r:Nat)
 |jP
 |agg (cs:List D)
 |dt (ds:List D)
inductive ak where
 |gen (es:List (List D))
 |ints (k:IntKind) (l:List Int)
 |bw (l:List Bool)
 |ax (k:RK) (l:List (RK.T k))
inductive iJ where
 |ptr (r i off:Nat)
 |int (k:IntKind) (n:Int)
 |arr (r:Nat)
 |sl (sz:Nat) (es:ak) (fr:Bool)
 |fn (f:Nat) (ps:List (Nat×Nat×Nat))
end
instance:Inhabited D:=⟨.dead⟩
instance:Inhabited ak:=⟨.gen []⟩
def Iz(p:Nat×Nat×Nat):iJ:=.ptr p.1 p.2.1 p.2.2
def iJ.d:iJ->D|.ptr r i off=>.ptr r i off|.int k n=>.int k n|.arr r=>.all r|.sl a b c=>.sl a b c|.fn f ps=>.gq f (ps.map Iz)
def D.isInt(k:IntKind):D->Bool|.int j _=>decide (j=k)|_=>false
def D.toInt:D->Int|.int _ n=>n|_=>0
def D.isBool:D->Bool|.bool _=>true|_=>false
def D.toBool:D->Bool|.bool b=>b|_=>false
def D.isStr:D->Bool|.str _=>true|_=>false
def D.toStr:D->List UInt8|.str s=>s|_=>[]
def Gz(k k':RK)(l:List (RK.T k)):Option (List (RK.T k')):=if h:k=k' then some (h▸l)else none
theorem Zbt(k:RK)(l:List (RK.T k)):Gz k k l=some l:=by simp[Gz]
theorem WR{k k':RK}{l:List (RK.T k)}{m:List (RK.T k')}(h:Gz k k' l=some m):∃e:k=k',e▸l=m:=by
 unfold Gz at h
 split at h
 ·rename_i e;cases h;exact⟨e,rfl⟩
 ·cases h
def ak.toI(k:IntKind):ak->Option (List Int)
 |.ints k' l=>match decide (k'=k)with|true=>some l|false=>none
 |.gen []=>some []
 |_=>none
def ak.toB:ak->Option (List Bool)
 |.bw l=>some l
 |.gen []=>some []
 |_=>none
def ak.toR(k:RK):ak->Option (List (RK.T k))
 |.ax k' l=>Gz k' k l
 |.gen []=>some []
 |_=>none
inductive CT where|int(k:IntKind)|bool|str|ints(k:IntKind)|bw|ax(k:RK)|row(i:Nat)|nil|IA|self(i:Nat)|pt(i o f:Nat)|gq(f:Nat)(cs:List iJ)
def nI(k:IntKind):D->List Int|.sl _ E _=>(match E.toI k with|some l=>l|none=>[])|_=>[]
def S1:D->List Bool|.sl _ E _=>(match E.toB with|some l=>l|none=>[])|_=>[]
def sJ(k:RK):D->List (RK.T k)|.sl _ E _=>(match E.toR k with|some l=>l|none=>[])|_=>[]
def bm.cells(x:bm):List D:=[.int .u32 x.X.a0,.int .u32 x.X.a1,.int .u32 x.X.a2,.int .u32 x.X.a3,.int .u32 x.X.a4,.int .u32 x.X.a5,.int .u32 x.X.a6,.int .u32 x.X.a7,.int .u32 x.X.a8,.int .u32 x.X.a9,.int .u32 x.X.kv,.int .u32 x.X.ky,.int .u32 x.X.a12,.int .u32 x.X.kz,.int .u32 x.X.kA,.int .u32 x.X.kB,.int .u32 x.Pc,.int .u32 x.B3.a0,.int .u32 x.B3.a1,.int .u32 x.B3.a2,.int .u32 x.B3.a3,.int .u32 x.B3.a4,.int .u32 x.B3.a5,.int .u32 x.B3.a6,.int .u32 x.B3.a7]
def bm.of(cs:List D):bm:=(⟨(⟨(cs.getD 0 .dead).toInt,(cs.getD 1 .dead).toInt,(cs.getD 2 .dead).toInt,(cs.getD 3 .dead).toInt,(cs.getD 4 .dead).toInt,(cs.getD 5 .dead).toInt,(cs.getD 6 .dead).toInt,(cs.getD 7 .dead).toInt,(cs.getD 8 .dead).toInt,(cs.getD 9 .dead).toInt,(cs.getD 10 .dead).toInt,(cs.getD 11 .dead).toInt,(cs.getD 12 .dead).toInt,(cs.getD 13 .dead).toInt,(cs.getD 14 .dead).toInt,(cs.getD 15 .dead).toInt⟩:(gn Int)),(cs.getD 16 .dead).toInt,(⟨(cs.getD 17 .dead).toInt,(cs.getD 18 .dead).toInt,(cs.getD 19 .dead).toInt,(cs.getD 20 .dead).toInt,(cs.getD 21 .dead).toInt,(cs.getD 22 .dead).toInt,(cs.getD 23 .dead).toInt,(cs.getD 24 .dead).toInt⟩:(A8 Int))⟩:bm)
def iY.cells(x:iY):List D:=[.str x.C9]
def iY.of(cs:List D):iY:=(⟨(cs.getD 0 .dead).toStr⟩:iY)
def iZ.cells(x:iZ):List D:=[.bool x.D3,.int .u32 x.C3,.bool x.D2]
def iZ.of(cs:List D):iZ:=(⟨(cs.getD 0 .dead).toBool,(cs.getD 1 .dead).toInt,(cs.getD 2 .dead).toBool⟩:iZ)
def fv.cells(x:fv):List D:=[.int .u32 x.ag,.int .u32 x.C2,.int .u32 x.Frame,.int .i64 x.B8,.int .i64 x.D5,.int .u32 x.B6,.int .u32 x.B2,.str x.B7]
def fv.of(cs:List D):fv:=(⟨(cs.getD 0 .dead).toInt,(cs.getD 1 .dead).toInt,(cs.getD 2 .dead).toInt,(cs.getD 3 .dead).toInt,(cs.getD 4 .dead).toInt,(cs.getD 5 .dead).toInt,(cs.getD 6 .dead).toInt,(cs.getD 7 .dead).toStr⟩:fv)
def ik.cells(x:ik):List D:=[.int .u32 x.Frame,.int .u32 x.D9,.bool x.C5,.int .u32 x.B9,.bool x.B5,.int .u32 x.F0]
def ik.of(cs:List D):ik:=(⟨(cs.getD 0 .dead).toInt,(cs.getD 1 .dead).toInt,(cs.getD 2 .dead).toBool,(cs.getD 3 .dead).toInt,(cs.getD 4 .dead).toBool,(cs.getD 5 .dead).toInt⟩:ik)
def iu.cells(x:iu):List D:=[.int .u32 x.C7,.int .u32 x.C4]
def iu.of(cs:List D):iu:=(⟨(cs.getD 0 .dead).toInt,(cs.getD 1 .dead).toInt⟩:iu)
def av.ff(x:av)(s0:D):List D:=[.int .u32 x.B0.X.a0,.int .u32 x.B0.X.a1,.int .u32 x.B0.X.a2,.int .u32 x.B0.X.a3,.int .u32 x.B0.X.a4,.int .u32 x.B0.X.a5,.int .u32 x.B0.X.a6,.int .u32 x.B0.X.a7,.int .u32 x.B0.X.a8,.int .u32 x.B0.X.a9,.int .u32 x.B0.X.kv,.int .u32 x.B0.X.ky,.int .u32 x.B0.X.a12,.int .u32 x.B0.X.kz,.int .u32 x.B0.X.kA,.int .u32 x.B0.X.kB,.int .u32 x.B0.Pc,.int .u32 x.B0.B3.a0,.int .u32 x.B0.B3.a1,.int .u32 x.B0.B3.a2,.int .u32 x.B0.B3.a3,.int .u32 x.B0.B3.a4,.int .u32 x.B0.B3.a5,.int .u32 x.B0.B3.a6,.int .u32 x.B0.B3.a7,s0,.str x.A3.C9,.bool x.A9.D3,.int .u32 x.A9.C3,.bool x.A9.D2,.int .u32 x.A7.ag,.int .u32 x.A7.C2,.int .u32 x.A7.Frame,.int .i64 x.A7.B8,.int .i64 x.A7.D5,.int .u32 x.A7.B6,.int .u32 x.A7.B2,.str x.A7.B7,.int .u32 x.C1.Frame,.int .u32 x.C1.D9,.bool x.C1.C5,.int .u32 x.C1.B9,.bool x.C1.B5,.int .u32 x.C1.F0,.int .u32 x.A2.C7,.int .u32 x.A2.C4,.int .u64 x.A1,.bool x.A4,.bool x.A6]
def av.cells(x:av):List D:=av.ff x (.sl 1 (.ints .u32 x.Mem) false)
def av.rA(cs:List D)(s0:List Int):av:=(⟨(⟨(⟨(cs.getD 0 .dead).toInt,(cs.getD 1 .dead).toInt,(cs.getD 2 .dead).toInt,(cs.getD 3 .dead).toInt,(cs.getD 4 .dead).toInt,(cs.getD 5 .dead).toInt,(cs.getD 6 .dead).toInt,(cs.getD 7 .dead).toInt,(cs.getD 8 .dead).toInt,(cs.getD 9 .dead).toInt,(cs.getD 10 .dead).toInt,(cs.getD 11 .dead).toInt,(cs.getD 12 .dead).toInt,(cs.getD 13 .dead).toInt,(cs.getD 14 .dead).toInt,(cs.getD 15 .dead).toInt⟩:(gn Int)),(cs.getD 16 .dead).toInt,(⟨(cs.getD 17 .dead).toInt,(cs.getD 18 .dead).toInt,(cs.getD 19 .dead).toInt,(cs.getD 20 .dead).toInt,(cs.getD 21 .dead).toInt,(cs.getD 22 .dead).toInt,(cs.getD 23 .dead).toInt,(cs.getD 24 .dead).toInt⟩:(A8 Int))⟩:bm),s0,(⟨(cs.getD 26 .dead).toStr⟩:iY),(⟨(cs.getD 27 .dead).toBool,(cs.getD 28 .dead).toInt,(cs.getD 29 .dead).toBool⟩:iZ),(⟨(cs.getD 30 .dead).toInt,(cs.getD 31 .dead).toInt,(cs.getD 32 .dead).toInt,(cs.getD 33 .dead).toInt,(cs.getD 34 .dead).toInt,(cs.getD 35 .dead).toInt,(cs.getD 36 .dead).toInt,(cs.getD 37 .dead).toStr⟩:fv),(⟨(cs.getD 38 .dead).toInt,(cs.getD 39 .dead).toInt,(cs.getD 40 .dead).toBool,(cs.getD 41 .dead).toInt,(cs.getD 42 .dead).toBool,(cs.getD 43 .dead).toInt⟩:ik),(⟨(cs.getD 44 .dead).toInt,(cs.getD 45 .dead).toInt⟩:iu),(cs.getD 46 .dead).toInt,(cs.getD 47 .dead).toBool,(cs.getD 48 .dead).toBool⟩:av)
def av.of(cs:List D):av:=av.rA cs (nI .u32 (cs.getD 25 .dead))
def wD.ff(x:wD)(s0 s1:D):List D:=[.int .u32 x.A0.B0.X.a0,.int .u32 x.A0.B0.X.a1,.int .u32 x.A0.B0.X.a2,.int .u32 x.A0.B0.X.a3,.int .u32 x.A0.B0.X.a4,.int .u32 x.A0.B0.X.a5,.int .u32 x.A0.B0.X.a6,.int .u32 x.A0.B0.X.a7,.int .u32 x.A0.B0.X.a8,.int .u32 x.A0.B0.X.a9,.int .u32 x.A0.B0.X.kv,.int .u32 x.A0.B0.X.ky,.int .u32 x.A0.B0.X.a12,.int .u32 x.A0.B0.X.kz,.int .u32 x.A0.B0.X.kA,.int .u32 x.A0.B0.X.kB,.int .u32 x.A0.B0.Pc,.int .u32 x.A0.B0.B3.a0,.int .u32 x.A0.B0.B3.a1,.int .u32 x.A0.B0.B3.a2,.int .u32 x.A0.B0.B3.a3,.int .u32 x.A0.B0.B3.a4,.int .u32 x.A0.B0.B3.a5,.int .u32 x.A0.B0.B3.a6,.int .u32 x.A0.B0.B3.a7,s0,.str x.A0.A3.C9,.bool x.A0.A9.D3,.int .u32 x.A0.A9.C3,.bool x.A0.A9.D2,.int .u32 x.A0.A7.ag,.int .u32 x.A0.A7.C2,.int .u32 x.A0.A7.Frame,.int .i64 x.A0.A7.B8,.int .i64 x.A0.A7.D5,.int .u32 x.A0.A7.B6,.int .u32 x.A0.A7.B2,.str x.A0.A7.B7,.int .u32 x.A0.C1.Frame,.int .u32 x.A0.C1.D9,.bool x.A0.C1.C5,.int .u32 x.A0.C1.B9,.bool x.A0.C1.B5,.int .u32 x.A0.C1.F0,.int .u32 x.A0.A2.C7,.int .u32 x.A0.A2.C4,.int .u64 x.A0.A1,.bool x.A0.A4,.bool x.A0.A6,s1,.int .i64 x.WQ,.int .i64 x.Iy]
def wD.cells(x:wD):List D:=wD.ff x (.sl 1 (.ints .u32 x.A0.Mem) false) (.sl 1 (.bw x.Fe) false)
def wD.rA(cs:List D)(s0:List Int)(s1:List Bool):wD:=(⟨(⟨(⟨(⟨(cs.getD 0 .dead).toInt,(cs.getD 1 .dead).toInt,(cs.getD 2 .dead).toInt,(cs.getD 3 .dead).toInt,(cs.getD 4 .dead).toInt,(cs.getD 5 .dead).toInt,(cs.getD 6 .dead).toInt,(cs.getD 7 .dead).toInt,(cs.getD 8 .dead).toInt,(cs.getD 9 .dead).toInt,(cs.getD 10 .dead).toInt,(cs.getD 11 .dead).toInt,(cs.getD 12 .dead).toInt,(cs.getD 13 .dead).toInt,(cs.getD 14 .dead).toInt,(cs.getD 15 .dead).toInt⟩:(gn Int)),(cs.getD 16 .dead).toInt,(⟨(cs.getD 17 .dead).toInt,(cs.getD 18 .dead).toInt,(cs.getD 19 .dead).toInt,(cs.getD 20 .dead).toInt,(cs.getD 21 .dead).toInt,(cs.getD 22 .dead).toInt,(cs.getD 23 .dead).toInt,(cs.getD 24 .dead).toInt⟩:(A8 Int))⟩:bm),s0,(⟨(cs.getD 26 .dead).toStr⟩:iY),(⟨(cs.getD 27 .dead).toBool,(cs.getD 28 .dead).toInt,(cs.getD 29 .dead).toBool⟩:iZ),(⟨(cs.getD 30 .dead).toInt,(cs.getD 31 .dead).toInt,(cs.getD 32 .dead).toInt,(cs.getD 33 .dead).toInt,(cs.getD 34 .dead).toInt,(cs.getD 35 .dead).toInt,(cs.getD 36 .dead).toInt,(cs.getD 37 .dead).toStr⟩:fv),(⟨(cs.getD 38 .dead).toInt,(cs.getD 39 .dead).toInt,(cs.getD 40 .dead).toBool,(cs.getD 41 .dead).toInt,(cs.getD 42 .dead).toBool,(cs.getD 43 .dead).toInt⟩:ik),(⟨(cs.getD 44 .dead).toInt,(cs.getD 45 .dead).toInt⟩:iu),(cs.getD 46 .dead).toInt,(cs.getD 47 .dead).toBool,(cs.getD 48 .dead).toBool⟩:av),s1,(cs.getD 50 .dead).toInt,(cs.getD 51 .dead).toInt⟩:wD)
def wD.of(cs:List D):wD:=wD.rA cs (nI .u32 (cs.getD 25 .dead)) (S1 (cs.getD 49 .dead))
def KR.cells(x:KR):List D:=[.int .i64 x.Frame,.str x.D0]
def KR.of(cs:List D):KR:=(⟨(cs.getD 0 .dead).toInt,(cs.getD 1 .dead).toStr⟩:KR)
def ib.cells(x:ib):List D:=[.int .i64 x.C0,.int .u32 x.N,.str x.D0]
def ib.of(cs:List D):ib:=(⟨(cs.getD 0 .dead).toInt,(cs.getD 1 .dead).toInt,(cs.getD 2 .dead).toStr⟩:ib)
def jW.cells(x:jW):List D:=[.bool x.Good,.int .i64 x.D8,.int .u64 x.At]
def jW.of(cs:List D):jW:=(⟨(cs.getD 0 .dead).toBool,(cs.getD 1 .dead).toInt,(cs.getD 2 .dead).toInt⟩:jW)
def fx.cells(x:fx):List D:=[.int .u64 x.At,.int .u64 x.D4]
def fx.of(cs:List D):fx:=(⟨(cs.getD 0 .dead).toInt,(cs.getD 1 .dead).toInt⟩:fx)
def ep.cells(x:ep):List D:=[.int .u64 x.At,.int .i64 x.C6.C0,.int .u32 x.C6.N,.str x.C6.D0]
def ep.of(cs:List D):ep:=(⟨(cs.getD 0 .dead).toInt,(⟨(cs.getD 1 .dead).toInt,(cs.getD 2 .dead).toInt,(cs.getD 3 .dead).toStr⟩:ib)⟩:ep)
def tL.cells(x:tL):List D:=[.int .i64 x.Ay,.int .i64 x.nG]
def tL.of(cs:List D):tL:=(⟨(cs.getD 0 .dead).toInt,(cs.getD 1 .dead).toInt⟩:tL)
def kT.cells(x:kT):List D:=[.int .i64 x.C0,.int .i64 x.D1,.int .i64 x.E0,.int .u32 x.Value]
def kT.of(cs:List D):kT:=(⟨(cs.getD 0 .dead).toInt,(cs.getD 1 .dead).toInt,(cs.getD 2 .dead).toInt,(cs.getD 3 .dead).toInt⟩:kT)
def dk.cells(x:dk):List D:=[.int .i64 x.C0,.int .u64 x.At,.int .u32 x.C2,.str x.D0]
def dk.of(cs:List D):dk:=(⟨(cs.getD 0 .dead).toInt,(cs.getD 1 .dead).toInt,(cs.getD 2 .dead).toInt,(cs.getD 3 .dead).toStr⟩:dk)
def dj.ff(x:dj)(s0 s1 s2:D):List D:=[.int .u32 x.A0.B0.X.a0,.int .u32 x.A0.B0.X.a1,.int .u32 x.A0.B0.X.a2,.int .u32 x.A0.B0.X.a3,.int .u32 x.A0.B0.X.a4,.int .u32 x.A0.B0.X.a5,.int .u32 x.A0.B0.X.a6,.int .u32 x.A0.B0.X.a7,.int .u32 x.A0.B0.X.a8,.int .u32 x.A0.B0.X.a9,.int .u32 x.A0.B0.X.kv,.int .u32 x.A0.B0.X.ky,.int .u32 x.A0.B0.X.a12,.int .u32 x.A0.B0.X.kz,.int .u32 x.A0.B0.X.kA,.int .u32 x.A0.B0.X.kB,.int .u32 x.A0.B0.Pc,.int .u32 x.A0.B0.B3.a0,.int .u32 x.A0.B0.B3.a1,.int .u32 x.A0.B0.B3.a2,.int .u32 x.A0.B0.B3.a3,.int .u32 x.A0.B0.B3.a4,.int .u32 x.A0.B0.B3.a5,.int .u32 x.A0.B0.B3.a6,.int .u32 x.A0.B0.B3.a7,s0,.str x.A0.A3.C9,.bool x.A0.A9.D3,.int .u32 x.A0.A9.C3,.bool x.A0.A9.D2,.int .u32 x.A0.A7.ag,.int .u32 x.A0.A7.C2,.int .u32 x.A0.A7.Frame,.int .i64 x.A0.A7.B8,.int .i64 x.A0.A7.D5,.int .u32 x.A0.A7.B6,.int .u32 x.A0.A7.B2,.str x.A0.A7.B7,.int .u32 x.A0.C1.Frame,.int .u32 x.A0.C1.D9,.bool x.A0.C1.C5,.int .u32 x.A0.C1.B9,.bool x.A0.C1.B5,.int .u32 x.A0.C1.F0,.int .u32 x.A0.A2.C7,.int .u32 x.A0.A2.C4,.int .u64 x.A0.A1,.bool x.A0.A4,.bool x.A0.A6,.int .u32 x.B4,s1,s2]
def dj.cells(x:dj):List D:=dj.ff x (.sl 1 (.ints .u32 x.A0.Mem) false) (.sl 4 (.ax .ab x.C8) false) (.sl 3 (.ax .bc x.B1) false)
def dj.rA(cs:List D)(s0:List Int)(s1:List ep)(s2:List ib):dj:=(⟨(⟨(⟨(⟨(cs.getD 0 .dead).toInt,(cs.getD 1 .dead).toInt,(cs.getD 2 .dead).toInt,(cs.getD 3 .dead).toInt,(cs.getD 4 .dead).toInt,(cs.getD 5 .dead).toInt,(cs.getD 6 .dead).toInt,(cs.getD 7 .dead).toInt,(cs.getD 8 .dead).toInt,(cs.getD 9 .dead).toInt,(cs.getD 10 .dead).toInt,(cs.getD 11 .dead).toInt,(cs.getD 12 .dead).toInt,(cs.getD 13 .dead).toInt,(cs.getD 14 .dead).toInt,(cs.getD 15 .dead).toInt⟩:(gn Int)),(cs.getD 16 .dead).toInt,(⟨(cs.getD 17 .dead).toInt,(cs.getD 18 .dead).toInt,(cs.getD 19 .dead).toInt,(cs.getD 20 .dead).toInt,(cs.getD 21 .dead).toInt,(cs.getD 22 .dead).toInt,(cs.getD 23 .dead).toInt,(cs.getD 24 .dead).toInt⟩:(A8 Int))⟩:bm),s0,(⟨(cs.getD 26 .dead).toStr⟩:iY),(⟨(cs.getD 27 .dead).toBool,(cs.getD 28 .dead).toInt,(cs.getD 29 .dead).toBool⟩:iZ),(⟨(cs.getD 30 .dead).toInt,(cs.getD 31 .dead).toInt,(cs.getD 32 .dead).toInt,(cs.getD 33 .dead).toInt,(cs.getD 34 .dead).toInt,(cs.getD 35 .dead).toInt,(cs.getD 36 .dead).toInt,(cs.getD 37 .dead).toStr⟩:fv),(⟨(cs.getD 38 .dead).toInt,(cs.getD 39 .dead).toInt,(cs.getD 40 .dead).toBool,(cs.getD 41 .dead).toInt,(cs.getD 42 .dead).toBool,(cs.getD 43 .dead).toInt⟩:ik),(⟨(cs.getD 44 .dead).toInt,(cs.getD 45 .dead).toInt⟩:iu),(cs.getD 46 .dead).toInt,(cs.getD 47 .dead).toBool,(cs.getD 48 .dead).toBool⟩:av),(cs.getD 49 .dead).toInt,s1,s2⟩:dj)
def dj.of(cs:List D):dj:=dj.rA cs (nI .u32 (cs.getD 25 .dead)) (sJ .ab (cs.getD 50 .dead)) (sJ .bc (cs.getD 51 .dead))
def nH.cells(x:nH):List D:=[.int .i64 x.kM,.int .i64 x.num,.str x.label]
def nH.of(cs:List D):nH:=(⟨(cs.getD 0 .dead).toInt,(cs.getD 1 .dead).toInt,(cs.getD 2 .dead).toStr⟩:nH)
def kH.ff(x:kH)(s0:D):List D:=[.str x.ej,.int .i64 x.op,s0,.int .i64 x.D7,.int .i64 x.at_,.int .i64 x.size]
def kH.cells(x:kH):List D:=kH.ff x (.sl 3 (.ax .bb x.l) false)
def kH.rA(cs:List D)(s0:List nH):kH:=(⟨(cs.getD 0 .dead).toStr,(cs.getD 1 .dead).toInt,s0,(cs.getD 3 .dead).toInt,(cs.getD 4 .dead).toInt,(cs.getD 5 .dead).toInt⟩:kH)
def kH.of(cs:List D):kH:=kH.rA cs (sJ .bb (cs.getD 2 .dead))
def gw.cells(x:gw):List D:=[.int .i64 x.Op,.int .i64 x.A,.int .i64 x.B,.int .i64 x.C,.int .i32 x.bo]
def gw.of(cs:List D):gw:=(⟨(cs.getD 0 .dead).toInt,(cs.getD 1 .dead).toInt,(cs.getD 2 .dead).toInt,(cs.getD 3 .dead).toInt,(cs.getD 4 .dead).toInt⟩:gw)
def oq.cells(x:oq):List D:=[.str x.Name,.int .u32 x.Addr]
def oq.of(cs:List D):oq:=(⟨(cs.getD 0 .dead).toStr,(cs.getD 1 .dead).toInt⟩:oq)
def rY.cells(x:rY):List D:=[.int .u32 x.Addr,.int .u32 x.F3,.int .i64 x.F1]
def rY.of(cs:List D):rY:=(⟨(cs.getD 0 .dead).toInt,(cs.getD 1 .dead).toInt,(cs.getD 2 .dead).toInt⟩:rY)
def Az.cells(x:Az):List D:=[.bool x.a,.bool x.b,.bool x.c,.int .i32 x.low,.int .i32 x.D6]
def Az.of(cs:List D):Az:=(⟨(cs.getD 0 .dead).toBool,(cs.getD 1 .dead).toBool,(cs.getD 2 .dead).toBool,(cs.getD 3 .dead).toInt,(cs.getD 4 .dead).toInt⟩:Az)
def lJ.cells(x:lJ):List D:=[.int .i64 x.kind,.str x.text,.bool x.AA]
def lJ.of(cs:List D):lJ:=(⟨(cs.getD 0 .dead).toInt,(cs.getD 1 .dead).toStr,(cs.getD 2 .dead).toBool⟩:lJ)
def RK.size:RK->Nat
 |.ay=>4
 |.ab=>4
 |.ae=>2
 |.bc=>3
 |.dq=>2
 |.ai=>6
 |.bb=>3
 |.str=>1
 |.ba=>3
def DZ:CT->D->D
 |.int k,d=>.int k d.toInt
 |.bool,d=>.bool d.toBool
 |.str,d=>.str d.toStr
 |.ints k,d=>.sl 1 (.ints k (nI k d)) false
 |.bw,d=>.sl 1 (.bw (S1 d)) false
 |.ax k,d=>.sl k.size (.ax k (sJ k d)) false
 |.row i,_=>.all i
 |.nil,_=>.sl 0 (.gen []) false
 |.IA,_=>.dx
 |.self i,_=>.c9 i
 |.pt i o f,_=>.ptr i o f
 |.gq f cs,_=>.gq f cs
def wE:List CT->List D->Nat->List D
 |[],_,_=>[]
 |t::ts,cs,j=>DZ t (cs.getD j .dead)::wE ts cs (j+1)
def bm.sig:List CT:=[.int .u32,.int .u32,.int .u32,.int .u32,.int .u32,.int .u32,.int .u32,.int .u32,.int .u32,.int .u32,.int .u32,.int .u32,.int .u32,.int .u32,.int .u32,.int .u32,.int .u32,.int .u32,.int .u32,.int .u32,.int .u32,.int .u32,.int .u32,.int .u32,.int .u32]
def iY.sig:List CT:=[.str]
def iZ.sig:List CT:=[.bool,.int .u32,.bool]
def fv.sig:List CT:=[.int .u32,.int .u32,.int .u32,.int .i64,.int .i64,.int .u32,.int .u32,.str]
def ik.sig:List CT:=[.int .u32,.int .u32,.bool,.int .u32,.bool,.int .u32]
def iu.sig:List CT:=[.int .u32,.int .u32]
def av.kZ(s0:CT):List CT:=[.int .u32,.int .u32,.int .u32,.int .u32,.int .u32,.int .u32,.int .u32,.int .u32,.int .u32,.int .u32,.int .u32,.int .u32,.int .u32,.int .u32,.int .u32,.int .u32,.int .u32,.int .u32,.int .u32,.int .u32,.int .u32,.int .u32,.int .u32,.int .u32,.int .u32,s0,.str,.bool,.int .u32,.bool,.int .u32,.int .u32,.int .u32,.int .i64,.int .i64,.int .u32,.int .u32,.str,.int .u32,.int .u32,.bool,.int .u32,.bool,.int .u32,.int .u32,.int .u32,.int .u64,.bool,.bool]
def av.sig:List CT:=av.kZ (.ints .u32)
def wD.kZ(s0 s1:CT):List CT:=[.int .u32,.int .u32,.int .u32,.int .u32,.int .u32,.int .u32,.int .u32,.int .u32,.int .u32,.int .u32,.int .u32,.int .u32,.int .u32,.int .u32,.int .u32,.int .u32,.int .u32,.int .u32,.int .u32,.int .u32,.int .u32,.int .u32,.int .u32,.int .u32,.int .u32,s0,.str,.bool,.int .u32,.bool,.int .u32,.int .u32,.int .u32,.int .i64,.int .i64,.int .u32,.int .u32,.str,.int .u32,.int .u32,.bool,.int .u32,.bool,.int .u32,.int .u32,.int .u32,.int .u64,.bool,.bool,s1,.int .i64,.int .i64]
def wD.sig:List CT:=wD.kZ (.ints .u32) (.bw)
def KR.sig:List CT:=[.int .i64,.str]
def ib.sig:List CT:=[.int .i64,.int .u32,.str]
def jW.sig:List CT:=[.bool,.int .i64,.int .u64]
def fx.sig:List CT:=[.int .u64,.int .u64]
def ep.sig:List CT:=[.int .u64,.int .i64,.int .u32,.str]
def tL.sig:List CT:=[.int .i64,.int .i64]
def kT.sig:List CT:=[.int .i64,.int .i64,.int .i64,.int .u32]
def dk.sig:List CT:=[.int .i64,.int .u64,.int .u32,.str]
def dj.kZ(s0 s1 s2:CT):List CT:=[.int .u32,.int .u32,.int .u32,.int .u32,.int .u32,.int .u32,.int .u32,.int .u32,.int .u32,.int .u32,.int .u32,.int .u32,.int .u32,.int .u32,.int .u32,.int .u32,.int .u32,.int .u32,.int .u32,.int .u32,.int .u32,.int .u32,.int .u32,.int .u32,.int .u32,s0,.str,.bool,.int .u32,.bool,.int .u32,.int .u32,.int .u32,.int .i64,.int .i64,.int .u32,.int .u32,.str,.int .u32,.int .u32,.bool,.int .u32,.bool,.int .u32,.int .u32,.int .u32,.int .u64,.bool,.bool,.int .u32,s1,s2]
def dj.sig:List CT:=dj.kZ (.ints .u32) (.ax .ab) (.ax .bc)
def nH.sig:List CT:=[.int .i64,.int .i64,.str]
def kH.kZ(s0:CT):List CT:=[.str,.int .i64,s0,.int .i64,.int .i64,.int .i64]
def kH.sig:List CT:=kH.kZ (.ax .bb)
def gw.sig:List CT:=[.int .i64,.int .i64,.int .i64,.int .i64,.int .i32]
def oq.sig:List CT:=[.str,.int .u32]
def rY.sig:List CT:=[.int .u32,.int .u32,.int .i64]
def Az.sig:List CT:=[.bool,.bool,.bool,.int .i32,.int .i32]
def lJ.sig:List CT:=[.int .i64,.str,.bool]
def RK.sig:RK->List CT
 |.ay=>dk.sig
 |.ab=>ep.sig
 |.ae=>fx.sig
 |.bc=>ib.sig
 |.dq=>oq.sig
 |.ai=>kH.sig
 |.bb=>nH.sig
 |.str=>[.str]
 |.ba=>lJ.sig
def RK.cells:(k:RK)->RK.T k->List D
 |.ay,x=>dk.cells x
 |.ab,x=>ep.cells x
 |.ae,x=>fx.cells x
 |.bc,x=>ib.cells x
 |.dq,x=>oq.cells x
 |.ai,x=>kH.cells x
 |.bb,x=>nH.cells x
 |.str,x=>[.str x]
 |.ba,x=>lJ.cells x
def RK.of:(k:RK)->List D->RK.T k
 |.ay,cs=>dk.of cs
 |.ab,cs=>ep.of cs
 |.ae,cs=>fx.of cs
 |.bc,cs=>ib.of cs
 |.dq,cs=>oq.of cs
 |.ai,cs=>kH.of cs
 |.bb,cs=>nH.of cs
 |.str,cs=>(cs.getD 0 .dead).toStr
 |.ba,cs=>lJ.of cs
theorem RK.BZ(k:RK)(cs:List D):k.cells (k.of cs)=wE k.sig cs 0:=by cases k<;>kernel_rfl
theorem RK.ot(k:RK)(x:RK.T k):wE k.sig (k.cells x) 0=k.cells x:=by cases k<;>kernel_rfl
theorem RK.uj(k:RK):k.sig.length=k.size:=by cases k<;>rfl
