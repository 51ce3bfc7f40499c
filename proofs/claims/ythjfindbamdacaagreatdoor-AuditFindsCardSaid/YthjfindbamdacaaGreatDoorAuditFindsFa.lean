import Derived.WalkKit
import Derived.KernelRfl
set_option linter.all false
namespace Go.GD
theorem oY{p:Prop}[Decidable p](h:decide p=true):p:=of_decide_eq_true h
theorem oN{p:Prop}[Decidable p](h:decide p=false):¬p:=of_decide_eq_false h
theorem dY{p:Prop}[Decidable p](h:p):decide p=true:=decide_eq_true h
theorem dN{p:Prop}[Decidable p](h:¬p):decide p=false:=decide_eq_false h
theorem bE{n m:Nat}(h:Nat.beq n m=true):n=m:=Nat.eq_of_beq_eq_true h
theorem lE{n m:Nat}(h:Nat.ble n m=true):n<=m:=Nat.le_of_ble_eq_true h
theorem aE(a b:Bool):((a&&b)=true)=(a=true/\b=true):=Bool.and_eq_true a b
theorem lA{α:Type}{a b:List α}:(a++b).length=a.length+b.length:=List.length_append
structure A5(α:Type) where
 (a0 a1 a2 a3 a4:α)
 deriving DecidableEq,Inhabited
def A5.l{α:Type}(x:A5 α):List α:=[x.a0,x.a1,x.a2,x.a3,x.a4]
def A5.of{α:Type}(z:α)(l:List α):A5 α:=⟨l.getD 0 z,l.getD 1 z,l.getD 2 z,l.getD 3 z,l.getD 4 z⟩
structure A8(α:Type) where
 (a0 a1 a2 a3 a4 a5 a6 a7:α)
 deriving DecidableEq,Inhabited
def A8.l{α:Type}(x:A8 α):List α:=[x.a0,x.a1,x.a2,x.a3,x.a4,x.a5,x.a6,x.a7]
def A8.of{α:Type}(z:α)(l:List α):A8 α:=⟨l.getD 0 z,l.getD 1 z,l.getD 2 z,l.getD 3 z,l.getD 4 z,l.getD 5 z,l.getD 6 z,l.getD 7 z⟩
structure iS(α:Type) where
 (a0 a1 a2 a3 a4 a5 a6 a7 a8 a9 kq kr a12 ku kv ky:α)
 deriving DecidableEq,Inhabited
def iS.l{α:Type}(x:iS α):List α:=[x.a0,x.a1,x.a2,x.a3,x.a4,x.a5,x.a6,x.a7,x.a8,x.a9,x.kq,x.kr,x.a12,x.ku,x.kv,x.ky]
def iS.of{α:Type}(z:α)(l:List α):iS α:=⟨l.getD 0 z,l.getD 1 z,l.getD 2 z,l.getD 3 z,l.getD 4 z,l.getD 5 z,l.getD 6 z,l.getD 7 z,l.getD 8 z,l.getD 9 z,l.getD 10 z,l.getD 11 z,l.getD 12 z,l.getD 13 z,l.getD 14 z,l.getD 15 z⟩
structure Sw(α:Type) where
 (a0 a1 a2 a3 a4 a5 a6 a7 a8 a9 kq kr a12 ku kv ky M7 M8 M9 Na:α)
 deriving DecidableEq,Inhabited
def Sw.l{α:Type}(x:Sw α):List α:=[x.a0,x.a1,x.a2,x.a3,x.a4,x.a5,x.a6,x.a7,x.a8,x.a9,x.kq,x.kr,x.a12,x.ku,x.kv,x.ky,x.M7,x.M8,x.M9,x.Na]
def Sw.of{α:Type}(z:α)(l:List α):Sw α:=⟨l.getD 0 z,l.getD 1 z,l.getD 2 z,l.getD 3 z,l.getD 4 z,l.getD 5 z,l.getD 6 z,l.getD 7 z,l.getD 8 z,l.getD 9 z,l.getD 10 z,l.getD 11 z,l.getD 12 z,l.getD 13 z,l.getD 14 z,l.getD 15 z,l.getD 16 z,l.getD 17 z,l.getD 18 z,l.getD 19 z⟩
structure Sx(α:Type) where
 (a0 a1 a2 a3 a4 a5 a6 a7 a8 a9 kq kr a12 ku kv ky M7 M8 M9 Na a20 a21 a22 Wg:α)
 deriving DecidableEq,Inhabited
def Sx.l{α:Type}(x:Sx α):List α:=[x.a0,x.a1,x.a2,x.a3,x.a4,x.a5,x.a6,x.a7,x.a8,x.a9,x.kq,x.kr,x.a12,x.ku,x.kv,x.ky,x.M7,x.M8,x.M9,x.Na,x.a20,x.a21,x.a22,x.Wg]
def Sx.of{α:Type}(z:α)(l:List α):Sx α:=⟨l.getD 0 z,l.getD 1 z,l.getD 2 z,l.getD 3 z,l.getD 4 z,l.getD 5 z,l.getD 6 z,l.getD 7 z,l.getD 8 z,l.getD 9 z,l.getD 10 z,l.getD 11 z,l.getD 12 z,l.getD 13 z,l.getD 14 z,l.getD 15 z,l.getD 16 z,l.getD 17 z,l.getD 18 z,l.getD 19 z,l.getD 20 z,l.getD 21 z,l.getD 22 z,l.getD 23 z⟩
structure Sy(α:Type) where
 (a0 a1 a2 a3 a4 a5 a6 a7 a8 a9 kq kr a12 ku kv ky M7 M8 M9 Na a20 a21 a22 Wg a24 a25 a26 a27 a28 a29 a30 a31:α)
 deriving DecidableEq,Inhabited
def Sy.l{α:Type}(x:Sy α):List α:=[x.a0,x.a1,x.a2,x.a3,x.a4,x.a5,x.a6,x.a7,x.a8,x.a9,x.kq,x.kr,x.a12,x.ku,x.kv,x.ky,x.M7,x.M8,x.M9,x.Na,x.a20,x.a21,x.a22,x.Wg,x.a24,x.a25,x.a26,x.a27,x.a28,x.a29,x.a30,x.a31]
def Sy.of{α:Type}(z:α)(l:List α):Sy α:=⟨l.getD 0 z,l.getD 1 z,l.getD 2 z,l.getD 3 z,l.getD 4 z,l.getD 5 z,l.getD 6 z,l.getD 7 z,l.getD 8 z,l.getD 9 z,l.getD 10 z,l.getD 11 z,l.getD 12 z,l.getD 13 z,l.getD 14 z,l.getD 15 z,l.getD 16 z,l.getD 17 z,l.getD 18 z,l.getD 19 z,l.getD 20 z,l.getD 21 z,l.getD 22 z,l.getD 23 z,l.getD 24 z,l.getD 25 z,l.getD 26 z,l.getD 27 z,l.getD 28 z,l.getD 29 z,l.getD 30 z,l.getD 31 z⟩
structure bh where
 X:(iS Int)
 Pc:Int
 B4:(A8 Int)
 deriving DecidableEq,Inhabited
structure iT where
 D1:(List UInt8)
 deriving DecidableEq,Inhabited
structure iU where
 D4:Bool
 C4:Int
 D3:Bool
 deriving DecidableEq,Inhabited
structure fp where
 ag:Int
 C1:Int
 Frame:Int
 B7:Int
 D5:Int
 B6:Int
 B2:Int
 B8:(List UInt8)
 deriving DecidableEq,Inhabited
structure ia where
 Frame:Int
 E0:Int
 C5:Bool
 B9:Int
 B5:Bool
 F1:Int
 deriving DecidableEq,Inhabited
structure gv where
 C6:Int
 C2:Int
 deriving DecidableEq,Inhabited
structure au where
 B1:bh
 Mem:(List Int)
 A3:iT
 A9:iU
 A7:fp
 C3:ia
 A2:gv
 A1:Int
 A4:Bool
 A6:Bool
 deriving DecidableEq,Inhabited
structure u7 where
 A0:au
 EH:(List Bool)
 Wh:Int
 Ii:Int
 deriving DecidableEq,Inhabited
structure Kt where
 Frame:Int
 C9:(List UInt8)
 deriving DecidableEq,Inhabited
structure gx where
 C0:Int
 N:Int
 C9:(List UInt8)
 deriving DecidableEq,Inhabited
structure jQ where
 Good:Bool
 D8:Int
 At:Int
 deriving DecidableEq,Inhabited
structure gl where
 At:Int
 D2:Int
 deriving DecidableEq,Inhabited
structure eu where
 At:Int
 C8:gx
 deriving DecidableEq,Inhabited
structure tq where
 Af:Int
 nB:Int
 deriving DecidableEq,Inhabited
structure kI where
 C0:Int
 D0:Int
 D9:Int
 Value:Int
 deriving DecidableEq,Inhabited
structure dx where
 C0:Int
 At:Int
 C1:Int
 C9:(List UInt8)
 deriving DecidableEq,Inhabited
structure cw where
 A0:au
 B3:Int
 C7:(List eu)
 B0:(List gx)
 deriving DecidableEq,Inhabited
structure nC where
 kF:Int
 num:Int
 label:(List UInt8)
 deriving DecidableEq,Inhabited
structure kz where
 ee:(List UInt8)
 op:Int
 l:(List nC)
 D7:Int
 at_:Int
 size:Int
 deriving DecidableEq,Inhabited
structure gu where
 Op:Int
 A:Int
 B:Int
 C:Int
 bn:Int
 deriving DecidableEq,Inhabited
structure ob where
 Name:(List UInt8)
 Addr:Int
 deriving DecidableEq,Inhabited
structure rJ where
 Addr:Int
 F3:Int
 F0:Int
 deriving DecidableEq,Inhabited
structure Ag where
 a:Bool
 b:Bool
 c:Bool
 low:Int
 D6:Int
 deriving DecidableEq,Inhabited
structure ly where
 kind:Int
 text:(List UInt8)
 Ah:Bool
 deriving DecidableEq,Inhabited
inductive RK where
 |ay|ab|ae|bd|dk|ai|bb|str|ax
 deriving DecidableEq
@[reducible] def RK.T:RK->Type
 |.ay=>dx
 |.ab=>eu
 |.ae=>gl
 |.bd=>gx
 |.dk=>ob
 |.ai=>kz
 |.bb=>nC
 |.str=>(List UInt8)
 |.ax=>ly
def RK.cq:(k:RK)->RK.T k
 |.ay=>(default:dx)
 |.ab=>(default:eu)
 |.ae=>(default:gl)
 |.bd=>(default:gx)
 |.dk=>(default:ob)
 |.ai=>(default:kz)
 |.bb=>(default:nC)
 |.str=>(default:List UInt8)
 |.ax=>(default:ly)
def RK.Nb:Nat->Option RK
 |137=>some .ay
 |103=>some .ab
 |100=>some .ae
 |72=>some .bd
 |238=>some .dk
 |175=>some .ai
 |177=>some .bb
 |9=>some .str
 |303=>some .ax
 |_=>none
end Go.GD
namespace Go.GD
open Go
instance (k:RK):Inhabited (RK.T k):=⟨RK.cq k⟩
mutual
inductive D where
 |bool (b:Bool)
 |int (k:IntKind) (n:Int)
 |str (s:List UInt8)
 |sl (sz:Nat) (es:ao) (fr:Bool)
 |all (r:Nat)
 |own (r o n:Nat)
 |ptr (r i off:Nat)
 |pa (r i off len:Nat) (k:Option IntKind) (n:Nat)
 |ir (sz:Nat) (es:ao) (i off:Nat)
 |iK
 |du
 |emp
 |pY (es:ao)
 |dead
 |gn (f:Nat) (cs:List iu)
 |c8 (r:Nat)
 |jI
 |agg (cs:List D)
 |dt (ds:List D)
inductive ao where
 |gen (es:List (List D))
 |ints (k:IntKind) (l:List Int)
 |bo (l:List Bool)
 |av (k:RK) (l:List (RK.T k))
inductive iu where
 |ptr (r i off:Nat)
 |int (k:IntKind) (n:Int)
 |arr (r:Nat)
 |sl (sz:Nat) (es:ao) (fr:Bool)
 |fn (f:Nat) (ps:List (Nat×Nat×Nat))
end
instance:Inhabited D:=⟨.dead⟩
instance:Inhabited ao:=⟨.gen []⟩
def Ij(p:Nat×Nat×Nat):iu:=.ptr p.1 p.2.1 p.2.2
def iu.d:iu->D|.ptr r i off=>.ptr r i off|.int k n=>.int k n|.arr r=>.all r|.sl a b c=>.sl a b c|.fn f ps=>.gn f (ps.map Ij)
def D.isInt(k:IntKind):D->Bool|.int j _=>decide (j=k)|_=>false
def D.toInt:D->Int|.int _ n=>n|_=>0
def D.isBool:D->Bool|.bool _=>true|_=>false
def D.toBool:D->Bool|.bool b=>b|_=>false
def D.isStr:D->Bool|.str _=>true|_=>false
def D.toStr:D->List UInt8|.str s=>s|_=>[]
def Ge(k k':RK)(l:List (RK.T k)):Option (List (RK.T k')):=if h:k=k' then some (h▸l)else none
theorem Z9e(k:RK)(l:List (RK.T k)):Ge k k l=some l:=by simp[Ge]
theorem Wi{k k':RK}{l:List (RK.T k)}{m:List (RK.T k')}(h:Ge k k' l=some m):∃e:k=k',e▸l=m:=by
 unfold Ge at h
 split at h
 ·rename_i e;cases h;exact⟨e,rfl⟩
 ·cases h
def ao.toI(k:IntKind):ao->Option (List Int)
 |.ints k' l=>match decide (k'=k)with|true=>some l|false=>none
 |.gen []=>some []
 |_=>none
def ao.toB:ao->Option (List Bool)
 |.bo l=>some l
 |.gen []=>some []
 |_=>none
def ao.toR(k:RK):ao->Option (List (RK.T k))
 |.av k' l=>Ge k' k l
 |.gen []=>some []
 |_=>none
inductive CT where|int(k:IntKind)|bool|str|ints(k:IntKind)|bo|av(k:RK)|row(i:Nat)|nil|Ik|self(i:Nat)|pt(i o f:Nat)|gn(f:Nat)(cs:List iu)
def nD(k:IntKind):D->List Int|.sl _ E _=>(match E.toI k with|some l=>l|none=>[])|_=>[]
def Sz:D->List Bool|.sl _ E _=>(match E.toB with|some l=>l|none=>[])|_=>[]
def tt(k:RK):D->List (RK.T k)|.sl _ E _=>(match E.toR k with|some l=>l|none=>[])|_=>[]
def bh.cells(x:bh):List D:=[.int .u32 x.X.a0,.int .u32 x.X.a1,.int .u32 x.X.a2,.int .u32 x.X.a3,.int .u32 x.X.a4,.int .u32 x.X.a5,.int .u32 x.X.a6,.int .u32 x.X.a7,.int .u32 x.X.a8,.int .u32 x.X.a9,.int .u32 x.X.kq,.int .u32 x.X.kr,.int .u32 x.X.a12,.int .u32 x.X.ku,.int .u32 x.X.kv,.int .u32 x.X.ky,.int .u32 x.Pc,.int .u32 x.B4.a0,.int .u32 x.B4.a1,.int .u32 x.B4.a2,.int .u32 x.B4.a3,.int .u32 x.B4.a4,.int .u32 x.B4.a5,.int .u32 x.B4.a6,.int .u32 x.B4.a7]
def bh.of(cs:List D):bh:=(⟨(⟨(cs.getD 0 .dead).toInt,(cs.getD 1 .dead).toInt,(cs.getD 2 .dead).toInt,(cs.getD 3 .dead).toInt,(cs.getD 4 .dead).toInt,(cs.getD 5 .dead).toInt,(cs.getD 6 .dead).toInt,(cs.getD 7 .dead).toInt,(cs.getD 8 .dead).toInt,(cs.getD 9 .dead).toInt,(cs.getD 10 .dead).toInt,(cs.getD 11 .dead).toInt,(cs.getD 12 .dead).toInt,(cs.getD 13 .dead).toInt,(cs.getD 14 .dead).toInt,(cs.getD 15 .dead).toInt⟩:(iS Int)),(cs.getD 16 .dead).toInt,(⟨(cs.getD 17 .dead).toInt,(cs.getD 18 .dead).toInt,(cs.getD 19 .dead).toInt,(cs.getD 20 .dead).toInt,(cs.getD 21 .dead).toInt,(cs.getD 22 .dead).toInt,(cs.getD 23 .dead).toInt,(cs.getD 24 .dead).toInt⟩:(A8 Int))⟩:bh)
def iT.cells(x:iT):List D:=[.str x.D1]
def iT.of(cs:List D):iT:=(⟨(cs.getD 0 .dead).toStr⟩:iT)
def iU.cells(x:iU):List D:=[.bool x.D4,.int .u32 x.C4,.bool x.D3]
def iU.of(cs:List D):iU:=(⟨(cs.getD 0 .dead).toBool,(cs.getD 1 .dead).toInt,(cs.getD 2 .dead).toBool⟩:iU)
def fp.cells(x:fp):List D:=[.int .u32 x.ag,.int .u32 x.C1,.int .u32 x.Frame,.int .i64 x.B7,.int .i64 x.D5,.int .u32 x.B6,.int .u32 x.B2,.str x.B8]
def fp.of(cs:List D):fp:=(⟨(cs.getD 0 .dead).toInt,(cs.getD 1 .dead).toInt,(cs.getD 2 .dead).toInt,(cs.getD 3 .dead).toInt,(cs.getD 4 .dead).toInt,(cs.getD 5 .dead).toInt,(cs.getD 6 .dead).toInt,(cs.getD 7 .dead).toStr⟩:fp)
def ia.cells(x:ia):List D:=[.int .u32 x.Frame,.int .u32 x.E0,.bool x.C5,.int .u32 x.B9,.bool x.B5,.int .u32 x.F1]
def ia.of(cs:List D):ia:=(⟨(cs.getD 0 .dead).toInt,(cs.getD 1 .dead).toInt,(cs.getD 2 .dead).toBool,(cs.getD 3 .dead).toInt,(cs.getD 4 .dead).toBool,(cs.getD 5 .dead).toInt⟩:ia)
def gv.cells(x:gv):List D:=[.int .u32 x.C6,.int .u32 x.C2]
def gv.of(cs:List D):gv:=(⟨(cs.getD 0 .dead).toInt,(cs.getD 1 .dead).toInt⟩:gv)
def au.ez(x:au)(s0:D):List D:=[.int .u32 x.B1.X.a0,.int .u32 x.B1.X.a1,.int .u32 x.B1.X.a2,.int .u32 x.B1.X.a3,.int .u32 x.B1.X.a4,.int .u32 x.B1.X.a5,.int .u32 x.B1.X.a6,.int .u32 x.B1.X.a7,.int .u32 x.B1.X.a8,.int .u32 x.B1.X.a9,.int .u32 x.B1.X.kq,.int .u32 x.B1.X.kr,.int .u32 x.B1.X.a12,.int .u32 x.B1.X.ku,.int .u32 x.B1.X.kv,.int .u32 x.B1.X.ky,.int .u32 x.B1.Pc,.int .u32 x.B1.B4.a0,.int .u32 x.B1.B4.a1,.int .u32 x.B1.B4.a2,.int .u32 x.B1.B4.a3,.int .u32 x.B1.B4.a4,.int .u32 x.B1.B4.a5,.int .u32 x.B1.B4.a6,.int .u32 x.B1.B4.a7,s0,.str x.A3.D1,.bool x.A9.D4,.int .u32 x.A9.C4,.bool x.A9.D3,.int .u32 x.A7.ag,.int .u32 x.A7.C1,.int .u32 x.A7.Frame,.int .i64 x.A7.B7,.int .i64 x.A7.D5,.int .u32 x.A7.B6,.int .u32 x.A7.B2,.str x.A7.B8,.int .u32 x.C3.Frame,.int .u32 x.C3.E0,.bool x.C3.C5,.int .u32 x.C3.B9,.bool x.C3.B5,.int .u32 x.C3.F1,.int .u32 x.A2.C6,.int .u32 x.A2.C2,.int .u64 x.A1,.bool x.A4,.bool x.A6]
def au.cells(x:au):List D:=au.ez x (.sl 1 (.ints .u32 x.Mem) false)
def au.pZ(cs:List D)(s0:List Int):au:=(⟨(⟨(⟨(cs.getD 0 .dead).toInt,(cs.getD 1 .dead).toInt,(cs.getD 2 .dead).toInt,(cs.getD 3 .dead).toInt,(cs.getD 4 .dead).toInt,(cs.getD 5 .dead).toInt,(cs.getD 6 .dead).toInt,(cs.getD 7 .dead).toInt,(cs.getD 8 .dead).toInt,(cs.getD 9 .dead).toInt,(cs.getD 10 .dead).toInt,(cs.getD 11 .dead).toInt,(cs.getD 12 .dead).toInt,(cs.getD 13 .dead).toInt,(cs.getD 14 .dead).toInt,(cs.getD 15 .dead).toInt⟩:(iS Int)),(cs.getD 16 .dead).toInt,(⟨(cs.getD 17 .dead).toInt,(cs.getD 18 .dead).toInt,(cs.getD 19 .dead).toInt,(cs.getD 20 .dead).toInt,(cs.getD 21 .dead).toInt,(cs.getD 22 .dead).toInt,(cs.getD 23 .dead).toInt,(cs.getD 24 .dead).toInt⟩:(A8 Int))⟩:bh),s0,(⟨(cs.getD 26 .dead).toStr⟩:iT),(⟨(cs.getD 27 .dead).toBool,(cs.getD 28 .dead).toInt,(cs.getD 29 .dead).toBool⟩:iU),(⟨(cs.getD 30 .dead).toInt,(cs.getD 31 .dead).toInt,(cs.getD 32 .dead).toInt,(cs.getD 33 .dead).toInt,(cs.getD 34 .dead).toInt,(cs.getD 35 .dead).toInt,(cs.getD 36 .dead).toInt,(cs.getD 37 .dead).toStr⟩:fp),(⟨(cs.getD 38 .dead).toInt,(cs.getD 39 .dead).toInt,(cs.getD 40 .dead).toBool,(cs.getD 41 .dead).toInt,(cs.getD 42 .dead).toBool,(cs.getD 43 .dead).toInt⟩:ia),(⟨(cs.getD 44 .dead).toInt,(cs.getD 45 .dead).toInt⟩:gv),(cs.getD 46 .dead).toInt,(cs.getD 47 .dead).toBool,(cs.getD 48 .dead).toBool⟩:au)
def au.of(cs:List D):au:=au.pZ cs (nD .u32 (cs.getD 25 .dead))
def u7.ez(x:u7)(s0 s1:D):List D:=[.int .u32 x.A0.B1.X.a0,.int .u32 x.A0.B1.X.a1,.int .u32 x.A0.B1.X.a2,.int .u32 x.A0.B1.X.a3,.int .u32 x.A0.B1.X.a4,.int .u32 x.A0.B1.X.a5,.int .u32 x.A0.B1.X.a6,.int .u32 x.A0.B1.X.a7,.int .u32 x.A0.B1.X.a8,.int .u32 x.A0.B1.X.a9,.int .u32 x.A0.B1.X.kq,.int .u32 x.A0.B1.X.kr,.int .u32 x.A0.B1.X.a12,.int .u32 x.A0.B1.X.ku,.int .u32 x.A0.B1.X.kv,.int .u32 x.A0.B1.X.ky,.int .u32 x.A0.B1.Pc,.int .u32 x.A0.B1.B4.a0,.int .u32 x.A0.B1.B4.a1,.int .u32 x.A0.B1.B4.a2,.int .u32 x.A0.B1.B4.a3,.int .u32 x.A0.B1.B4.a4,.int .u32 x.A0.B1.B4.a5,.int .u32 x.A0.B1.B4.a6,.int .u32 x.A0.B1.B4.a7,s0,.str x.A0.A3.D1,.bool x.A0.A9.D4,.int .u32 x.A0.A9.C4,.bool x.A0.A9.D3,.int .u32 x.A0.A7.ag,.int .u32 x.A0.A7.C1,.int .u32 x.A0.A7.Frame,.int .i64 x.A0.A7.B7,.int .i64 x.A0.A7.D5,.int .u32 x.A0.A7.B6,.int .u32 x.A0.A7.B2,.str x.A0.A7.B8,.int .u32 x.A0.C3.Frame,.int .u32 x.A0.C3.E0,.bool x.A0.C3.C5,.int .u32 x.A0.C3.B9,.bool x.A0.C3.B5,.int .u32 x.A0.C3.F1,.int .u32 x.A0.A2.C6,.int .u32 x.A0.A2.C2,.int .u64 x.A0.A1,.bool x.A0.A4,.bool x.A0.A6,s1,.int .i64 x.Wh,.int .i64 x.Ii]
def u7.cells(x:u7):List D:=u7.ez x (.sl 1 (.ints .u32 x.A0.Mem) false) (.sl 1 (.bo x.EH) false)
def u7.pZ(cs:List D)(s0:List Int)(s1:List Bool):u7:=(⟨(⟨(⟨(⟨(cs.getD 0 .dead).toInt,(cs.getD 1 .dead).toInt,(cs.getD 2 .dead).toInt,(cs.getD 3 .dead).toInt,(cs.getD 4 .dead).toInt,(cs.getD 5 .dead).toInt,(cs.getD 6 .dead).toInt,(cs.getD 7 .dead).toInt,(cs.getD 8 .dead).toInt,(cs.getD 9 .dead).toInt,(cs.getD 10 .dead).toInt,(cs.getD 11 .dead).toInt,(cs.getD 12 .dead).toInt,(cs.getD 13 .dead).toInt,(cs.getD 14 .dead).toInt,(cs.getD 15 .dead).toInt⟩:(iS Int)),(cs.getD 16 .dead).toInt,(⟨(cs.getD 17 .dead).toInt,(cs.getD 18 .dead).toInt,(cs.getD 19 .dead).toInt,(cs.getD 20 .dead).toInt,(cs.getD 21 .dead).toInt,(cs.getD 22 .dead).toInt,(cs.getD 23 .dead).toInt,(cs.getD 24 .dead).toInt⟩:(A8 Int))⟩:bh),s0,(⟨(cs.getD 26 .dead).toStr⟩:iT),(⟨(cs.getD 27 .dead).toBool,(cs.getD 28 .dead).toInt,(cs.getD 29 .dead).toBool⟩:iU),(⟨(cs.getD 30 .dead).toInt,(cs.getD 31 .dead).toInt,(cs.getD 32 .dead).toInt,(cs.getD 33 .dead).toInt,(cs.getD 34 .dead).toInt,(cs.getD 35 .dead).toInt,(cs.getD 36 .dead).toInt,(cs.getD 37 .dead).toStr⟩:fp),(⟨(cs.getD 38 .dead).toInt,(cs.getD 39 .dead).toInt,(cs.getD 40 .dead).toBool,(cs.getD 41 .dead).toInt,(cs.getD 42 .dead).toBool,(cs.getD 43 .dead).toInt⟩:ia),(⟨(cs.getD 44 .dead).toInt,(cs.getD 45 .dead).toInt⟩:gv),(cs.getD 46 .dead).toInt,(cs.getD 47 .dead).toBool,(cs.getD 48 .dead).toBool⟩:au),s1,(cs.getD 50 .dead).toInt,(cs.getD 51 .dead).toInt⟩:u7)
def u7.of(cs:List D):u7:=u7.pZ cs (nD .u32 (cs.getD 25 .dead)) (Sz (cs.getD 49 .dead))
def Kt.cells(x:Kt):List D:=[.int .i64 x.Frame,.str x.C9]
def Kt.of(cs:List D):Kt:=(⟨(cs.getD 0 .dead).toInt,(cs.getD 1 .dead).toStr⟩:Kt)
def gx.cells(x:gx):List D:=[.int .i64 x.C0,.int .u32 x.N,.str x.C9]
def gx.of(cs:List D):gx:=(⟨(cs.getD 0 .dead).toInt,(cs.getD 1 .dead).toInt,(cs.getD 2 .dead).toStr⟩:gx)
def jQ.cells(x:jQ):List D:=[.bool x.Good,.int .i64 x.D8,.int .u64 x.At]
def jQ.of(cs:List D):jQ:=(⟨(cs.getD 0 .dead).toBool,(cs.getD 1 .dead).toInt,(cs.getD 2 .dead).toInt⟩:jQ)
def gl.cells(x:gl):List D:=[.int .u64 x.At,.int .u64 x.D2]
def gl.of(cs:List D):gl:=(⟨(cs.getD 0 .dead).toInt,(cs.getD 1 .dead).toInt⟩:gl)
def eu.cells(x:eu):List D:=[.int .u64 x.At,.int .i64 x.C8.C0,.int .u32 x.C8.N,.str x.C8.C9]
def eu.of(cs:List D):eu:=(⟨(cs.getD 0 .dead).toInt,(⟨(cs.getD 1 .dead).toInt,(cs.getD 2 .dead).toInt,(cs.getD 3 .dead).toStr⟩:gx)⟩:eu)
def tq.cells(x:tq):List D:=[.int .i64 x.Af,.int .i64 x.nB]
def tq.of(cs:List D):tq:=(⟨(cs.getD 0 .dead).toInt,(cs.getD 1 .dead).toInt⟩:tq)
def kI.cells(x:kI):List D:=[.int .i64 x.C0,.int .i64 x.D0,.int .i64 x.D9,.int .u32 x.Value]
def kI.of(cs:List D):kI:=(⟨(cs.getD 0 .dead).toInt,(cs.getD 1 .dead).toInt,(cs.getD 2 .dead).toInt,(cs.getD 3 .dead).toInt⟩:kI)
def dx.cells(x:dx):List D:=[.int .i64 x.C0,.int .u64 x.At,.int .u32 x.C1,.str x.C9]
def dx.of(cs:List D):dx:=(⟨(cs.getD 0 .dead).toInt,(cs.getD 1 .dead).toInt,(cs.getD 2 .dead).toInt,(cs.getD 3 .dead).toStr⟩:dx)
def cw.ez(x:cw)(s0 s1 s2:D):List D:=[.int .u32 x.A0.B1.X.a0,.int .u32 x.A0.B1.X.a1,.int .u32 x.A0.B1.X.a2,.int .u32 x.A0.B1.X.a3,.int .u32 x.A0.B1.X.a4,.int .u32 x.A0.B1.X.a5,.int .u32 x.A0.B1.X.a6,.int .u32 x.A0.B1.X.a7,.int .u32 x.A0.B1.X.a8,.int .u32 x.A0.B1.X.a9,.int .u32 x.A0.B1.X.kq,.int .u32 x.A0.B1.X.kr,.int .u32 x.A0.B1.X.a12,.int .u32 x.A0.B1.X.ku,.int .u32 x.A0.B1.X.kv,.int .u32 x.A0.B1.X.ky,.int .u32 x.A0.B1.Pc,.int .u32 x.A0.B1.B4.a0,.int .u32 x.A0.B1.B4.a1,.int .u32 x.A0.B1.B4.a2,.int .u32 x.A0.B1.B4.a3,.int .u32 x.A0.B1.B4.a4,.int .u32 x.A0.B1.B4.a5,.int .u32 x.A0.B1.B4.a6,.int .u32 x.A0.B1.B4.a7,s0,.str x.A0.A3.D1,.bool x.A0.A9.D4,.int .u32 x.A0.A9.C4,.bool x.A0.A9.D3,.int .u32 x.A0.A7.ag,.int .u32 x.A0.A7.C1,.int .u32 x.A0.A7.Frame,.int .i64 x.A0.A7.B7,.int .i64 x.A0.A7.D5,.int .u32 x.A0.A7.B6,.int .u32 x.A0.A7.B2,.str x.A0.A7.B8,.int .u32 x.A0.C3.Frame,.int .u32 x.A0.C3.E0,.bool x.A0.C3.C5,.int .u32 x.A0.C3.B9,.bool x.A0.C3.B5,.int .u32 x.A0.C3.F1,.int .u32 x.A0.A2.C6,.int .u32 x.A0.A2.C2,.int .u64 x.A0.A1,.bool x.A0.A4,.bool x.A0.A6,.int .u32 x.B3,s1,s2]
def cw.cells(x:cw):List D:=cw.ez x (.sl 1 (.ints .u32 x.A0.Mem) false) (.sl 4 (.av .ab x.C7) false) (.sl 3 (.av .bd x.B0) false)
def cw.pZ(cs:List D)(s0:List Int)(s1:List eu)(s2:List gx):cw:=(⟨(⟨(⟨(⟨(cs.getD 0 .dead).toInt,(cs.getD 1 .dead).toInt,(cs.getD 2 .dead).toInt,(cs.getD 3 .dead).toInt,(cs.getD 4 .dead).toInt,(cs.getD 5 .dead).toInt,(cs.getD 6 .dead).toInt,(cs.getD 7 .dead).toInt,(cs.getD 8 .dead).toInt,(cs.getD 9 .dead).toInt,(cs.getD 10 .dead).toInt,(cs.getD 11 .dead).toInt,(cs.getD 12 .dead).toInt,(cs.getD 13 .dead).toInt,(cs.getD 14 .dead).toInt,(cs.getD 15 .dead).toInt⟩:(iS Int)),(cs.getD 16 .dead).toInt,(⟨(cs.getD 17 .dead).toInt,(cs.getD 18 .dead).toInt,(cs.getD 19 .dead).toInt,(cs.getD 20 .dead).toInt,(cs.getD 21 .dead).toInt,(cs.getD 22 .dead).toInt,(cs.getD 23 .dead).toInt,(cs.getD 24 .dead).toInt⟩:(A8 Int))⟩:bh),s0,(⟨(cs.getD 26 .dead).toStr⟩:iT),(⟨(cs.getD 27 .dead).toBool,(cs.getD 28 .dead).toInt,(cs.getD 29 .dead).toBool⟩:iU),(⟨(cs.getD 30 .dead).toInt,(cs.getD 31 .dead).toInt,(cs.getD 32 .dead).toInt,(cs.getD 33 .dead).toInt,(cs.getD 34 .dead).toInt,(cs.getD 35 .dead).toInt,(cs.getD 36 .dead).toInt,(cs.getD 37 .dead).toStr⟩:fp),(⟨(cs.getD 38 .dead).toInt,(cs.getD 39 .dead).toInt,(cs.getD 40 .dead).toBool,(cs.getD 41 .dead).toInt,(cs.getD 42 .dead).toBool,(cs.getD 43 .dead).toInt⟩:ia),(⟨(cs.getD 44 .dead).toInt,(cs.getD 45 .dead).toInt⟩:gv),(cs.getD 46 .dead).toInt,(cs.getD 47 .dead).toBool,(cs.getD 48 .dead).toBool⟩:au),(cs.getD 49 .dead).toInt,s1,s2⟩:cw)
def cw.of(cs:List D):cw:=cw.pZ cs (nD .u32 (cs.getD 25 .dead)) (tt .ab (cs.getD 50 .dead)) (tt .bd (cs.getD 51 .dead))
def nC.cells(x:nC):List D:=[.int .i64 x.kF,.int .i64 x.num,.str x.label]
def nC.of(cs:List D):nC:=(⟨(cs.getD 0 .dead).toInt,(cs.getD 1 .dead).toInt,(cs.getD 2 .dead).toStr⟩:nC)
def kz.ez(x:kz)(s0:D):List D:=[.str x.ee,.int .i64 x.op,s0,.int .i64 x.D7,.int .i64 x.at_,.int .i64 x.size]
def kz.cells(x:kz):List D:=kz.ez x (.sl 3 (.av .bb x.l) false)
def kz.pZ(cs:List D)(s0:List nC):kz:=(⟨(cs.getD 0 .dead).toStr,(cs.getD 1 .dead).toInt,s0,(cs.getD 3 .dead).toInt,(cs.getD 4 .dead).toInt,(cs.getD 5 .dead).toInt⟩:kz)
def kz.of(cs:List D):kz:=kz.pZ cs (tt .bb (cs.getD 2 .dead))
def gu.cells(x:gu):List D:=[.int .i64 x.Op,.int .i64 x.A,.int .i64 x.B,.int .i64 x.C,.int .i32 x.bn]
def gu.of(cs:List D):gu:=(⟨(cs.getD 0 .dead).toInt,(cs.getD 1 .dead).toInt,(cs.getD 2 .dead).toInt,(cs.getD 3 .dead).toInt,(cs.getD 4 .dead).toInt⟩:gu)
def ob.cells(x:ob):List D:=[.str x.Name,.int .u32 x.Addr]
def ob.of(cs:List D):ob:=(⟨(cs.getD 0 .dead).toStr,(cs.getD 1 .dead).toInt⟩:ob)
def rJ.cells(x:rJ):List D:=[.int .u32 x.Addr,.int .u32 x.F3,.int .i64 x.F0]
def rJ.of(cs:List D):rJ:=(⟨(cs.getD 0 .dead).toInt,(cs.getD 1 .dead).toInt,(cs.getD 2 .dead).toInt⟩:rJ)
def Ag.cells(x:Ag):List D:=[.bool x.a,.bool x.b,.bool x.c,.int .i32 x.low,.int .i32 x.D6]
def Ag.of(cs:List D):Ag:=(⟨(cs.getD 0 .dead).toBool,(cs.getD 1 .dead).toBool,(cs.getD 2 .dead).toBool,(cs.getD 3 .dead).toInt,(cs.getD 4 .dead).toInt⟩:Ag)
def ly.cells(x:ly):List D:=[.int .i64 x.kind,.str x.text,.bool x.Ah]
def ly.of(cs:List D):ly:=(⟨(cs.getD 0 .dead).toInt,(cs.getD 1 .dead).toStr,(cs.getD 2 .dead).toBool⟩:ly)
def RK.size:RK->Nat
 |.ay=>4
 |.ab=>4
 |.ae=>2
 |.bd=>3
 |.dk=>2
 |.ai=>6
 |.bb=>3
 |.str=>1
 |.ax=>3
def DD:CT->D->D
 |.int k,d=>.int k d.toInt
 |.bool,d=>.bool d.toBool
 |.str,d=>.str d.toStr
 |.ints k,d=>.sl 1 (.ints k (nD k d)) false
 |.bo,d=>.sl 1 (.bo (Sz d)) false
 |.av k,d=>.sl k.size (.av k (tt k d)) false
 |.row i,_=>.all i
 |.nil,_=>.sl 0 (.gen []) false
 |.Ik,_=>.du
 |.self i,_=>.c8 i
 |.pt i o f,_=>.ptr i o f
 |.gn f cs,_=>.gn f cs
def u9:List CT->List D->Nat->List D
 |[],_,_=>[]
 |t::ts,cs,j=>DD t (cs.getD j .dead)::u9 ts cs (j+1)
def bh.sig:List CT:=[.int .u32,.int .u32,.int .u32,.int .u32,.int .u32,.int .u32,.int .u32,.int .u32,.int .u32,.int .u32,.int .u32,.int .u32,.int .u32,.int .u32,.int .u32,.int .u32,.int .u32,.int .u32,.int .u32,.int .u32,.int .u32,.int .u32,.int .u32,.int .u32,.int .u32]
def iT.sig:List CT:=[.str]
def iU.sig:List CT:=[.bool,.int .u32,.bool]
def fp.sig:List CT:=[.int .u32,.int .u32,.int .u32,.int .i64,.int .i64,.int .u32,.int .u32,.str]
def ia.sig:List CT:=[.int .u32,.int .u32,.bool,.int .u32,.bool,.int .u32]
def gv.sig:List CT:=[.int .u32,.int .u32]
def au.kN(s0:CT):List CT:=[.int .u32,.int .u32,.int .u32,.int .u32,.int .u32,.int .u32,.int .u32,.int .u32,.int .u32,.int .u32,.int .u32,.int .u32,.int .u32,.int .u32,.int .u32,.int .u32,.int .u32,.int .u32,.int .u32,.int .u32,.int .u32,.int .u32,.int .u32,.int .u32,.int .u32,s0,.str,.bool,.int .u32,.bool,.int .u32,.int .u32,.int .u32,.int .i64,.int .i64,.int .u32,.int .u32,.str,.int .u32,.int .u32,.bool,.int .u32,.bool,.int .u32,.int .u32,.int .u32,.int .u64,.bool,.bool]
def au.sig:List CT:=au.kN (.ints .u32)
def u7.kN(s0 s1:CT):List CT:=[.int .u32,.int .u32,.int .u32,.int .u32,.int .u32,.int .u32,.int .u32,.int .u32,.int .u32,.int .u32,.int .u32,.int .u32,.int .u32,.int .u32,.int .u32,.int .u32,.int .u32,.int .u32,.int .u32,.int .u32,.int .u32,.int .u32,.int .u32,.int .u32,.int .u32,s0,.str,.bool,.int .u32,.bool,.int .u32,.int .u32,.int .u32,.int .i64,.int .i64,.int .u32,.int .u32,.str,.int .u32,.int .u32,.bool,.int .u32,.bool,.int .u32,.int .u32,.int .u32,.int .u64,.bool,.bool,s1,.int .i64,.int .i64]
def u7.sig:List CT:=u7.kN (.ints .u32) (.bo)
def Kt.sig:List CT:=[.int .i64,.str]
def gx.sig:List CT:=[.int .i64,.int .u32,.str]
def jQ.sig:List CT:=[.bool,.int .i64,.int .u64]
def gl.sig:List CT:=[.int .u64,.int .u64]
def eu.sig:List CT:=[.int .u64,.int .i64,.int .u32,.str]
def tq.sig:List CT:=[.int .i64,.int .i64]
def kI.sig:List CT:=[.int .i64,.int .i64,.int .i64,.int .u32]
def dx.sig:List CT:=[.int .i64,.int .u64,.int .u32,.str]
def cw.kN(s0 s1 s2:CT):List CT:=[.int .u32,.int .u32,.int .u32,.int .u32,.int .u32,.int .u32,.int .u32,.int .u32,.int .u32,.int .u32,.int .u32,.int .u32,.int .u32,.int .u32,.int .u32,.int .u32,.int .u32,.int .u32,.int .u32,.int .u32,.int .u32,.int .u32,.int .u32,.int .u32,.int .u32,s0,.str,.bool,.int .u32,.bool,.int .u32,.int .u32,.int .u32,.int .i64,.int .i64,.int .u32,.int .u32,.str,.int .u32,.int .u32,.bool,.int .u32,.bool,.int .u32,.int .u32,.int .u32,.int .u64,.bool,.bool,.int .u32,s1,s2]
def cw.sig:List CT:=cw.kN (.ints .u32) (.av .ab) (.av .bd)
def nC.sig:List CT:=[.int .i64,.int .i64,.str]
def kz.kN(s0:CT):List CT:=[.str,.int .i64,s0,.int .i64,.int .i64,.int .i64]
def kz.sig:List CT:=kz.kN (.av .bb)
def gu.sig:List CT:=[.int .i64,.int .i64,.int .i64,.int .i64,.int .i32]
def ob.sig:List CT:=[.str,.int .u32]
def rJ.sig:List CT:=[.int .u32,.int .u32,.int .i64]
def Ag.sig:List CT:=[.bool,.bool,.bool,.int .i32,.int .i32]
def ly.sig:List CT:=[.int .i64,.str,.bool]
def RK.sig:RK->List CT
 |.ay=>dx.sig
 |.ab=>eu.sig
 |.ae=>gl.sig
 |.bd=>gx.sig
 |.dk=>ob.sig
 |.ai=>kz.sig
 |.bb=>nC.sig
 |.str=>[.str]
 |.ax=>ly.sig
def RK.cells:(k:RK)->RK.T k->List D
 |.ay,x=>dx.cells x
 |.ab,x=>eu.cells x
 |.ae,x=>gl.cells x
 |.bd,x=>gx.cells x
 |.dk,x=>ob.cells x
 |.ai,x=>kz.cells x
 |.bb,x=>nC.cells x
 |.str,x=>[.str x]
 |.ax,x=>ly.cells x
def RK.of:(k:RK)->List D->RK.T k
 |.ay,cs=>dx.of cs
 |.ab,cs=>eu.of cs
 |.ae,cs=>gl.of cs
 |.bd,cs=>gx.of cs
 |.dk,cs=>ob.of cs
 |.ai,cs=>kz.of cs
 |.bb,cs=>nC.of cs
 |.str,cs=>(cs.getD 0 .dead).toStr
 |.ax,cs=>ly.of cs
theorem RK.BI(k:RK)(cs:List D):k.cells (k.of cs)=u9 k.sig cs 0:=by cases k<;>kernel_rfl
theorem RK.oc(k:RK)(x:RK.T k):u9 k.sig (k.cells x) 0=k.cells x:=by cases k<;>kernel_rfl
theorem RK.tQ(k:RK):k.sig.length=k.size:=by cases k<;>rfl
