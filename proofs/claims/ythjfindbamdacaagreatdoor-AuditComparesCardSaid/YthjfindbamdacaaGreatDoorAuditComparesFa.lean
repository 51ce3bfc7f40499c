import Derived.WalkKit
import Derived.KernelRfl
set_option linter.all false
namespace Go.GD
theorem oY{p:Prop}[Decidable p](h:decide p=true):p:=of_decide_eq_true h
theorem oN{p:Prop}[Decidable p](h:decide p=false):¬p:=of_decide_eq_false h
theorem dY{p:Prop}[Decidable p](h:p):decide p=true:=decide_eq_true h
theorem dN{p:Prop}[Decidable p](h:¬p):decide p=false:=decide_eq_false h
theorem bE{n m:Nat}(h:Nat.beq n m=true):n=m:=Nat.eq_of_beq_eq_true h
theorem lE{n m:Nat}(h:Nat.ble n m=true):n<=m:=Nat.le_of_ble_eq_true h
theorem aE(a b:Bool):((a&&b)=true)=(a=true/\b=true):=Bool.and_eq_true a b
theorem lA{α:Type}{a b:List α}:(a++b).length=a.length+b.length:=List.length_append
structure A5(α:Type) where
 (a0 a1 a2 a3 a4:α)
 deriving DecidableEq,Inhabited
def A5.l{α:Type}(x:A5 α):List α:=[x.a0,x.a1,x.a2,x.a3,x.a4]
def A5.of{α:Type}(z:α)(l:List α):A5 α:=⟨l.getD 0 z,l.getD 1 z,l.getD 2 z,l.getD 3 z,l.getD 4 z⟩
structure A8(α:Type) where
 (a0 a1 a2 a3 a4 a5 a6 a7:α)
 deriving DecidableEq,Inhabited
def A8.l{α:Type}(x:A8 α):List α:=[x.a0,x.a1,x.a2,x.a3,x.a4,x.a5,x.a6,x.a7]
def A8.of{α:Type}(z:α)(l:List α):A8 α:=⟨l.getD 0 z,l.getD 1 z,l.getD 2 z,l.getD 3 z,l.getD 4 z,l.getD 5 z,l.getD 6 z,l.getD 7 z⟩
structure fv(α:Type) where
 (a0 a1 a2 a3 a4 a5 a6 a7 a8 a9 kj ko a12 kp kq kr:α)
 deriving DecidableEq,Inhabited
def fv.l{α:Type}(x:fv α):List α:=[x.a0,x.a1,x.a2,x.a3,x.a4,x.a5,x.a6,x.a7,x.a8,x.a9,x.kj,x.ko,x.a12,x.kp,x.kq,x.kr]
def fv.of{α:Type}(z:α)(l:List α):fv α:=⟨l.getD 0 z,l.getD 1 z,l.getD 2 z,l.getD 3 z,l.getD 4 z,l.getD 5 z,l.getD 6 z,l.getD 7 z,l.getD 8 z,l.getD 9 z,l.getD 10 z,l.getD 11 z,l.getD 12 z,l.getD 13 z,l.getD 14 z,l.getD 15 z⟩
structure RG(α:Type) where
 (a0 a1 a2 a3 a4 a5 a6 a7 a8 a9 kj ko a12 kp kq kr Mu Mv Mw Mx:α)
 deriving DecidableEq,Inhabited
def RG.l{α:Type}(x:RG α):List α:=[x.a0,x.a1,x.a2,x.a3,x.a4,x.a5,x.a6,x.a7,x.a8,x.a9,x.kj,x.ko,x.a12,x.kp,x.kq,x.kr,x.Mu,x.Mv,x.Mw,x.Mx]
def RG.of{α:Type}(z:α)(l:List α):RG α:=⟨l.getD 0 z,l.getD 1 z,l.getD 2 z,l.getD 3 z,l.getD 4 z,l.getD 5 z,l.getD 6 z,l.getD 7 z,l.getD 8 z,l.getD 9 z,l.getD 10 z,l.getD 11 z,l.getD 12 z,l.getD 13 z,l.getD 14 z,l.getD 15 z,l.getD 16 z,l.getD 17 z,l.getD 18 z,l.getD 19 z⟩
structure RH(α:Type) where
 (a0 a1 a2 a3 a4 a5 a6 a7 a8 a9 kj ko a12 kp kq kr Mu Mv Mw Mx a20 a21 a22 Vo:α)
 deriving DecidableEq,Inhabited
def RH.l{α:Type}(x:RH α):List α:=[x.a0,x.a1,x.a2,x.a3,x.a4,x.a5,x.a6,x.a7,x.a8,x.a9,x.kj,x.ko,x.a12,x.kp,x.kq,x.kr,x.Mu,x.Mv,x.Mw,x.Mx,x.a20,x.a21,x.a22,x.Vo]
def RH.of{α:Type}(z:α)(l:List α):RH α:=⟨l.getD 0 z,l.getD 1 z,l.getD 2 z,l.getD 3 z,l.getD 4 z,l.getD 5 z,l.getD 6 z,l.getD 7 z,l.getD 8 z,l.getD 9 z,l.getD 10 z,l.getD 11 z,l.getD 12 z,l.getD 13 z,l.getD 14 z,l.getD 15 z,l.getD 16 z,l.getD 17 z,l.getD 18 z,l.getD 19 z,l.getD 20 z,l.getD 21 z,l.getD 22 z,l.getD 23 z⟩
structure RI(α:Type) where
 (a0 a1 a2 a3 a4 a5 a6 a7 a8 a9 kj ko a12 kp kq kr Mu Mv Mw Mx a20 a21 a22 Vo a24 a25 a26 a27 a28 a29 a30 a31:α)
 deriving DecidableEq,Inhabited
def RI.l{α:Type}(x:RI α):List α:=[x.a0,x.a1,x.a2,x.a3,x.a4,x.a5,x.a6,x.a7,x.a8,x.a9,x.kj,x.ko,x.a12,x.kp,x.kq,x.kr,x.Mu,x.Mv,x.Mw,x.Mx,x.a20,x.a21,x.a22,x.Vo,x.a24,x.a25,x.a26,x.a27,x.a28,x.a29,x.a30,x.a31]
def RI.of{α:Type}(z:α)(l:List α):RI α:=⟨l.getD 0 z,l.getD 1 z,l.getD 2 z,l.getD 3 z,l.getD 4 z,l.getD 5 z,l.getD 6 z,l.getD 7 z,l.getD 8 z,l.getD 9 z,l.getD 10 z,l.getD 11 z,l.getD 12 z,l.getD 13 z,l.getD 14 z,l.getD 15 z,l.getD 16 z,l.getD 17 z,l.getD 18 z,l.getD 19 z,l.getD 20 z,l.getD 21 z,l.getD 22 z,l.getD 23 z,l.getD 24 z,l.getD 25 z,l.getD 26 z,l.getD 27 z,l.getD 28 z,l.getD 29 z,l.getD 30 z,l.getD 31 z⟩
structure bg where
 X:(fv Int)
 Pc:Int
 B2:(A8 Int)
 deriving DecidableEq,Inhabited
structure iO where
 C5:(List UInt8)
 deriving DecidableEq,Inhabited
structure iS where
 C9:Bool
 B8:Int
 C8:Bool
 deriving DecidableEq,Inhabited
structure fe where
 ab:Int
 B9:Int
 Frame:Int
 B5:Int
 D1:Int
 B4:Int
 B0:Int
 B6:(List UInt8)
 deriving DecidableEq,Inhabited
structure gq where
 Frame:Int
 D6:Int
 C2:Bool
 B7:Int
 B3:Bool
 D8:Int
 deriving DecidableEq,Inhabited
structure gh where
 C3:Int
 C0:Int
 deriving DecidableEq,Inhabited
structure au where
 A9:bg
 Mem:(List Int)
 A2:iO
 A7:iS
 A6:fe
 C1:gq
 A1:gh
 A0:Int
 A3:Bool
 A4:Bool
 deriving DecidableEq,Inhabited
structure uM where
 B1:au
 DZ:(List Bool)
 Vp:Int
 HF:Int
 deriving DecidableEq,Inhabited
structure JS where
 Frame:Int
 D2:(List UInt8)
 deriving DecidableEq,Inhabited
structure jX where
 C4:Int
 N:Int
 D2:(List UInt8)
 deriving DecidableEq,Inhabited
structure jK where
 Good:Bool
 D5:Int
 At:Int
 deriving DecidableEq,Inhabited
structure fy where
 At:Int
 D0:Int
 deriving DecidableEq,Inhabited
structure ep where
 At:Int
 C7:jX
 deriving DecidableEq,Inhabited
structure sU where
 wR:Int
 nd:Int
 deriving DecidableEq,Inhabited
structure kD where
 C4:Int
 C6:Int
 D7:Int
 Value:Int
 deriving DecidableEq,Inhabited
structure fm where
 C4:Int
 At:Int
 B9:Int
 D2:(List UInt8)
 deriving DecidableEq,Inhabited
structure pj where
 B1:au
 Bk:Int
 Log:(List ep)
 Queue:(List jX)
 deriving DecidableEq,Inhabited
structure nf where
 ku:Int
 num:Int
 label:(List UInt8)
 deriving DecidableEq,Inhabited
structure j8 where
 dz:(List UInt8)
 op:Int
 l:(List nf)
 D4:Int
 at_:Int
 size:Int
 deriving DecidableEq,Inhabited
structure gj where
 Op:Int
 A:Int
 B:Int
 C:Int
 bh:Int
 deriving DecidableEq,Inhabited
structure nM where
 Name:(List UInt8)
 Addr:Int
 deriving DecidableEq,Inhabited
structure re where
 Addr:Int
 E0:Int
 D9:Int
 deriving DecidableEq,Inhabited
structure wS where
 a:Bool
 b:Bool
 c:Bool
 low:Int
 D3:Int
 deriving DecidableEq,Inhabited
structure kX where
 kind:Int
 text:(List UInt8)
 wT:Bool
 deriving DecidableEq,Inhabited
inductive RK where
 |bd|aj|ae|iw|dd|ag|ay|str|av
 deriving DecidableEq
@[reducible] def RK.T:RK->Type
 |.bd=>fm
 |.aj=>ep
 |.ae=>fy
 |.iw=>jX
 |.dd=>nM
 |.ag=>j8
 |.ay=>nf
 |.str=>(List UInt8)
 |.av=>kX
def RK.cz:(k:RK)->RK.T k
 |.bd=>(default:fm)
 |.aj=>(default:ep)
 |.ae=>(default:fy)
 |.iw=>(default:jX)
 |.dd=>(default:nM)
 |.ag=>(default:j8)
 |.ay=>(default:nf)
 |.str=>(default:List UInt8)
 |.av=>(default:kX)
def RK.My:Nat->Option RK
 |137=>some .bd
 |103=>some .aj
 |100=>some .ae
 |72=>some .iw
 |238=>some .dd
 |175=>some .ag
 |177=>some .ay
 |9=>some .str
 |303=>some .av
 |_=>none
end Go.GD
namespace Go.GD
open Go
instance (k:RK):Inhabited (RK.T k):=⟨RK.cz k⟩
mutual
inductive D where
 |bool (b:Bool)
 |int (k:IntKind) (n:Int)
 |str (s:List UInt8)
 |sl (sz:Nat) (es:ak) (fr:Bool)
 |all (r:Nat)
 |own (r o n:Nat)
 |ptr (r i off:Nat)
 |pa (r i off len:Nat) (k:Option IntKind) (n:Nat)
 |ig (sz:Nat) (es:ak) (i off:Nat)
 |iy
 |dq
 |emp
 |pF (es:ak)
 |dead
 |gb (f:Nat) (cs:List ij)
 |cy (r:Nat)
 |jF
 |agg (cs:List D)
 |dt (ds:List D)
inductive ak where
 |gen (es:List (List D))
 |ints (k:IntKind) (l:List Int)
 |bn (l:List Bool)
 |bc (k:RK) (l:List (RK.T k))
inductive ij where
 |ptr (r i off:Nat)
 |int (k:IntKind) (n:Int)
 |arr (r:Nat)
 |sl (sz:Nat) (es:ak) (fr:Bool)
 |fn (f:Nat) (ps:List (Nat×Nat×Nat))
end
instance:Inhabited D:=⟨.dead⟩
instance:Inhabited ak:=⟨.gen []⟩
def HG(p:Nat×Nat×Nat):ij:=.ptr p.1 p.2.1 p.2.2
def ij.d:ij->D|.ptr r i off=>.ptr r i off|.int k n=>.int k n|.arr r=>.all r|.sl a b c=>.sl a b c|.fn f ps=>.gb f (ps.map HG)
def D.isInt(k:IntKind):D->Bool|.int j _=>decide (j=k)|_=>false
def D.toInt:D->Int|.int _ n=>n|_=>0
def D.isBool:D->Bool|.bool _=>true|_=>false
def D.toBool:D->Bool|.bool b=>b|_=>false
def D.isStr:D->Bool|.str _=>true|_=>false
def D.toStr:D->List UInt8|.str s=>s|_=>[]
def FB(k k':RK)(l:List (RK.T k)):Option (List (RK.T k')):=if h:k=k' then some (h▸l)else none
theorem Z6m(k:RK)(l:List (RK.T k)):FB k k l=some l:=by simp[FB]
theorem Vq{k k':RK}{l:List (RK.T k)}{m:List (RK.T k')}(h:FB k k' l=some m):∃e:k=k',e▸l=m:=by
 unfold FB at h
 split at h
 ·rename_i e;cases h;exact⟨e,rfl⟩
 ·cases h
def ak.toI(k:IntKind):ak->Option (List Int)
 |.ints k' l=>match decide (k'=k)with|true=>some l|false=>none
 |.gen []=>some []
 |_=>none
def ak.toB:ak->Option (List Bool)
 |.bn l=>some l
 |.gen []=>some []
 |_=>none
def ak.toR(k:RK):ak->Option (List (RK.T k))
 |.bc k' l=>FB k' k l
 |.gen []=>some []
 |_=>none
inductive CT where|int(k:IntKind)|bool|str|ints(k:IntKind)|bn|bc(k:RK)|row(i:Nat)|nil|HH|self(i:Nat)|pt(i o f:Nat)|gb(f:Nat)(cs:List ij)
def ng(k:IntKind):D->List Int|.sl _ E _=>(match E.toI k with|some l=>l|none=>[])|_=>[]
def RJ:D->List Bool|.sl _ E _=>(match E.toB with|some l=>l|none=>[])|_=>[]
def sV(k:RK):D->List (RK.T k)|.sl _ E _=>(match E.toR k with|some l=>l|none=>[])|_=>[]
def bg.cells(x:bg):List D:=[.int .u32 x.X.a0,.int .u32 x.X.a1,.int .u32 x.X.a2,.int .u32 x.X.a3,.int .u32 x.X.a4,.int .u32 x.X.a5,.int .u32 x.X.a6,.int .u32 x.X.a7,.int .u32 x.X.a8,.int .u32 x.X.a9,.int .u32 x.X.kj,.int .u32 x.X.ko,.int .u32 x.X.a12,.int .u32 x.X.kp,.int .u32 x.X.kq,.int .u32 x.X.kr,.int .u32 x.Pc,.int .u32 x.B2.a0,.int .u32 x.B2.a1,.int .u32 x.B2.a2,.int .u32 x.B2.a3,.int .u32 x.B2.a4,.int .u32 x.B2.a5,.int .u32 x.B2.a6,.int .u32 x.B2.a7]
def bg.of(cs:List D):bg:=(⟨(⟨(cs.getD 0 .dead).toInt,(cs.getD 1 .dead).toInt,(cs.getD 2 .dead).toInt,(cs.getD 3 .dead).toInt,(cs.getD 4 .dead).toInt,(cs.getD 5 .dead).toInt,(cs.getD 6 .dead).toInt,(cs.getD 7 .dead).toInt,(cs.getD 8 .dead).toInt,(cs.getD 9 .dead).toInt,(cs.getD 10 .dead).toInt,(cs.getD 11 .dead).toInt,(cs.getD 12 .dead).toInt,(cs.getD 13 .dead).toInt,(cs.getD 14 .dead).toInt,(cs.getD 15 .dead).toInt⟩:(fv Int)),(cs.getD 16 .dead).toInt,(⟨(cs.getD 17 .dead).toInt,(cs.getD 18 .dead).toInt,(cs.getD 19 .dead).toInt,(cs.getD 20 .dead).toInt,(cs.getD 21 .dead).toInt,(cs.getD 22 .dead).toInt,(cs.getD 23 .dead).toInt,(cs.getD 24 .dead).toInt⟩:(A8 Int))⟩:bg)
def iO.cells(x:iO):List D:=[.str x.C5]
def iO.of(cs:List D):iO:=(⟨(cs.getD 0 .dead).toStr⟩:iO)
def iS.cells(x:iS):List D:=[.bool x.C9,.int .u32 x.B8,.bool x.C8]
def iS.of(cs:List D):iS:=(⟨(cs.getD 0 .dead).toBool,(cs.getD 1 .dead).toInt,(cs.getD 2 .dead).toBool⟩:iS)
def fe.cells(x:fe):List D:=[.int .u32 x.ab,.int .u32 x.B9,.int .u32 x.Frame,.int .i64 x.B5,.int .i64 x.D1,.int .u32 x.B4,.int .u32 x.B0,.str x.B6]
def fe.of(cs:List D):fe:=(⟨(cs.getD 0 .dead).toInt,(cs.getD 1 .dead).toInt,(cs.getD 2 .dead).toInt,(cs.getD 3 .dead).toInt,(cs.getD 4 .dead).toInt,(cs.getD 5 .dead).toInt,(cs.getD 6 .dead).toInt,(cs.getD 7 .dead).toStr⟩:fe)
def gq.cells(x:gq):List D:=[.int .u32 x.Frame,.int .u32 x.D6,.bool x.C2,.int .u32 x.B7,.bool x.B3,.int .u32 x.D8]
def gq.of(cs:List D):gq:=(⟨(cs.getD 0 .dead).toInt,(cs.getD 1 .dead).toInt,(cs.getD 2 .dead).toBool,(cs.getD 3 .dead).toInt,(cs.getD 4 .dead).toBool,(cs.getD 5 .dead).toInt⟩:gq)
def gh.cells(x:gh):List D:=[.int .u32 x.C3,.int .u32 x.C0]
def gh.of(cs:List D):gh:=(⟨(cs.getD 0 .dead).toInt,(cs.getD 1 .dead).toInt⟩:gh)
def au.gy(x:au)(s0:D):List D:=[.int .u32 x.A9.X.a0,.int .u32 x.A9.X.a1,.int .u32 x.A9.X.a2,.int .u32 x.A9.X.a3,.int .u32 x.A9.X.a4,.int .u32 x.A9.X.a5,.int .u32 x.A9.X.a6,.int .u32 x.A9.X.a7,.int .u32 x.A9.X.a8,.int .u32 x.A9.X.a9,.int .u32 x.A9.X.kj,.int .u32 x.A9.X.ko,.int .u32 x.A9.X.a12,.int .u32 x.A9.X.kp,.int .u32 x.A9.X.kq,.int .u32 x.A9.X.kr,.int .u32 x.A9.Pc,.int .u32 x.A9.B2.a0,.int .u32 x.A9.B2.a1,.int .u32 x.A9.B2.a2,.int .u32 x.A9.B2.a3,.int .u32 x.A9.B2.a4,.int .u32 x.A9.B2.a5,.int .u32 x.A9.B2.a6,.int .u32 x.A9.B2.a7,s0,.str x.A2.C5,.bool x.A7.C9,.int .u32 x.A7.B8,.bool x.A7.C8,.int .u32 x.A6.ab,.int .u32 x.A6.B9,.int .u32 x.A6.Frame,.int .i64 x.A6.B5,.int .i64 x.A6.D1,.int .u32 x.A6.B4,.int .u32 x.A6.B0,.str x.A6.B6,.int .u32 x.C1.Frame,.int .u32 x.C1.D6,.bool x.C1.C2,.int .u32 x.C1.B7,.bool x.C1.B3,.int .u32 x.C1.D8,.int .u32 x.A1.C3,.int .u32 x.A1.C0,.int .u64 x.A0,.bool x.A3,.bool x.A4]
def au.cells(x:au):List D:=au.gy x (.sl 1 (.ints .u32 x.Mem) false)
def au.Bl(cs:List D)(s0:List Int):au:=(⟨(⟨(⟨(cs.getD 0 .dead).toInt,(cs.getD 1 .dead).toInt,(cs.getD 2 .dead).toInt,(cs.getD 3 .dead).toInt,(cs.getD 4 .dead).toInt,(cs.getD 5 .dead).toInt,(cs.getD 6 .dead).toInt,(cs.getD 7 .dead).toInt,(cs.getD 8 .dead).toInt,(cs.getD 9 .dead).toInt,(cs.getD 10 .dead).toInt,(cs.getD 11 .dead).toInt,(cs.getD 12 .dead).toInt,(cs.getD 13 .dead).toInt,(cs.getD 14 .dead).toInt,(cs.getD 15 .dead).toInt⟩:(fv Int)),(cs.getD 16 .dead).toInt,(⟨(cs.getD 17 .dead).toInt,(cs.getD 18 .dead).toInt,(cs.getD 19 .dead).toInt,(cs.getD 20 .dead).toInt,(cs.getD 21 .dead).toInt,(cs.getD 22 .dead).toInt,(cs.getD 23 .dead).toInt,(cs.getD 24 .dead).toInt⟩:(A8 Int))⟩:bg),s0,(⟨(cs.getD 26 .dead).toStr⟩:iO),(⟨(cs.getD 27 .dead).toBool,(cs.getD 28 .dead).toInt,(cs.getD 29 .dead).toBool⟩:iS),(⟨(cs.getD 30 .dead).toInt,(cs.getD 31 .dead).toInt,(cs.getD 32 .dead).toInt,(cs.getD 33 .dead).toInt,(cs.getD 34 .dead).toInt,(cs.getD 35 .dead).toInt,(cs.getD 36 .dead).toInt,(cs.getD 37 .dead).toStr⟩:fe),(⟨(cs.getD 38 .dead).toInt,(cs.getD 39 .dead).toInt,(cs.getD 40 .dead).toBool,(cs.getD 41 .dead).toInt,(cs.getD 42 .dead).toBool,(cs.getD 43 .dead).toInt⟩:gq),(⟨(cs.getD 44 .dead).toInt,(cs.getD 45 .dead).toInt⟩:gh),(cs.getD 46 .dead).toInt,(cs.getD 47 .dead).toBool,(cs.getD 48 .dead).toBool⟩:au)
def au.of(cs:List D):au:=au.Bl cs (ng .u32 (cs.getD 25 .dead))
def uM.gy(x:uM)(s0 s1:D):List D:=[.int .u32 x.B1.A9.X.a0,.int .u32 x.B1.A9.X.a1,.int .u32 x.B1.A9.X.a2,.int .u32 x.B1.A9.X.a3,.int .u32 x.B1.A9.X.a4,.int .u32 x.B1.A9.X.a5,.int .u32 x.B1.A9.X.a6,.int .u32 x.B1.A9.X.a7,.int .u32 x.B1.A9.X.a8,.int .u32 x.B1.A9.X.a9,.int .u32 x.B1.A9.X.kj,.int .u32 x.B1.A9.X.ko,.int .u32 x.B1.A9.X.a12,.int .u32 x.B1.A9.X.kp,.int .u32 x.B1.A9.X.kq,.int .u32 x.B1.A9.X.kr,.int .u32 x.B1.A9.Pc,.int .u32 x.B1.A9.B2.a0,.int .u32 x.B1.A9.B2.a1,.int .u32 x.B1.A9.B2.a2,.int .u32 x.B1.A9.B2.a3,.int .u32 x.B1.A9.B2.a4,.int .u32 x.B1.A9.B2.a5,.int .u32 x.B1.A9.B2.a6,.int .u32 x.B1.A9.B2.a7,s0,.str x.B1.A2.C5,.bool x.B1.A7.C9,.int .u32 x.B1.A7.B8,.bool x.B1.A7.C8,.int .u32 x.B1.A6.ab,.int .u32 x.B1.A6.B9,.int .u32 x.B1.A6.Frame,.int .i64 x.B1.A6.B5,.int .i64 x.B1.A6.D1,.int .u32 x.B1.A6.B4,.int .u32 x.B1.A6.B0,.str x.B1.A6.B6,.int .u32 x.B1.C1.Frame,.int .u32 x.B1.C1.D6,.bool x.B1.C1.C2,.int .u32 x.B1.C1.B7,.bool x.B1.C1.B3,.int .u32 x.B1.C1.D8,.int .u32 x.B1.A1.C3,.int .u32 x.B1.A1.C0,.int .u64 x.B1.A0,.bool x.B1.A3,.bool x.B1.A4,s1,.int .i64 x.Vp,.int .i64 x.HF]
def uM.cells(x:uM):List D:=uM.gy x (.sl 1 (.ints .u32 x.B1.Mem) false) (.sl 1 (.bn x.DZ) false)
def uM.Bl(cs:List D)(s0:List Int)(s1:List Bool):uM:=(⟨(⟨(⟨(⟨(cs.getD 0 .dead).toInt,(cs.getD 1 .dead).toInt,(cs.getD 2 .dead).toInt,(cs.getD 3 .dead).toInt,(cs.getD 4 .dead).toInt,(cs.getD 5 .dead).toInt,(cs.getD 6 .dead).toInt,(cs.getD 7 .dead).toInt,(cs.getD 8 .dead).toInt,(cs.getD 9 .dead).toInt,(cs.getD 10 .dead).toInt,(cs.getD 11 .dead).toInt,(cs.getD 12 .dead).toInt,(cs.getD 13 .dead).toInt,(cs.getD 14 .dead).toInt,(cs.getD 15 .dead).toInt⟩:(fv Int)),(cs.getD 16 .dead).toInt,(⟨(cs.getD 17 .dead).toInt,(cs.getD 18 .dead).toInt,(cs.getD 19 .dead).toInt,(cs.getD 20 .dead).toInt,(cs.getD 21 .dead).toInt,(cs.getD 22 .dead).toInt,(cs.getD 23 .dead).toInt,(cs.getD 24 .dead).toInt⟩:(A8 Int))⟩:bg),s0,(⟨(cs.getD 26 .dead).toStr⟩:iO),(⟨(cs.getD 27 .dead).toBool,(cs.getD 28 .dead).toInt,(cs.getD 29 .dead).toBool⟩:iS),(⟨(cs.getD 30 .dead).toInt,(cs.getD 31 .dead).toInt,(cs.getD 32 .dead).toInt,(cs.getD 33 .dead).toInt,(cs.getD 34 .dead).toInt,(cs.getD 35 .dead).toInt,(cs.getD 36 .dead).toInt,(cs.getD 37 .dead).toStr⟩:fe),(⟨(cs.getD 38 .dead).toInt,(cs.getD 39 .dead).toInt,(cs.getD 40 .dead).toBool,(cs.getD 41 .dead).toInt,(cs.getD 42 .dead).toBool,(cs.getD 43 .dead).toInt⟩:gq),(⟨(cs.getD 44 .dead).toInt,(cs.getD 45 .dead).toInt⟩:gh),(cs.getD 46 .dead).toInt,(cs.getD 47 .dead).toBool,(cs.getD 48 .dead).toBool⟩:au),s1,(cs.getD 50 .dead).toInt,(cs.getD 51 .dead).toInt⟩:uM)
def uM.of(cs:List D):uM:=uM.Bl cs (ng .u32 (cs.getD 25 .dead)) (RJ (cs.getD 49 .dead))
def JS.cells(x:JS):List D:=[.int .i64 x.Frame,.str x.D2]
def JS.of(cs:List D):JS:=(⟨(cs.getD 0 .dead).toInt,(cs.getD 1 .dead).toStr⟩:JS)
def jX.cells(x:jX):List D:=[.int .i64 x.C4,.int .u32 x.N,.str x.D2]
def jX.of(cs:List D):jX:=(⟨(cs.getD 0 .dead).toInt,(cs.getD 1 .dead).toInt,(cs.getD 2 .dead).toStr⟩:jX)
def jK.cells(x:jK):List D:=[.bool x.Good,.int .i64 x.D5,.int .u64 x.At]
def jK.of(cs:List D):jK:=(⟨(cs.getD 0 .dead).toBool,(cs.getD 1 .dead).toInt,(cs.getD 2 .dead).toInt⟩:jK)
def fy.cells(x:fy):List D:=[.int .u64 x.At,.int .u64 x.D0]
def fy.of(cs:List D):fy:=(⟨(cs.getD 0 .dead).toInt,(cs.getD 1 .dead).toInt⟩:fy)
def ep.cells(x:ep):List D:=[.int .u64 x.At,.int .i64 x.C7.C4,.int .u32 x.C7.N,.str x.C7.D2]
def ep.of(cs:List D):ep:=(⟨(cs.getD 0 .dead).toInt,(⟨(cs.getD 1 .dead).toInt,(cs.getD 2 .dead).toInt,(cs.getD 3 .dead).toStr⟩:jX)⟩:ep)
def sU.cells(x:sU):List D:=[.int .i64 x.wR,.int .i64 x.nd]
def sU.of(cs:List D):sU:=(⟨(cs.getD 0 .dead).toInt,(cs.getD 1 .dead).toInt⟩:sU)
def kD.cells(x:kD):List D:=[.int .i64 x.C4,.int .i64 x.C6,.int .i64 x.D7,.int .u32 x.Value]
def kD.of(cs:List D):kD:=(⟨(cs.getD 0 .dead).toInt,(cs.getD 1 .dead).toInt,(cs.getD 2 .dead).toInt,(cs.getD 3 .dead).toInt⟩:kD)
def fm.cells(x:fm):List D:=[.int .i64 x.C4,.int .u64 x.At,.int .u32 x.B9,.str x.D2]
def fm.of(cs:List D):fm:=(⟨(cs.getD 0 .dead).toInt,(cs.getD 1 .dead).toInt,(cs.getD 2 .dead).toInt,(cs.getD 3 .dead).toStr⟩:fm)
def pj.gy(x:pj)(s0 s1 s2:D):List D:=[.int .u32 x.B1.A9.X.a0,.int .u32 x.B1.A9.X.a1,.int .u32 x.B1.A9.X.a2,.int .u32 x.B1.A9.X.a3,.int .u32 x.B1.A9.X.a4,.int .u32 x.B1.A9.X.a5,.int .u32 x.B1.A9.X.a6,.int .u32 x.B1.A9.X.a7,.int .u32 x.B1.A9.X.a8,.int .u32 x.B1.A9.X.a9,.int .u32 x.B1.A9.X.kj,.int .u32 x.B1.A9.X.ko,.int .u32 x.B1.A9.X.a12,.int .u32 x.B1.A9.X.kp,.int .u32 x.B1.A9.X.kq,.int .u32 x.B1.A9.X.kr,.int .u32 x.B1.A9.Pc,.int .u32 x.B1.A9.B2.a0,.int .u32 x.B1.A9.B2.a1,.int .u32 x.B1.A9.B2.a2,.int .u32 x.B1.A9.B2.a3,.int .u32 x.B1.A9.B2.a4,.int .u32 x.B1.A9.B2.a5,.int .u32 x.B1.A9.B2.a6,.int .u32 x.B1.A9.B2.a7,s0,.str x.B1.A2.C5,.bool x.B1.A7.C9,.int .u32 x.B1.A7.B8,.bool x.B1.A7.C8,.int .u32 x.B1.A6.ab,.int .u32 x.B1.A6.B9,.int .u32 x.B1.A6.Frame,.int .i64 x.B1.A6.B5,.int .i64 x.B1.A6.D1,.int .u32 x.B1.A6.B4,.int .u32 x.B1.A6.B0,.str x.B1.A6.B6,.int .u32 x.B1.C1.Frame,.int .u32 x.B1.C1.D6,.bool x.B1.C1.C2,.int .u32 x.B1.C1.B7,.bool x.B1.C1.B3,.int .u32 x.B1.C1.D8,.int .u32 x.B1.A1.C3,.int .u32 x.B1.A1.C0,.int .u64 x.B1.A0,.bool x.B1.A3,.bool x.B1.A4,.int .u32 x.Bk,s1,s2]
def pj.cells(x:pj):List D:=pj.gy x (.sl 1 (.ints .u32 x.B1.Mem) false) (.sl 4 (.bc .aj x.Log) false) (.sl 3 (.bc .iw x.Queue) false)
def pj.Bl(cs:List D)(s0:List Int)(s1:List ep)(s2:List jX):pj:=(⟨(⟨(⟨(⟨(cs.getD 0 .dead).toInt,(cs.getD 1 .dead).toInt,(cs.getD 2 .dead).toInt,(cs.getD 3 .dead).toInt,(cs.getD 4 .dead).toInt,(cs.getD 5 .dead).toInt,(cs.getD 6 .dead).toInt,(cs.getD 7 .dead).toInt,(cs.getD 8 .dead).toInt,(cs.getD 9 .dead).toInt,(cs.getD 10 .dead).toInt,(cs.getD 11 .dead).toInt,(cs.getD 12 .dead).toInt,(cs.getD 13 .dead).toInt,(cs.getD 14 .dead).toInt,(cs.getD 15 .dead).toInt⟩:(fv Int)),(cs.getD 16 .dead).toInt,(⟨(cs.getD 17 .dead).toInt,(cs.getD 18 .dead).toInt,(cs.getD 19 .dead).toInt,(cs.getD 20 .dead).toInt,(cs.getD 21 .dead).toInt,(cs.getD 22 .dead).toInt,(cs.getD 23 .dead).toInt,(cs.getD 24 .dead).toInt⟩:(A8 Int))⟩:bg),s0,(⟨(cs.getD 26 .dead).toStr⟩:iO),(⟨(cs.getD 27 .dead).toBool,(cs.getD 28 .dead).toInt,(cs.getD 29 .dead).toBool⟩:iS),(⟨(cs.getD 30 .dead).toInt,(cs.getD 31 .dead).toInt,(cs.getD 32 .dead).toInt,(cs.getD 33 .dead).toInt,(cs.getD 34 .dead).toInt,(cs.getD 35 .dead).toInt,(cs.getD 36 .dead).toInt,(cs.getD 37 .dead).toStr⟩:fe),(⟨(cs.getD 38 .dead).toInt,(cs.getD 39 .dead).toInt,(cs.getD 40 .dead).toBool,(cs.getD 41 .dead).toInt,(cs.getD 42 .dead).toBool,(cs.getD 43 .dead).toInt⟩:gq),(⟨(cs.getD 44 .dead).toInt,(cs.getD 45 .dead).toInt⟩:gh),(cs.getD 46 .dead).toInt,(cs.getD 47 .dead).toBool,(cs.getD 48 .dead).toBool⟩:au),(cs.getD 49 .dead).toInt,s1,s2⟩:pj)
def pj.of(cs:List D):pj:=pj.Bl cs (ng .u32 (cs.getD 25 .dead)) (sV .aj (cs.getD 50 .dead)) (sV .iw (cs.getD 51 .dead))
def nf.cells(x:nf):List D:=[.int .i64 x.ku,.int .i64 x.num,.str x.label]
def nf.of(cs:List D):nf:=(⟨(cs.getD 0 .dead).toInt,(cs.getD 1 .dead).toInt,(cs.getD 2 .dead).toStr⟩:nf)
def j8.gy(x:j8)(s0:D):List D:=[.str x.dz,.int .i64 x.op,s0,.int .i64 x.D4,.int .i64 x.at_,.int .i64 x.size]
def j8.cells(x:j8):List D:=j8.gy x (.sl 3 (.bc .ay x.l) false)
def j8.Bl(cs:List D)(s0:List nf):j8:=(⟨(cs.getD 0 .dead).toStr,(cs.getD 1 .dead).toInt,s0,(cs.getD 3 .dead).toInt,(cs.getD 4 .dead).toInt,(cs.getD 5 .dead).toInt⟩:j8)
def j8.of(cs:List D):j8:=j8.Bl cs (sV .ay (cs.getD 2 .dead))
def gj.cells(x:gj):List D:=[.int .i64 x.Op,.int .i64 x.A,.int .i64 x.B,.int .i64 x.C,.int .i32 x.bh]
def gj.of(cs:List D):gj:=(⟨(cs.getD 0 .dead).toInt,(cs.getD 1 .dead).toInt,(cs.getD 2 .dead).toInt,(cs.getD 3 .dead).toInt,(cs.getD 4 .dead).toInt⟩:gj)
def nM.cells(x:nM):List D:=[.str x.Name,.int .u32 x.Addr]
def nM.of(cs:List D):nM:=(⟨(cs.getD 0 .dead).toStr,(cs.getD 1 .dead).toInt⟩:nM)
def re.cells(x:re):List D:=[.int .u32 x.Addr,.int .u32 x.E0,.int .i64 x.D9]
def re.of(cs:List D):re:=(⟨(cs.getD 0 .dead).toInt,(cs.getD 1 .dead).toInt,(cs.getD 2 .dead).toInt⟩:re)
def wS.cells(x:wS):List D:=[.bool x.a,.bool x.b,.bool x.c,.int .i32 x.low,.int .i32 x.D3]
def wS.of(cs:List D):wS:=(⟨(cs.getD 0 .dead).toBool,(cs.getD 1 .dead).toBool,(cs.getD 2 .dead).toBool,(cs.getD 3 .dead).toInt,(cs.getD 4 .dead).toInt⟩:wS)
def kX.cells(x:kX):List D:=[.int .i64 x.kind,.str x.text,.bool x.wT]
def kX.of(cs:List D):kX:=(⟨(cs.getD 0 .dead).toInt,(cs.getD 1 .dead).toStr,(cs.getD 2 .dead).toBool⟩:kX)
def RK.size:RK->Nat
 |.bd=>4
 |.aj=>4
 |.ae=>2
 |.iw=>3
 |.dd=>2
 |.ag=>6
 |.ay=>3
 |.str=>1
 |.av=>3
def Df:CT->D->D
 |.int k,d=>.int k d.toInt
 |.bool,d=>.bool d.toBool
 |.str,d=>.str d.toStr
 |.ints k,d=>.sl 1 (.ints k (ng k d)) false
 |.bn,d=>.sl 1 (.bn (RJ d)) false
 |.bc k,d=>.sl k.size (.bc k (sV k d)) false
 |.row i,_=>.all i
 |.nil,_=>.sl 0 (.gen []) false
 |.HH,_=>.dq
 |.self i,_=>.cy i
 |.pt i o f,_=>.ptr i o f
 |.gb f cs,_=>.gb f cs
def uO:List CT->List D->Nat->List D
 |[],_,_=>[]
 |t::ts,cs,j=>Df t (cs.getD j .dead)::uO ts cs (j+1)
def bg.sig:List CT:=[.int .u32,.int .u32,.int .u32,.int .u32,.int .u32,.int .u32,.int .u32,.int .u32,.int .u32,.int .u32,.int .u32,.int .u32,.int .u32,.int .u32,.int .u32,.int .u32,.int .u32,.int .u32,.int .u32,.int .u32,.int .u32,.int .u32,.int .u32,.int .u32,.int .u32]
def iO.sig:List CT:=[.str]
def iS.sig:List CT:=[.bool,.int .u32,.bool]
def fe.sig:List CT:=[.int .u32,.int .u32,.int .u32,.int .i64,.int .i64,.int .u32,.int .u32,.str]
def gq.sig:List CT:=[.int .u32,.int .u32,.bool,.int .u32,.bool,.int .u32]
def gh.sig:List CT:=[.int .u32,.int .u32]
def au.nN(s0:CT):List CT:=[.int .u32,.int .u32,.int .u32,.int .u32,.int .u32,.int .u32,.int .u32,.int .u32,.int .u32,.int .u32,.int .u32,.int .u32,.int .u32,.int .u32,.int .u32,.int .u32,.int .u32,.int .u32,.int .u32,.int .u32,.int .u32,.int .u32,.int .u32,.int .u32,.int .u32,s0,.str,.bool,.int .u32,.bool,.int .u32,.int .u32,.int .u32,.int .i64,.int .i64,.int .u32,.int .u32,.str,.int .u32,.int .u32,.bool,.int .u32,.bool,.int .u32,.int .u32,.int .u32,.int .u64,.bool,.bool]
def au.sig:List CT:=au.nN (.ints .u32)
def uM.nN(s0 s1:CT):List CT:=[.int .u32,.int .u32,.int .u32,.int .u32,.int .u32,.int .u32,.int .u32,.int .u32,.int .u32,.int .u32,.int .u32,.int .u32,.int .u32,.int .u32,.int .u32,.int .u32,.int .u32,.int .u32,.int .u32,.int .u32,.int .u32,.int .u32,.int .u32,.int .u32,.int .u32,s0,.str,.bool,.int .u32,.bool,.int .u32,.int .u32,.int .u32,.int .i64,.int .i64,.int .u32,.int .u32,.str,.int .u32,.int .u32,.bool,.int .u32,.bool,.int .u32,.int .u32,.int .u32,.int .u64,.bool,.bool,s1,.int .i64,.int .i64]
def uM.sig:List CT:=uM.nN (.ints .u32) (.bn)
def JS.sig:List CT:=[.int .i64,.str]
def jX.sig:List CT:=[.int .i64,.int .u32,.str]
def jK.sig:List CT:=[.bool,.int .i64,.int .u64]
def fy.sig:List CT:=[.int .u64,.int .u64]
def ep.sig:List CT:=[.int .u64,.int .i64,.int .u32,.str]
def sU.sig:List CT:=[.int .i64,.int .i64]
def kD.sig:List CT:=[.int .i64,.int .i64,.int .i64,.int .u32]
def fm.sig:List CT:=[.int .i64,.int .u64,.int .u32,.str]
def pj.nN(s0 s1 s2:CT):List CT:=[.int .u32,.int .u32,.int .u32,.int .u32,.int .u32,.int .u32,.int .u32,.int .u32,.int .u32,.int .u32,.int .u32,.int .u32,.int .u32,.int .u32,.int .u32,.int .u32,.int .u32,.int .u32,.int .u32,.int .u32,.int .u32,.int .u32,.int .u32,.int .u32,.int .u32,s0,.str,.bool,.int .u32,.bool,.int .u32,.int .u32,.int .u32,.int .i64,.int .i64,.int .u32,.int .u32,.str,.int .u32,.int .u32,.bool,.int .u32,.bool,.int .u32,.int .u32,.int .u32,.int .u64,.bool,.bool,.int .u32,s1,s2]
def pj.sig:List CT:=pj.nN (.ints .u32) (.bc .aj) (.bc .iw)
def nf.sig:List CT:=[.int .i64,.int .i64,.str]
def j8.nN(s0:CT):List CT:=[.str,.int .i64,s0,.int .i64,.int .i64,.int .i64]
def j8.sig:List CT:=j8.nN (.bc .ay)
def gj.sig:List CT:=[.int .i64,.int .i64,.int .i64,.int .i64,.int .i32]
def nM.sig:List CT:=[.str,.int .u32]
def re.sig:List CT:=[.int .u32,.int .u32,.int .i64]
def wS.sig:List CT:=[.bool,.bool,.bool,.int .i32,.int .i32]
def kX.sig:List CT:=[.int .i64,.str,.bool]
def RK.sig:RK->List CT
 |.bd=>fm.sig
 |.aj=>ep.sig
 |.ae=>fy.sig
 |.iw=>jX.sig
 |.dd=>nM.sig
 |.ag=>j8.sig
 |.ay=>nf.sig
 |.str=>[.str]
 |.av=>kX.sig
def RK.cells:(k:RK)->RK.T k->List D
 |.bd,x=>fm.cells x
 |.aj,x=>ep.cells x
 |.ae,x=>fy.cells x
 |.iw,x=>jX.cells x
 |.dd,x=>nM.cells x
 |.ag,x=>j8.cells x
 |.ay,x=>nf.cells x
 |.str,x=>[.str x]
 |.av,x=>kX.cells x
def RK.of:(k:RK)->List D->RK.T k
 |.bd,cs=>fm.of cs
 |.aj,cs=>ep.of cs
 |.ae,cs=>fy.of cs
 |.iw,cs=>jX.of cs
 |.dd,cs=>nM.of cs
 |.ag,cs=>j8.of cs
 |.ay,cs=>nf.of cs
 |.str,cs=>(cs.getD 0 .dead).toStr
 |.av,cs=>kX.of cs
theorem RK.Bm(k:RK)(cs:List D):k.cells (k.of cs)=uO k.sig cs 0:=by cases k<;>kernel_rfl
theorem RK.nO(k:RK)(x:RK.T k):uO k.sig (k.cells x) 0=k.cells x:=by cases k<;>kernel_rfl
theorem RK.tA(k:RK):k.sig.length=k.size:=by cases k<;>rfl
