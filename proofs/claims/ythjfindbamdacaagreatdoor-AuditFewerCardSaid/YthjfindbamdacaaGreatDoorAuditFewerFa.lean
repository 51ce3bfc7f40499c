import Derived.WalkKit
import Derived.KernelRfl
set_option linter.all false
namespace Go.GD
theorem oY{p:Prop}[Decidable p](h:decide p=true):p:=of_decide_eq_true h
theorem oN{p:Prop}[Decidable p](h:decide p=false):¬p:=of_decide_eq_false h
theorem dY{p:Prop}[Decidable p](h:p):decide p=true:=decide_eq_true h
theorem dN{p:Prop}[Decidable p](h:¬p):decide p=false:=decide_eq_false h
theorem bE{n m:Nat}(h:Nat.beq n m=true):n=m:=Nat.eq_of_beq_eq_true h
theorem lE{n m:Nat}(h:Nat.ble n m=true):n<=m:=Nat.le_of_ble_eq_true h
theorem aE(a b:Bool):((a&&b)=true)=(a=true/\b=true):=Bool.and_eq_true a b
theorem lA{α:Type}{a b:List α}:(a++b).length=a.length+b.length:=List.length_append
structure A5(α:Type) where
 (a0 a1 a2 a3 a4:α)
 deriving DecidableEq,Inhabited
def A5.l{α:Type}(x:A5 α):List α:=[x.a0,x.a1,x.a2,x.a3,x.a4]
def A5.of{α:Type}(z:α)(l:List α):A5 α:=⟨l.getD 0 z,l.getD 1 z,l.getD 2 z,l.getD 3 z,l.getD 4 z⟩
structure A8(α:Type) where
 (a0 a1 a2 a3 a4 a5 a6 a7:α)
 deriving DecidableEq,Inhabited
def A8.l{α:Type}(x:A8 α):List α:=[x.a0,x.a1,x.a2,x.a3,x.a4,x.a5,x.a6,x.a7]
def A8.of{α:Type}(z:α)(l:List α):A8 α:=⟨l.getD 0 z,l.getD 1 z,l.getD 2 z,l.getD 3 z,l.getD 4 z,l.getD 5 z,l.getD 6 z,l.getD 7 z⟩
structure iV(α:Type) where
 (a0 a1 a2 a3 a4 a5 a6 a7 a8 a9 kz kA a12 kB kC kD:α)
 deriving DecidableEq,Inhabited
def iV.l{α:Type}(x:iV α):List α:=[x.a0,x.a1,x.a2,x.a3,x.a4,x.a5,x.a6,x.a7,x.a8,x.a9,x.kz,x.kA,x.a12,x.kB,x.kC,x.kD]
def iV.of{α:Type}(z:α)(l:List α):iV α:=⟨l.getD 0 z,l.getD 1 z,l.getD 2 z,l.getD 3 z,l.getD 4 z,l.getD 5 z,l.getD 6 z,l.getD 7 z,l.getD 8 z,l.getD 9 z,l.getD 10 z,l.getD 11 z,l.getD 12 z,l.getD 13 z,l.getD 14 z,l.getD 15 z⟩
structure SO(α:Type) where
 (a0 a1 a2 a3 a4 a5 a6 a7 a8 a9 kz kA a12 kB kC kD Ns Nt Nu Nv:α)
 deriving DecidableEq,Inhabited
def SO.l{α:Type}(x:SO α):List α:=[x.a0,x.a1,x.a2,x.a3,x.a4,x.a5,x.a6,x.a7,x.a8,x.a9,x.kz,x.kA,x.a12,x.kB,x.kC,x.kD,x.Ns,x.Nt,x.Nu,x.Nv]
def SO.of{α:Type}(z:α)(l:List α):SO α:=⟨l.getD 0 z,l.getD 1 z,l.getD 2 z,l.getD 3 z,l.getD 4 z,l.getD 5 z,l.getD 6 z,l.getD 7 z,l.getD 8 z,l.getD 9 z,l.getD 10 z,l.getD 11 z,l.getD 12 z,l.getD 13 z,l.getD 14 z,l.getD 15 z,l.getD 16 z,l.getD 17 z,l.getD 18 z,l.getD 19 z⟩
structure SP(α:Type) where
 (a0 a1 a2 a3 a4 a5 a6 a7 a8 a9 kz kA a12 kB kC kD Ns Nt Nu Nv a20 a21 a22 WG:α)
 deriving DecidableEq,Inhabited
def SP.l{α:Type}(x:SP α):List α:=[x.a0,x.a1,x.a2,x.a3,x.a4,x.a5,x.a6,x.a7,x.a8,x.a9,x.kz,x.kA,x.a12,x.kB,x.kC,x.kD,x.Ns,x.Nt,x.Nu,x.Nv,x.a20,x.a21,x.a22,x.WG]
def SP.of{α:Type}(z:α)(l:List α):SP α:=⟨l.getD 0 z,l.getD 1 z,l.getD 2 z,l.getD 3 z,l.getD 4 z,l.getD 5 z,l.getD 6 z,l.getD 7 z,l.getD 8 z,l.getD 9 z,l.getD 10 z,l.getD 11 z,l.getD 12 z,l.getD 13 z,l.getD 14 z,l.getD 15 z,l.getD 16 z,l.getD 17 z,l.getD 18 z,l.getD 19 z,l.getD 20 z,l.getD 21 z,l.getD 22 z,l.getD 23 z⟩
structure SQ(α:Type) where
 (a0 a1 a2 a3 a4 a5 a6 a7 a8 a9 kz kA a12 kB kC kD Ns Nt Nu Nv a20 a21 a22 WG a24 a25 a26 a27 a28 a29 a30 a31:α)
 deriving DecidableEq,Inhabited
def SQ.l{α:Type}(x:SQ α):List α:=[x.a0,x.a1,x.a2,x.a3,x.a4,x.a5,x.a6,x.a7,x.a8,x.a9,x.kz,x.kA,x.a12,x.kB,x.kC,x.kD,x.Ns,x.Nt,x.Nu,x.Nv,x.a20,x.a21,x.a22,x.WG,x.a24,x.a25,x.a26,x.a27,x.a28,x.a29,x.a30,x.a31]
def SQ.of{α:Type}(z:α)(l:List α):SQ α:=⟨l.getD 0 z,l.getD 1 z,l.getD 2 z,l.getD 3 z,l.getD 4 z,l.getD 5 z,l.getD 6 z,l.getD 7 z,l.getD 8 z,l.getD 9 z,l.getD 10 z,l.getD 11 z,l.getD 12 z,l.getD 13 z,l.getD 14 z,l.getD 15 z,l.getD 16 z,l.getD 17 z,l.getD 18 z,l.getD 19 z,l.getD 20 z,l.getD 21 z,l.getD 22 z,l.getD 23 z,l.getD 24 z,l.getD 25 z,l.getD 26 z,l.getD 27 z,l.getD 28 z,l.getD 29 z,l.getD 30 z,l.getD 31 z⟩
structure bj where
 X:(iV Int)
 Pc:Int
 B7:(A8 Int)
 deriving DecidableEq,Inhabited
structure iW where
 D5:(List UInt8)
 deriving DecidableEq,Inhabited
structure iX where
 D7:Bool
 C7:Int
 D6:Bool
 deriving DecidableEq,Inhabited
structure fp where
 ag:Int
 C4:Int
 Frame:Int
 C0:Int
 D8:Int
 B9:Int
 B5:Int
 C1:(List UInt8)
 deriving DecidableEq,Inhabited
structure ia where
 Frame:Int
 F1:Int
 C8:Bool
 C2:Int
 B8:Bool
 F4:Int
 deriving DecidableEq,Inhabited
structure gv where
 C9:Int
 C5:Int
 deriving DecidableEq,Inhabited
structure au where
 B4:bj
 Mem:(List Int)
 A7:iW
 B2:iX
 B1:fp
 C6:ia
 A6:gv
 A4:Int
 A9:Bool
 B0:Bool
 deriving DecidableEq,Inhabited
structure wu where
 A0:au
 ES:(List Bool)
 WH:Int
 Iz:Int
 deriving DecidableEq,Inhabited
structure KL where
 Frame:Int
 D2:(List UInt8)
 deriving DecidableEq,Inhabited
structure gx where
 C3:Int
 N:Int
 D2:(List UInt8)
 deriving DecidableEq,Inhabited
structure jR where
 Good:Bool
 F0:Int
 At:Int
 deriving DecidableEq,Inhabited
structure fv where
 At:Int
 D3:Int
 deriving DecidableEq,Inhabited
structure ej where
 At:Int
 D1:gx
 deriving DecidableEq,Inhabited
structure tH where
 Aq:Int
 nI:Int
 deriving DecidableEq,Inhabited
structure kN where
 C3:Int
 D4:Int
 F3:Int
 Value:Int
 deriving DecidableEq,Inhabited
structure dw where
 C3:Int
 At:Int
 C4:Int
 D2:(List UInt8)
 deriving DecidableEq,Inhabited
structure cy where
 A0:au
 B6:Int
 D0:(List ej)
 B3:(List gx)
 deriving DecidableEq,Inhabited
structure nJ where
 kK:Int
 num:Int
 label:(List UInt8)
 deriving DecidableEq,Inhabited
structure kE where
 eg:(List UInt8)
 op:Int
 l:(List nJ)
 E0:Int
 at_:Int
 size:Int
 deriving DecidableEq,Inhabited
structure gu where
 Op:Int
 A:Int
 B:Int
 C:Int
 bq:Int
 deriving DecidableEq,Inhabited
structure om where
 Name:(List UInt8)
 Addr:Int
 deriving DecidableEq,Inhabited
structure rS where
 Addr:Int
 F6:Int
 F5:Int
 deriving DecidableEq,Inhabited
structure Ar where
 a:Bool
 b:Bool
 c:Bool
 low:Int
 D9:Int
 deriving DecidableEq,Inhabited
structure lI where
 kind:Int
 text:(List UInt8)
 Au:Bool
 deriving DecidableEq,Inhabited
inductive RK where
 |ba|ab|ae|bd|dm|ai|bb|str|ax
 deriving DecidableEq
@[reducible] def RK.T:RK->Type
 |.ba=>dw
 |.ab=>ej
 |.ae=>fv
 |.bd=>gx
 |.dm=>om
 |.ai=>kE
 |.bb=>nJ
 |.str=>(List UInt8)
 |.ax=>lI
def RK.cu:(k:RK)->RK.T k
 |.ba=>(default:dw)
 |.ab=>(default:ej)
 |.ae=>(default:fv)
 |.bd=>(default:gx)
 |.dm=>(default:om)
 |.ai=>(default:kE)
 |.bb=>(default:nJ)
 |.str=>(default:List UInt8)
 |.ax=>(default:lI)
def RK.Nw:Nat->Option RK
 |137=>some .ba
 |103=>some .ab
 |100=>some .ae
 |72=>some .bd
 |238=>some .dm
 |175=>some .ai
 |177=>some .bb
 |9=>some .str
 |303=>some .ax
 |_=>none
end Go.GD
namespace Go.GD
open Go
instance (k:RK):Inhabited (RK.T k):=⟨RK.cu k⟩
mutual
inductive D where
 |bool (b:Bool)
 |int (k:IntKind) (n:Int)
 |str (s:List UInt8)
 |sl (sz:Nat) (es:ao) (fr:Bool)
 |all (r:Nat)
 |own (r o n:Nat)
 |ptr (r i off:Nat)
 |pa (r i off len:Nat) (k:Option IntKind) (n:Nat)
 |iv (sz:Nat) (es:ao) (i off:Nat)
 |iN
 |dx
 |emp
 |rk (es:ao)
 |dead
 |gn (f:Nat) (cs:List iw)
 |c9 (r:Nat)
 |jL
 |agg (cs:List D)
 |du (ds:List D)
inductive ao where
 |gen (es:List (List D))
 |ints (k:IntKind) (l:List Int)
 |bu (l:List Bool)
 |av (k:RK) (l:List (RK.T k))
inductive iw where
 |ptr (r i off:Nat)
 |int (k:IntKind) (n:Int)
 |arr (r:Nat)
 |sl (sz:Nat) (es:ao) (fr:Bool)
 |fn (f:Nat) (ps:List (Nat×Nat×Nat))
end
instance:Inhabited D:=⟨.dead⟩
instance:Inhabited ao:=⟨.gen []⟩
def IA(p:Nat×Nat×Nat):iw:=.ptr p.1 p.2.1 p.2.2
def iw.d:iw->D|.ptr r i off=>.ptr r i off|.int k n=>.int k n|.arr r=>.all r|.sl a b c=>.sl a b c|.fn f ps=>.gn f (ps.map IA)
def D.isInt(k:IntKind):D->Bool|.int j _=>decide (j=k)|_=>false
def D.toInt:D->Int|.int _ n=>n|_=>0
def D.isBool:D->Bool|.bool _=>true|_=>false
def D.toBool:D->Bool|.bool b=>b|_=>false
def D.isStr:D->Bool|.str _=>true|_=>false
def D.toStr:D->List UInt8|.str s=>s|_=>[]
def Gu(k k':RK)(l:List (RK.T k)):Option (List (RK.T k')):=if h:k=k' then some (h▸l)else none
theorem Z9z(k:RK)(l:List (RK.T k)):Gu k k l=some l:=by simp[Gu]
theorem WI{k k':RK}{l:List (RK.T k)}{m:List (RK.T k')}(h:Gu k k' l=some m):∃e:k=k',e▸l=m:=by
 unfold Gu at h
 split at h
 ·rename_i e;cases h;exact⟨e,rfl⟩
 ·cases h
def ao.toI(k:IntKind):ao->Option (List Int)
 |.ints k' l=>match decide (k'=k)with|true=>some l|false=>none
 |.gen []=>some []
 |_=>none
def ao.toB:ao->Option (List Bool)
 |.bu l=>some l
 |.gen []=>some []
 |_=>none
def ao.toR(k:RK):ao->Option (List (RK.T k))
 |.av k' l=>Gu k' k l
 |.gen []=>some []
 |_=>none
inductive CT where|int(k:IntKind)|bool|str|ints(k:IntKind)|bu|av(k:RK)|row(i:Nat)|nil|IB|self(i:Nat)|pt(i o f:Nat)|gn(f:Nat)(cs:List iw)
def nK(k:IntKind):D->List Int|.sl _ E _=>(match E.toI k with|some l=>l|none=>[])|_=>[]
def Nx:D->List Bool|.sl _ E _=>(match E.toB with|some l=>l|none=>[])|_=>[]
def tI(k:RK):D->List (RK.T k)|.sl _ E _=>(match E.toR k with|some l=>l|none=>[])|_=>[]
def bj.cells(x:bj):List D:=[.int .u32 x.X.a0,.int .u32 x.X.a1,.int .u32 x.X.a2,.int .u32 x.X.a3,.int .u32 x.X.a4,.int .u32 x.X.a5,.int .u32 x.X.a6,.int .u32 x.X.a7,.int .u32 x.X.a8,.int .u32 x.X.a9,.int .u32 x.X.kz,.int .u32 x.X.kA,.int .u32 x.X.a12,.int .u32 x.X.kB,.int .u32 x.X.kC,.int .u32 x.X.kD,.int .u32 x.Pc,.int .u32 x.B7.a0,.int .u32 x.B7.a1,.int .u32 x.B7.a2,.int .u32 x.B7.a3,.int .u32 x.B7.a4,.int .u32 x.B7.a5,.int .u32 x.B7.a6,.int .u32 x.B7.a7]
def bj.of(cs:List D):bj:=(⟨(⟨(cs.getD 0 .dead).toInt,(cs.getD 1 .dead).toInt,(cs.getD 2 .dead).toInt,(cs.getD 3 .dead).toInt,(cs.getD 4 .dead).toInt,(cs.getD 5 .dead).toInt,(cs.getD 6 .dead).toInt,(cs.getD 7 .dead).toInt,(cs.getD 8 .dead).toInt,(cs.getD 9 .dead).toInt,(cs.getD 10 .dead).toInt,(cs.getD 11 .dead).toInt,(cs.getD 12 .dead).toInt,(cs.getD 13 .dead).toInt,(cs.getD 14 .dead).toInt,(cs.getD 15 .dead).toInt⟩:(iV Int)),(cs.getD 16 .dead).toInt,(⟨(cs.getD 17 .dead).toInt,(cs.getD 18 .dead).toInt,(cs.getD 19 .dead).toInt,(cs.getD 20 .dead).toInt,(cs.getD 21 .dead).toInt,(cs.getD 22 .dead).toInt,(cs.getD 23 .dead).toInt,(cs.getD 24 .dead).toInt⟩:(A8 Int))⟩:bj)
def iW.cells(x:iW):List D:=[.str x.D5]
def iW.of(cs:List D):iW:=(⟨(cs.getD 0 .dead).toStr⟩:iW)
def iX.cells(x:iX):List D:=[.bool x.D7,.int .u32 x.C7,.bool x.D6]
def iX.of(cs:List D):iX:=(⟨(cs.getD 0 .dead).toBool,(cs.getD 1 .dead).toInt,(cs.getD 2 .dead).toBool⟩:iX)
def fp.cells(x:fp):List D:=[.int .u32 x.ag,.int .u32 x.C4,.int .u32 x.Frame,.int .i64 x.C0,.int .i64 x.D8,.int .u32 x.B9,.int .u32 x.B5,.str x.C1]
def fp.of(cs:List D):fp:=(⟨(cs.getD 0 .dead).toInt,(cs.getD 1 .dead).toInt,(cs.getD 2 .dead).toInt,(cs.getD 3 .dead).toInt,(cs.getD 4 .dead).toInt,(cs.getD 5 .dead).toInt,(cs.getD 6 .dead).toInt,(cs.getD 7 .dead).toStr⟩:fp)
def ia.cells(x:ia):List D:=[.int .u32 x.Frame,.int .u32 x.F1,.bool x.C8,.int .u32 x.C2,.bool x.B8,.int .u32 x.F4]
def ia.of(cs:List D):ia:=(⟨(cs.getD 0 .dead).toInt,(cs.getD 1 .dead).toInt,(cs.getD 2 .dead).toBool,(cs.getD 3 .dead).toInt,(cs.getD 4 .dead).toBool,(cs.getD 5 .dead).toInt⟩:ia)
def gv.cells(x:gv):List D:=[.int .u32 x.C9,.int .u32 x.C5]
def gv.of(cs:List D):gv:=(⟨(cs.getD 0 .dead).toInt,(cs.getD 1 .dead).toInt⟩:gv)
def au.fg(x:au)(s0:D):List D:=[.int .u32 x.B4.X.a0,.int .u32 x.B4.X.a1,.int .u32 x.B4.X.a2,.int .u32 x.B4.X.a3,.int .u32 x.B4.X.a4,.int .u32 x.B4.X.a5,.int .u32 x.B4.X.a6,.int .u32 x.B4.X.a7,.int .u32 x.B4.X.a8,.int .u32 x.B4.X.a9,.int .u32 x.B4.X.kz,.int .u32 x.B4.X.kA,.int .u32 x.B4.X.a12,.int .u32 x.B4.X.kB,.int .u32 x.B4.X.kC,.int .u32 x.B4.X.kD,.int .u32 x.B4.Pc,.int .u32 x.B4.B7.a0,.int .u32 x.B4.B7.a1,.int .u32 x.B4.B7.a2,.int .u32 x.B4.B7.a3,.int .u32 x.B4.B7.a4,.int .u32 x.B4.B7.a5,.int .u32 x.B4.B7.a6,.int .u32 x.B4.B7.a7,s0,.str x.A7.D5,.bool x.B2.D7,.int .u32 x.B2.C7,.bool x.B2.D6,.int .u32 x.B1.ag,.int .u32 x.B1.C4,.int .u32 x.B1.Frame,.int .i64 x.B1.C0,.int .i64 x.B1.D8,.int .u32 x.B1.B9,.int .u32 x.B1.B5,.str x.B1.C1,.int .u32 x.C6.Frame,.int .u32 x.C6.F1,.bool x.C6.C8,.int .u32 x.C6.C2,.bool x.C6.B8,.int .u32 x.C6.F4,.int .u32 x.A6.C9,.int .u32 x.A6.C5,.int .u64 x.A4,.bool x.A9,.bool x.B0]
def au.cells(x:au):List D:=au.fg x (.sl 1 (.ints .u32 x.Mem) false)
def au.rl(cs:List D)(s0:List Int):au:=(⟨(⟨(⟨(cs.getD 0 .dead).toInt,(cs.getD 1 .dead).toInt,(cs.getD 2 .dead).toInt,(cs.getD 3 .dead).toInt,(cs.getD 4 .dead).toInt,(cs.getD 5 .dead).toInt,(cs.getD 6 .dead).toInt,(cs.getD 7 .dead).toInt,(cs.getD 8 .dead).toInt,(cs.getD 9 .dead).toInt,(cs.getD 10 .dead).toInt,(cs.getD 11 .dead).toInt,(cs.getD 12 .dead).toInt,(cs.getD 13 .dead).toInt,(cs.getD 14 .dead).toInt,(cs.getD 15 .dead).toInt⟩:(iV Int)),(cs.getD 16 .dead).toInt,(⟨(cs.getD 17 .dead).toInt,(cs.getD 18 .dead).toInt,(cs.getD 19 .dead).toInt,(cs.getD 20 .dead).toInt,(cs.getD 21 .dead).toInt,(cs.getD 22 .dead).toInt,(cs.getD 23 .dead).toInt,(cs.getD 24 .dead).toInt⟩:(A8 Int))⟩:bj),s0,(⟨(cs.getD 26 .dead).toStr⟩:iW),(⟨(cs.getD 27 .dead).toBool,(cs.getD 28 .dead).toInt,(cs.getD 29 .dead).toBool⟩:iX),(⟨(cs.getD 30 .dead).toInt,(cs.getD 31 .dead).toInt,(cs.getD 32 .dead).toInt,(cs.getD 33 .dead).toInt,(cs.getD 34 .dead).toInt,(cs.getD 35 .dead).toInt,(cs.getD 36 .dead).toInt,(cs.getD 37 .dead).toStr⟩:fp),(⟨(cs.getD 38 .dead).toInt,(cs.getD 39 .dead).toInt,(cs.getD 40 .dead).toBool,(cs.getD 41 .dead).toInt,(cs.getD 42 .dead).toBool,(cs.getD 43 .dead).toInt⟩:ia),(⟨(cs.getD 44 .dead).toInt,(cs.getD 45 .dead).toInt⟩:gv),(cs.getD 46 .dead).toInt,(cs.getD 47 .dead).toBool,(cs.getD 48 .dead).toBool⟩:au)
def au.of(cs:List D):au:=au.rl cs (nK .u32 (cs.getD 25 .dead))
def wu.fg(x:wu)(s0 s1:D):List D:=[.int .u32 x.A0.B4.X.a0,.int .u32 x.A0.B4.X.a1,.int .u32 x.A0.B4.X.a2,.int .u32 x.A0.B4.X.a3,.int .u32 x.A0.B4.X.a4,.int .u32 x.A0.B4.X.a5,.int .u32 x.A0.B4.X.a6,.int .u32 x.A0.B4.X.a7,.int .u32 x.A0.B4.X.a8,.int .u32 x.A0.B4.X.a9,.int .u32 x.A0.B4.X.kz,.int .u32 x.A0.B4.X.kA,.int .u32 x.A0.B4.X.a12,.int .u32 x.A0.B4.X.kB,.int .u32 x.A0.B4.X.kC,.int .u32 x.A0.B4.X.kD,.int .u32 x.A0.B4.Pc,.int .u32 x.A0.B4.B7.a0,.int .u32 x.A0.B4.B7.a1,.int .u32 x.A0.B4.B7.a2,.int .u32 x.A0.B4.B7.a3,.int .u32 x.A0.B4.B7.a4,.int .u32 x.A0.B4.B7.a5,.int .u32 x.A0.B4.B7.a6,.int .u32 x.A0.B4.B7.a7,s0,.str x.A0.A7.D5,.bool x.A0.B2.D7,.int .u32 x.A0.B2.C7,.bool x.A0.B2.D6,.int .u32 x.A0.B1.ag,.int .u32 x.A0.B1.C4,.int .u32 x.A0.B1.Frame,.int .i64 x.A0.B1.C0,.int .i64 x.A0.B1.D8,.int .u32 x.A0.B1.B9,.int .u32 x.A0.B1.B5,.str x.A0.B1.C1,.int .u32 x.A0.C6.Frame,.int .u32 x.A0.C6.F1,.bool x.A0.C6.C8,.int .u32 x.A0.C6.C2,.bool x.A0.C6.B8,.int .u32 x.A0.C6.F4,.int .u32 x.A0.A6.C9,.int .u32 x.A0.A6.C5,.int .u64 x.A0.A4,.bool x.A0.A9,.bool x.A0.B0,s1,.int .i64 x.WH,.int .i64 x.Iz]
def wu.cells(x:wu):List D:=wu.fg x (.sl 1 (.ints .u32 x.A0.Mem) false) (.sl 1 (.bu x.ES) false)
def wu.rl(cs:List D)(s0:List Int)(s1:List Bool):wu:=(⟨(⟨(⟨(⟨(cs.getD 0 .dead).toInt,(cs.getD 1 .dead).toInt,(cs.getD 2 .dead).toInt,(cs.getD 3 .dead).toInt,(cs.getD 4 .dead).toInt,(cs.getD 5 .dead).toInt,(cs.getD 6 .dead).toInt,(cs.getD 7 .dead).toInt,(cs.getD 8 .dead).toInt,(cs.getD 9 .dead).toInt,(cs.getD 10 .dead).toInt,(cs.getD 11 .dead).toInt,(cs.getD 12 .dead).toInt,(cs.getD 13 .dead).toInt,(cs.getD 14 .dead).toInt,(cs.getD 15 .dead).toInt⟩:(iV Int)),(cs.getD 16 .dead).toInt,(⟨(cs.getD 17 .dead).toInt,(cs.getD 18 .dead).toInt,(cs.getD 19 .dead).toInt,(cs.getD 20 .dead).toInt,(cs.getD 21 .dead).toInt,(cs.getD 22 .dead).toInt,(cs.getD 23 .dead).toInt,(cs.getD 24 .dead).toInt⟩:(A8 Int))⟩:bj),s0,(⟨(cs.getD 26 .dead).toStr⟩:iW),(⟨(cs.getD 27 .dead).toBool,(cs.getD 28 .dead).toInt,(cs.getD 29 .dead).toBool⟩:iX),(⟨(cs.getD 30 .dead).toInt,(cs.getD 31 .dead).toInt,(cs.getD 32 .dead).toInt,(cs.getD 33 .dead).toInt,(cs.getD 34 .dead).toInt,(cs.getD 35 .dead).toInt,(cs.getD 36 .dead).toInt,(cs.getD 37 .dead).toStr⟩:fp),(⟨(cs.getD 38 .dead).toInt,(cs.getD 39 .dead).toInt,(cs.getD 40 .dead).toBool,(cs.getD 41 .dead).toInt,(cs.getD 42 .dead).toBool,(cs.getD 43 .dead).toInt⟩:ia),(⟨(cs.getD 44 .dead).toInt,(cs.getD 45 .dead).toInt⟩:gv),(cs.getD 46 .dead).toInt,(cs.getD 47 .dead).toBool,(cs.getD 48 .dead).toBool⟩:au),s1,(cs.getD 50 .dead).toInt,(cs.getD 51 .dead).toInt⟩:wu)
def wu.of(cs:List D):wu:=wu.rl cs (nK .u32 (cs.getD 25 .dead)) (Nx (cs.getD 49 .dead))
def KL.cells(x:KL):List D:=[.int .i64 x.Frame,.str x.D2]
def KL.of(cs:List D):KL:=(⟨(cs.getD 0 .dead).toInt,(cs.getD 1 .dead).toStr⟩:KL)
def gx.cells(x:gx):List D:=[.int .i64 x.C3,.int .u32 x.N,.str x.D2]
def gx.of(cs:List D):gx:=(⟨(cs.getD 0 .dead).toInt,(cs.getD 1 .dead).toInt,(cs.getD 2 .dead).toStr⟩:gx)
def jR.cells(x:jR):List D:=[.bool x.Good,.int .i64 x.F0,.int .u64 x.At]
def jR.of(cs:List D):jR:=(⟨(cs.getD 0 .dead).toBool,(cs.getD 1 .dead).toInt,(cs.getD 2 .dead).toInt⟩:jR)
def fv.cells(x:fv):List D:=[.int .u64 x.At,.int .u64 x.D3]
def fv.of(cs:List D):fv:=(⟨(cs.getD 0 .dead).toInt,(cs.getD 1 .dead).toInt⟩:fv)
def ej.cells(x:ej):List D:=[.int .u64 x.At,.int .i64 x.D1.C3,.int .u32 x.D1.N,.str x.D1.D2]
def ej.of(cs:List D):ej:=(⟨(cs.getD 0 .dead).toInt,(⟨(cs.getD 1 .dead).toInt,(cs.getD 2 .dead).toInt,(cs.getD 3 .dead).toStr⟩:gx)⟩:ej)
def tH.cells(x:tH):List D:=[.int .i64 x.Aq,.int .i64 x.nI]
def tH.of(cs:List D):tH:=(⟨(cs.getD 0 .dead).toInt,(cs.getD 1 .dead).toInt⟩:tH)
def kN.cells(x:kN):List D:=[.int .i64 x.C3,.int .i64 x.D4,.int .i64 x.F3,.int .u32 x.Value]
def kN.of(cs:List D):kN:=(⟨(cs.getD 0 .dead).toInt,(cs.getD 1 .dead).toInt,(cs.getD 2 .dead).toInt,(cs.getD 3 .dead).toInt⟩:kN)
def dw.cells(x:dw):List D:=[.int .i64 x.C3,.int .u64 x.At,.int .u32 x.C4,.str x.D2]
def dw.of(cs:List D):dw:=(⟨(cs.getD 0 .dead).toInt,(cs.getD 1 .dead).toInt,(cs.getD 2 .dead).toInt,(cs.getD 3 .dead).toStr⟩:dw)
def cy.fg(x:cy)(s0 s1 s2:D):List D:=[.int .u32 x.A0.B4.X.a0,.int .u32 x.A0.B4.X.a1,.int .u32 x.A0.B4.X.a2,.int .u32 x.A0.B4.X.a3,.int .u32 x.A0.B4.X.a4,.int .u32 x.A0.B4.X.a5,.int .u32 x.A0.B4.X.a6,.int .u32 x.A0.B4.X.a7,.int .u32 x.A0.B4.X.a8,.int .u32 x.A0.B4.X.a9,.int .u32 x.A0.B4.X.kz,.int .u32 x.A0.B4.X.kA,.int .u32 x.A0.B4.X.a12,.int .u32 x.A0.B4.X.kB,.int .u32 x.A0.B4.X.kC,.int .u32 x.A0.B4.X.kD,.int .u32 x.A0.B4.Pc,.int .u32 x.A0.B4.B7.a0,.int .u32 x.A0.B4.B7.a1,.int .u32 x.A0.B4.B7.a2,.int .u32 x.A0.B4.B7.a3,.int .u32 x.A0.B4.B7.a4,.int .u32 x.A0.B4.B7.a5,.int .u32 x.A0.B4.B7.a6,.int .u32 x.A0.B4.B7.a7,s0,.str x.A0.A7.D5,.bool x.A0.B2.D7,.int .u32 x.A0.B2.C7,.bool x.A0.B2.D6,.int .u32 x.A0.B1.ag,.int .u32 x.A0.B1.C4,.int .u32 x.A0.B1.Frame,.int .i64 x.A0.B1.C0,.int .i64 x.A0.B1.D8,.int .u32 x.A0.B1.B9,.int .u32 x.A0.B1.B5,.str x.A0.B1.C1,.int .u32 x.A0.C6.Frame,.int .u32 x.A0.C6.F1,.bool x.A0.C6.C8,.int .u32 x.A0.C6.C2,.bool x.A0.C6.B8,.int .u32 x.A0.C6.F4,.int .u32 x.A0.A6.C9,.int .u32 x.A0.A6.C5,.int .u64 x.A0.A4,.bool x.A0.A9,.bool x.A0.B0,.int .u32 x.B6,s1,s2]
def cy.cells(x:cy):List D:=cy.fg x (.sl 1 (.ints .u32 x.A0.Mem) false) (.sl 4 (.av .ab x.D0) false) (.sl 3 (.av .bd x.B3) false)
def cy.rl(cs:List D)(s0:List Int)(s1:List ej)(s2:List gx):cy:=(⟨(⟨(⟨(⟨(cs.getD 0 .dead).toInt,(cs.getD 1 .dead).toInt,(cs.getD 2 .dead).toInt,(cs.getD 3 .dead).toInt,(cs.getD 4 .dead).toInt,(cs.getD 5 .dead).toInt,(cs.getD 6 .dead).toInt,(cs.getD 7 .dead).toInt,(cs.getD 8 .dead).toInt,(cs.getD 9 .dead).toInt,(cs.getD 10 .dead).toInt,(cs.getD 11 .dead).toInt,(cs.getD 12 .dead).toInt,(cs.getD 13 .dead).toInt,(cs.getD 14 .dead).toInt,(cs.getD 15 .dead).toInt⟩:(iV Int)),(cs.getD 16 .dead).toInt,(⟨(cs.getD 17 .dead).toInt,(cs.getD 18 .dead).toInt,(cs.getD 19 .dead).toInt,(cs.getD 20 .dead).toInt,(cs.getD 21 .dead).toInt,(cs.getD 22 .dead).toInt,(cs.getD 23 .dead).toInt,(cs.getD 24 .dead).toInt⟩:(A8 Int))⟩:bj),s0,(⟨(cs.getD 26 .dead).toStr⟩:iW),(⟨(cs.getD 27 .dead).toBool,(cs.getD 28 .dead).toInt,(cs.getD 29 .dead).toBool⟩:iX),(⟨(cs.getD 30 .dead).toInt,(cs.getD 31 .dead).toInt,(cs.getD 32 .dead).toInt,(cs.getD 33 .dead).toInt,(cs.getD 34 .dead).toInt,(cs.getD 35 .dead).toInt,(cs.getD 36 .dead).toInt,(cs.getD 37 .dead).toStr⟩:fp),(⟨(cs.getD 38 .dead).toInt,(cs.getD 39 .dead).toInt,(cs.getD 40 .dead).toBool,(cs.getD 41 .dead).toInt,(cs.getD 42 .dead).toBool,(cs.getD 43 .dead).toInt⟩:ia),(⟨(cs.getD 44 .dead).toInt,(cs.getD 45 .dead).toInt⟩:gv),(cs.getD 46 .dead).toInt,(cs.getD 47 .dead).toBool,(cs.getD 48 .dead).toBool⟩:au),(cs.getD 49 .dead).toInt,s1,s2⟩:cy)
def cy.of(cs:List D):cy:=cy.rl cs (nK .u32 (cs.getD 25 .dead)) (tI .ab (cs.getD 50 .dead)) (tI .bd (cs.getD 51 .dead))
def nJ.cells(x:nJ):List D:=[.int .i64 x.kK,.int .i64 x.num,.str x.label]
def nJ.of(cs:List D):nJ:=(⟨(cs.getD 0 .dead).toInt,(cs.getD 1 .dead).toInt,(cs.getD 2 .dead).toStr⟩:nJ)
def kE.fg(x:kE)(s0:D):List D:=[.str x.eg,.int .i64 x.op,s0,.int .i64 x.E0,.int .i64 x.at_,.int .i64 x.size]
def kE.cells(x:kE):List D:=kE.fg x (.sl 3 (.av .bb x.l) false)
def kE.rl(cs:List D)(s0:List nJ):kE:=(⟨(cs.getD 0 .dead).toStr,(cs.getD 1 .dead).toInt,s0,(cs.getD 3 .dead).toInt,(cs.getD 4 .dead).toInt,(cs.getD 5 .dead).toInt⟩:kE)
def kE.of(cs:List D):kE:=kE.rl cs (tI .bb (cs.getD 2 .dead))
def gu.cells(x:gu):List D:=[.int .i64 x.Op,.int .i64 x.A,.int .i64 x.B,.int .i64 x.C,.int .i32 x.bq]
def gu.of(cs:List D):gu:=(⟨(cs.getD 0 .dead).toInt,(cs.getD 1 .dead).toInt,(cs.getD 2 .dead).toInt,(cs.getD 3 .dead).toInt,(cs.getD 4 .dead).toInt⟩:gu)
def om.cells(x:om):List D:=[.str x.Name,.int .u32 x.Addr]
def om.of(cs:List D):om:=(⟨(cs.getD 0 .dead).toStr,(cs.getD 1 .dead).toInt⟩:om)
def rS.cells(x:rS):List D:=[.int .u32 x.Addr,.int .u32 x.F6,.int .i64 x.F5]
def rS.of(cs:List D):rS:=(⟨(cs.getD 0 .dead).toInt,(cs.getD 1 .dead).toInt,(cs.getD 2 .dead).toInt⟩:rS)
def Ar.cells(x:Ar):List D:=[.bool x.a,.bool x.b,.bool x.c,.int .i32 x.low,.int .i32 x.D9]
def Ar.of(cs:List D):Ar:=(⟨(cs.getD 0 .dead).toBool,(cs.getD 1 .dead).toBool,(cs.getD 2 .dead).toBool,(cs.getD 3 .dead).toInt,(cs.getD 4 .dead).toInt⟩:Ar)
def lI.cells(x:lI):List D:=[.int .i64 x.kind,.str x.text,.bool x.Au]
def lI.of(cs:List D):lI:=(⟨(cs.getD 0 .dead).toInt,(cs.getD 1 .dead).toStr,(cs.getD 2 .dead).toBool⟩:lI)
def RK.size:RK->Nat
 |.ba=>4
 |.ab=>4
 |.ae=>2
 |.bd=>3
 |.dm=>2
 |.ai=>6
 |.bb=>3
 |.str=>1
 |.ax=>3
def DQ:CT->D->D
 |.int k,d=>.int k d.toInt
 |.bool,d=>.bool d.toBool
 |.str,d=>.str d.toStr
 |.ints k,d=>.sl 1 (.ints k (nK k d)) false
 |.bu,d=>.sl 1 (.bu (Nx d)) false
 |.av k,d=>.sl k.size (.av k (tI k d)) false
 |.row i,_=>.all i
 |.nil,_=>.sl 0 (.gen []) false
 |.IB,_=>.dx
 |.self i,_=>.c9 i
 |.pt i o f,_=>.ptr i o f
 |.gn f cs,_=>.gn f cs
def wv:List CT->List D->Nat->List D
 |[],_,_=>[]
 |t::ts,cs,j=>DQ t (cs.getD j .dead)::wv ts cs (j+1)
def bj.sig:List CT:=[.int .u32,.int .u32,.int .u32,.int .u32,.int .u32,.int .u32,.int .u32,.int .u32,.int .u32,.int .u32,.int .u32,.int .u32,.int .u32,.int .u32,.int .u32,.int .u32,.int .u32,.int .u32,.int .u32,.int .u32,.int .u32,.int .u32,.int .u32,.int .u32,.int .u32]
def iW.sig:List CT:=[.str]
def iX.sig:List CT:=[.bool,.int .u32,.bool]
def fp.sig:List CT:=[.int .u32,.int .u32,.int .u32,.int .i64,.int .i64,.int .u32,.int .u32,.str]
def ia.sig:List CT:=[.int .u32,.int .u32,.bool,.int .u32,.bool,.int .u32]
def gv.sig:List CT:=[.int .u32,.int .u32]
def au.kS(s0:CT):List CT:=[.int .u32,.int .u32,.int .u32,.int .u32,.int .u32,.int .u32,.int .u32,.int .u32,.int .u32,.int .u32,.int .u32,.int .u32,.int .u32,.int .u32,.int .u32,.int .u32,.int .u32,.int .u32,.int .u32,.int .u32,.int .u32,.int .u32,.int .u32,.int .u32,.int .u32,s0,.str,.bool,.int .u32,.bool,.int .u32,.int .u32,.int .u32,.int .i64,.int .i64,.int .u32,.int .u32,.str,.int .u32,.int .u32,.bool,.int .u32,.bool,.int .u32,.int .u32,.int .u32,.int .u64,.bool,.bool]
def au.sig:List CT:=au.kS (.ints .u32)
def wu.kS(s0 s1:CT):List CT:=[.int .u32,.int .u32,.int .u32,.int .u32,.int .u32,.int .u32,.int .u32,.int .u32,.int .u32,.int .u32,.int .u32,.int .u32,.int .u32,.int .u32,.int .u32,.int .u32,.int .u32,.int .u32,.int .u32,.int .u32,.int .u32,.int .u32,.int .u32,.int .u32,.int .u32,s0,.str,.bool,.int .u32,.bool,.int .u32,.int .u32,.int .u32,.int .i64,.int .i64,.int .u32,.int .u32,.str,.int .u32,.int .u32,.bool,.int .u32,.bool,.int .u32,.int .u32,.int .u32,.int .u64,.bool,.bool,s1,.int .i64,.int .i64]
def wu.sig:List CT:=wu.kS (.ints .u32) (.bu)
def KL.sig:List CT:=[.int .i64,.str]
def gx.sig:List CT:=[.int .i64,.int .u32,.str]
def jR.sig:List CT:=[.bool,.int .i64,.int .u64]
def fv.sig:List CT:=[.int .u64,.int .u64]
def ej.sig:List CT:=[.int .u64,.int .i64,.int .u32,.str]
def tH.sig:List CT:=[.int .i64,.int .i64]
def kN.sig:List CT:=[.int .i64,.int .i64,.int .i64,.int .u32]
def dw.sig:List CT:=[.int .i64,.int .u64,.int .u32,.str]
def cy.kS(s0 s1 s2:CT):List CT:=[.int .u32,.int .u32,.int .u32,.int .u32,.int .u32,.int .u32,.int .u32,.int .u32,.int .u32,.int .u32,.int .u32,.int .u32,.int .u32,.int .u32,.int .u32,.int .u32,.int .u32,.int .u32,.int .u32,.int .u32,.int .u32,.int .u32,.int .u32,.int .u32,.int .u32,s0,.str,.bool,.int .u32,.bool,.int .u32,.int .u32,.int .u32,.int .i64,.int .i64,.int .u32,.int .u32,.str,.int .u32,.int .u32,.bool,.int .u32,.bool,.int .u32,.int .u32,.int .u32,.int .u64,.bool,.bool,.int .u32,s1,s2]
def cy.sig:List CT:=cy.kS (.ints .u32) (.av .ab) (.av .bd)
def nJ.sig:List CT:=[.int .i64,.int .i64,.str]
def kE.kS(s0:CT):List CT:=[.str,.int .i64,s0,.int .i64,.int .i64,.int .i64]
def kE.sig:List CT:=kE.kS (.av .bb)
def gu.sig:List CT:=[.int .i64,.int .i64,.int .i64,.int .i64,.int .i32]
def om.sig:List CT:=[.str,.int .u32]
def rS.sig:List CT:=[.int .u32,.int .u32,.int .i64]
def Ar.sig:List CT:=[.bool,.bool,.bool,.int .i32,.int .i32]
def lI.sig:List CT:=[.int .i64,.str,.bool]
def RK.sig:RK->List CT
 |.ba=>dw.sig
 |.ab=>ej.sig
 |.ae=>fv.sig
 |.bd=>gx.sig
 |.dm=>om.sig
 |.ai=>kE.sig
 |.bb=>nJ.sig
 |.str=>[.str]
 |.ax=>lI.sig
def RK.cells:(k:RK)->RK.T k->List D
 |.ba,x=>dw.cells x
 |.ab,x=>ej.cells x
 |.ae,x=>fv.cells x
 |.bd,x=>gx.cells x
 |.dm,x=>om.cells x
 |.ai,x=>kE.cells x
 |.bb,x=>nJ.cells x
 |.str,x=>[.str x]
 |.ax,x=>lI.cells x
def RK.of:(k:RK)->List D->RK.T k
 |.ba,cs=>dw.of cs
 |.ab,cs=>ej.of cs
 |.ae,cs=>fv.of cs
 |.bd,cs=>gx.of cs
 |.dm,cs=>om.of cs
 |.ai,cs=>kE.of cs
 |.bb,cs=>nJ.of cs
 |.str,cs=>(cs.getD 0 .dead).toStr
 |.ax,cs=>lI.of cs
theorem RK.BS(k:RK)(cs:List D):k.cells (k.of cs)=wv k.sig cs 0:=by cases k<;>kernel_rfl
theorem RK.oq(k:RK)(x:RK.T k):wv k.sig (k.cells x) 0=k.cells x:=by cases k<;>kernel_rfl
theorem RK.uc(k:RK):k.sig.length=k.size:=by cases k<;>rfl
