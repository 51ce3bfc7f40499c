import Derived.WalkKit
import Derived.KernelRfl
set_option linter.all false
namespace Go.GD
theorem oY{p:Prop}[Decidable p](h:decide p=true):p:=of_decide_eq_true h
theorem oN{p:Prop}[Decidable p](h:decide p=false):¬p:=of_decide_eq_false h
theorem dY{p:Prop}[Decidable p](h:p):decide p=true:=decide_eq_true h
theorem dN{p:Prop}[Decidable p](h:¬p):decide p=false:=decide_eq_false h
theorem bE{n m:Nat}(h:Nat.beq n m=true):n=m:=Nat.eq_of_beq_eq_true h
theorem lE{n m:Nat}(h:Nat.ble n m=true):n<=m:=Nat.le_of_ble_eq_true h
theorem aE(a b:Bool):((a&&b)=true)=(a=true/\b=true):=Bool.and_eq_true a b
theorem lA{α:Type}{a b:List α}:(a++b).length=a.length+b.length:=List.length_append
structure A5(α:Type) where
 (a0 a1 a2 a3 a4:α)
 deriving DecidableEq,Inhabited
def A5.l{α:Type}(x:A5 α):List α:=[x.a0,x.a1,x.a2,x.a3,x.a4]
def A5.of{α:Type}(z:α)(l:List α):A5 α:=⟨l.getD 0 z,l.getD 1 z,l.getD 2 z,l.getD 3 z,l.getD 4 z⟩
structure A8(α:Type) where
 (a0 a1 a2 a3 a4 a5 a6 a7:α)
 deriving DecidableEq,Inhabited
def A8.l{α:Type}(x:A8 α):List α:=[x.a0,x.a1,x.a2,x.a3,x.a4,x.a5,x.a6,x.a7]
def A8.of{α:Type}(z:α)(l:List α):A8 α:=⟨l.getD 0 z,l.getD 1 z,l.getD 2 z,l.getD 3 z,l.getD 4 z,l.getD 5 z,l.getD 6 z,l.getD 7 z⟩
structure fu(α:Type) where
 (a0 a1 a2 a3 a4 a5 a6 a7 a8 a9 kP kQ a12 kR kS kT:α)
 deriving DecidableEq,Inhabited
def fu.l{α:Type}(x:fu α):List α:=[x.a0,x.a1,x.a2,x.a3,x.a4,x.a5,x.a6,x.a7,x.a8,x.a9,x.kP,x.kQ,x.a12,x.kR,x.kS,x.kT]
def fu.of{α:Type}(z:α)(l:List α):fu α:=⟨l.getD 0 z,l.getD 1 z,l.getD 2 z,l.getD 3 z,l.getD 4 z,l.getD 5 z,l.getD 6 z,l.getD 7 z,l.getD 8 z,l.getD 9 z,l.getD 10 z,l.getD 11 z,l.getD 12 z,l.getD 13 z,l.getD 14 z,l.getD 15 z⟩
structure Sz(α:Type) where
 (a0 a1 a2 a3 a4 a5 a6 a7 a8 a9 kP kQ a12 kR kS kT Nl Nn No Np:α)
 deriving DecidableEq,Inhabited
def Sz.l{α:Type}(x:Sz α):List α:=[x.a0,x.a1,x.a2,x.a3,x.a4,x.a5,x.a6,x.a7,x.a8,x.a9,x.kP,x.kQ,x.a12,x.kR,x.kS,x.kT,x.Nl,x.Nn,x.No,x.Np]
def Sz.of{α:Type}(z:α)(l:List α):Sz α:=⟨l.getD 0 z,l.getD 1 z,l.getD 2 z,l.getD 3 z,l.getD 4 z,l.getD 5 z,l.getD 6 z,l.getD 7 z,l.getD 8 z,l.getD 9 z,l.getD 10 z,l.getD 11 z,l.getD 12 z,l.getD 13 z,l.getD 14 z,l.getD 15 z,l.getD 16 z,l.getD 17 z,l.getD 18 z,l.getD 19 z⟩
structure SA(α:Type) where
 (a0 a1 a2 a3 a4 a5 a6 a7 a8 a9 kP kQ a12 kR kS kT Nl Nn No Np a20 a21 a22 Wg:α)
 deriving DecidableEq,Inhabited
def SA.l{α:Type}(x:SA α):List α:=[x.a0,x.a1,x.a2,x.a3,x.a4,x.a5,x.a6,x.a7,x.a8,x.a9,x.kP,x.kQ,x.a12,x.kR,x.kS,x.kT,x.Nl,x.Nn,x.No,x.Np,x.a20,x.a21,x.a22,x.Wg]
def SA.of{α:Type}(z:α)(l:List α):SA α:=⟨l.getD 0 z,l.getD 1 z,l.getD 2 z,l.getD 3 z,l.getD 4 z,l.getD 5 z,l.getD 6 z,l.getD 7 z,l.getD 8 z,l.getD 9 z,l.getD 10 z,l.getD 11 z,l.getD 12 z,l.getD 13 z,l.getD 14 z,l.getD 15 z,l.getD 16 z,l.getD 17 z,l.getD 18 z,l.getD 19 z,l.getD 20 z,l.getD 21 z,l.getD 22 z,l.getD 23 z⟩
structure SB(α:Type) where
 (a0 a1 a2 a3 a4 a5 a6 a7 a8 a9 kP kQ a12 kR kS kT Nl Nn No Np a20 a21 a22 Wg a24 a25 a26 a27 a28 a29 a30 a31:α)
 deriving DecidableEq,Inhabited
def SB.l{α:Type}(x:SB α):List α:=[x.a0,x.a1,x.a2,x.a3,x.a4,x.a5,x.a6,x.a7,x.a8,x.a9,x.kP,x.kQ,x.a12,x.kR,x.kS,x.kT,x.Nl,x.Nn,x.No,x.Np,x.a20,x.a21,x.a22,x.Wg,x.a24,x.a25,x.a26,x.a27,x.a28,x.a29,x.a30,x.a31]
def SB.of{α:Type}(z:α)(l:List α):SB α:=⟨l.getD 0 z,l.getD 1 z,l.getD 2 z,l.getD 3 z,l.getD 4 z,l.getD 5 z,l.getD 6 z,l.getD 7 z,l.getD 8 z,l.getD 9 z,l.getD 10 z,l.getD 11 z,l.getD 12 z,l.getD 13 z,l.getD 14 z,l.getD 15 z,l.getD 16 z,l.getD 17 z,l.getD 18 z,l.getD 19 z,l.getD 20 z,l.getD 21 z,l.getD 22 z,l.getD 23 z,l.getD 24 z,l.getD 25 z,l.getD 26 z,l.getD 27 z,l.getD 28 z,l.getD 29 z,l.getD 30 z,l.getD 31 z⟩
structure bg where
 X:(fu Int)
 Pc:Int
 B1:(A8 Int)
 deriving DecidableEq,Inhabited
structure je where
 C6:(List UInt8)
 deriving DecidableEq,Inhabited
structure jk where
 D0:Bool
 B8:Int
 C9:Bool
 deriving DecidableEq,Inhabited
structure fm where
 ag:Int
 B9:Int
 Frame:Int
 B6:Int
 D1:Int
 B4:Int
 B0:Int
 B5:(List UInt8)
 deriving DecidableEq,Inhabited
structure ij where
 Frame:Int
 D6:Int
 C2:Bool
 B7:Int
 B3:Bool
 D8:Int
 deriving DecidableEq,Inhabited
structure gr where
 C4:Int
 C0:Int
 deriving DecidableEq,Inhabited
structure ao where
 A7:bg
 Mem:(List Int)
 A2:je
 A9:jk
 A4:fm
 C1:ij
 A1:gr
 A0:Int
 A3:Bool
 A6:Bool
 deriving DecidableEq,Inhabited
structure wy where
 B2:ao
 ES:(List Bool)
 Wh:Int
 Iq:Int
 deriving DecidableEq,Inhabited
structure KA where
 Frame:Int
 D2:(List UInt8)
 deriving DecidableEq,Inhabited
structure j9 where
 C3:Int
 N:Int
 D2:(List UInt8)
 deriving DecidableEq,Inhabited
structure jH where
 Good:Bool
 D4:Int
 At:Int
 deriving DecidableEq,Inhabited
structure fe where
 At:Int
 C8:Int
 deriving DecidableEq,Inhabited
structure dr where
 At:Int
 C5:j9
 deriving DecidableEq,Inhabited
structure tE where
 Ap:Int
 nC:Int
 deriving DecidableEq,Inhabited
structure kY where
 C3:Int
 C7:Int
 D7:Int
 Value:Int
 deriving DecidableEq,Inhabited
structure fc where
 C3:Int
 At:Int
 B9:Int
 D2:(List UInt8)
 deriving DecidableEq,Inhabited
structure pP where
 B2:ao
 BQ:Int
 Log:(List dr)
 Queue:(List j9)
 deriving DecidableEq,Inhabited
structure nD where
 kJ:Int
 num:Int
 label:(List UInt8)
 deriving DecidableEq,Inhabited
structure kC where
 ea:(List UInt8)
 op:Int
 l:(List nD)
 D5:Int
 at_:Int
 size:Int
 deriving DecidableEq,Inhabited
structure gm where
 Op:Int
 A:Int
 B:Int
 C:Int
 bo:Int
 deriving DecidableEq,Inhabited
structure Q2 where
 Name:(List UInt8)
 Addr:Int
 deriving DecidableEq,Inhabited
structure rS where
 Addr:Int
 E0:Int
 D9:Int
 deriving DecidableEq,Inhabited
structure Aq where
 a:Bool
 b:Bool
 c:Bool
 low:Int
 D3:Int
 deriving DecidableEq,Inhabited
structure lI where
 kind:Int
 text:(List UInt8)
 Ar:Bool
 deriving DecidableEq,Inhabited
inductive RK where
 |bd|ae|aa|iP|df|aj|ay|str|ax
 deriving DecidableEq
@[reducible] def RK.T:RK->Type
 |.bd=>fc
 |.ae=>dr
 |.aa=>fe
 |.iP=>j9
 |.df=>Q2
 |.aj=>kC
 |.ay=>nD
 |.str=>(List UInt8)
 |.ax=>lI
def RK.cg:(k:RK)->RK.T k
 |.bd=>(default:fc)
 |.ae=>(default:dr)
 |.aa=>(default:fe)
 |.iP=>(default:j9)
 |.df=>(default:Q2)
 |.aj=>(default:kC)
 |.ay=>(default:nD)
 |.str=>(default:List UInt8)
 |.ax=>(default:lI)
def RK.Nq:Nat->Option RK
 |137=>some .bd
 |103=>some .ae
 |100=>some .aa
 |72=>some .iP
 |238=>some .df
 |175=>some .aj
 |177=>some .ay
 |9=>some .str
 |303=>some .ax
 |_=>none
end Go.GD
namespace Go.GD
open Go
instance (k:RK):Inhabited (RK.T k):=⟨RK.cg k⟩
mutual
inductive D where
 |bool (b:Bool)
 |int (k:IntKind) (n:Int)
 |str (s:List UInt8)
 |sl (sz:Nat) (es:ai) (fr:Bool)
 |all (r:Nat)
 |own (r o n:Nat)
 |ptr (r i off:Nat)
 |pa (r i off len:Nat) (k:Option IntKind) (n:Nat)
 |iw (sz:Nat) (es:ai) (i off:Nat)
 |iQ
 |du
 |emp
 |rk (es:ai)
 |dead
 |gj (f:Nat) (cs:List iz)
 |c8 (r:Nat)
 |jQ
 |agg (cs:List D)
 |dt (ds:List D)
inductive ai where
 |gen (es:List (List D))
 |ints (k:IntKind) (l:List Int)
 |bz (l:List Bool)
 |ba (k:RK) (l:List (RK.T k))
inductive iz where
 |ptr (r i off:Nat)
 |int (k:IntKind) (n:Int)
 |arr (r:Nat)
 |sl (sz:Nat) (es:ai) (fr:Bool)
 |fn (f:Nat) (ps:List (Nat×Nat×Nat))
end
instance:Inhabited D:=⟨.dead⟩
instance:Inhabited ai:=⟨.gen []⟩
def Ir(p:Nat×Nat×Nat):iz:=.ptr p.1 p.2.1 p.2.2
def iz.d:iz->D|.ptr r i off=>.ptr r i off|.int k n=>.int k n|.arr r=>.all r|.sl a b c=>.sl a b c|.fn f ps=>.gj f (ps.map Ir)
def D.isInt(k:IntKind):D->Bool|.int j _=>decide (j=k)|_=>false
def D.toInt:D->Int|.int _ n=>n|_=>0
def D.isBool:D->Bool|.bool _=>true|_=>false
def D.toBool:D->Bool|.bool b=>b|_=>false
def D.isStr:D->Bool|.str _=>true|_=>false
def D.toStr:D->List UInt8|.str s=>s|_=>[]
def Gh(k k':RK)(l:List (RK.T k)):Option (List (RK.T k')):=if h:k=k' then some (h▸l)else none
theorem Z9o(k:RK)(l:List (RK.T k)):Gh k k l=some l:=by simp[Gh]
theorem Wi{k k':RK}{l:List (RK.T k)}{m:List (RK.T k')}(h:Gh k k' l=some m):∃e:k=k',e▸l=m:=by
 unfold Gh at h
 split at h
 ·rename_i e;cases h;exact⟨e,rfl⟩
 ·cases h
def ai.toI(k:IntKind):ai->Option (List Int)
 |.ints k' l=>match decide (k'=k)with|true=>some l|false=>none
 |.gen []=>some []
 |_=>none
def ai.toB:ai->Option (List Bool)
 |.bz l=>some l
 |.gen []=>some []
 |_=>none
def ai.toR(k:RK):ai->Option (List (RK.T k))
 |.ba k' l=>Gh k' k l
 |.gen []=>some []
 |_=>none
inductive CT where|int(k:IntKind)|bool|str|ints(k:IntKind)|bz|ba(k:RK)|row(i:Nat)|nil|Is|self(i:Nat)|pt(i o f:Nat)|gj(f:Nat)(cs:List iz)
def nE(k:IntKind):D->List Int|.sl _ E _=>(match E.toI k with|some l=>l|none=>[])|_=>[]
def SC:D->List Bool|.sl _ E _=>(match E.toB with|some l=>l|none=>[])|_=>[]
def rT(k:RK):D->List (RK.T k)|.sl _ E _=>(match E.toR k with|some l=>l|none=>[])|_=>[]
def bg.cells(x:bg):List D:=[.int .u32 x.X.a0,.int .u32 x.X.a1,.int .u32 x.X.a2,.int .u32 x.X.a3,.int .u32 x.X.a4,.int .u32 x.X.a5,.int .u32 x.X.a6,.int .u32 x.X.a7,.int .u32 x.X.a8,.int .u32 x.X.a9,.int .u32 x.X.kP,.int .u32 x.X.kQ,.int .u32 x.X.a12,.int .u32 x.X.kR,.int .u32 x.X.kS,.int .u32 x.X.kT,.int .u32 x.Pc,.int .u32 x.B1.a0,.int .u32 x.B1.a1,.int .u32 x.B1.a2,.int .u32 x.B1.a3,.int .u32 x.B1.a4,.int .u32 x.B1.a5,.int .u32 x.B1.a6,.int .u32 x.B1.a7]
def bg.of(cs:List D):bg:=(⟨(⟨(cs.getD 0 .dead).toInt,(cs.getD 1 .dead).toInt,(cs.getD 2 .dead).toInt,(cs.getD 3 .dead).toInt,(cs.getD 4 .dead).toInt,(cs.getD 5 .dead).toInt,(cs.getD 6 .dead).toInt,(cs.getD 7 .dead).toInt,(cs.getD 8 .dead).toInt,(cs.getD 9 .dead).toInt,(cs.getD 10 .dead).toInt,(cs.getD 11 .dead).toInt,(cs.getD 12 .dead).toInt,(cs.getD 13 .dead).toInt,(cs.getD 14 .dead).toInt,(cs.getD 15 .dead).toInt⟩:(fu Int)),(cs.getD 16 .dead).toInt,(⟨(cs.getD 17 .dead).toInt,(cs.getD 18 .dead).toInt,(cs.getD 19 .dead).toInt,(cs.getD 20 .dead).toInt,(cs.getD 21 .dead).toInt,(cs.getD 22 .dead).toInt,(cs.getD 23 .dead).toInt,(cs.getD 24 .dead).toInt⟩:(A8 Int))⟩:bg)
def je.cells(x:je):List D:=[.str x.C6]
def je.of(cs:List D):je:=(⟨(cs.getD 0 .dead).toStr⟩:je)
def jk.cells(x:jk):List D:=[.bool x.D0,.int .u32 x.B8,.bool x.C9]
def jk.of(cs:List D):jk:=(⟨(cs.getD 0 .dead).toBool,(cs.getD 1 .dead).toInt,(cs.getD 2 .dead).toBool⟩:jk)
def fm.cells(x:fm):List D:=[.int .u32 x.ag,.int .u32 x.B9,.int .u32 x.Frame,.int .i64 x.B6,.int .i64 x.D1,.int .u32 x.B4,.int .u32 x.B0,.str x.B5]
def fm.of(cs:List D):fm:=(⟨(cs.getD 0 .dead).toInt,(cs.getD 1 .dead).toInt,(cs.getD 2 .dead).toInt,(cs.getD 3 .dead).toInt,(cs.getD 4 .dead).toInt,(cs.getD 5 .dead).toInt,(cs.getD 6 .dead).toInt,(cs.getD 7 .dead).toStr⟩:fm)
def ij.cells(x:ij):List D:=[.int .u32 x.Frame,.int .u32 x.D6,.bool x.C2,.int .u32 x.B7,.bool x.B3,.int .u32 x.D8]
def ij.of(cs:List D):ij:=(⟨(cs.getD 0 .dead).toInt,(cs.getD 1 .dead).toInt,(cs.getD 2 .dead).toBool,(cs.getD 3 .dead).toInt,(cs.getD 4 .dead).toBool,(cs.getD 5 .dead).toInt⟩:ij)
def gr.cells(x:gr):List D:=[.int .u32 x.C4,.int .u32 x.C0]
def gr.of(cs:List D):gr:=(⟨(cs.getD 0 .dead).toInt,(cs.getD 1 .dead).toInt⟩:gr)
def ao.ia(x:ao)(s0:D):List D:=[.int .u32 x.A7.X.a0,.int .u32 x.A7.X.a1,.int .u32 x.A7.X.a2,.int .u32 x.A7.X.a3,.int .u32 x.A7.X.a4,.int .u32 x.A7.X.a5,.int .u32 x.A7.X.a6,.int .u32 x.A7.X.a7,.int .u32 x.A7.X.a8,.int .u32 x.A7.X.a9,.int .u32 x.A7.X.kP,.int .u32 x.A7.X.kQ,.int .u32 x.A7.X.a12,.int .u32 x.A7.X.kR,.int .u32 x.A7.X.kS,.int .u32 x.A7.X.kT,.int .u32 x.A7.Pc,.int .u32 x.A7.B1.a0,.int .u32 x.A7.B1.a1,.int .u32 x.A7.B1.a2,.int .u32 x.A7.B1.a3,.int .u32 x.A7.B1.a4,.int .u32 x.A7.B1.a5,.int .u32 x.A7.B1.a6,.int .u32 x.A7.B1.a7,s0,.str x.A2.C6,.bool x.A9.D0,.int .u32 x.A9.B8,.bool x.A9.C9,.int .u32 x.A4.ag,.int .u32 x.A4.B9,.int .u32 x.A4.Frame,.int .i64 x.A4.B6,.int .i64 x.A4.D1,.int .u32 x.A4.B4,.int .u32 x.A4.B0,.str x.A4.B5,.int .u32 x.C1.Frame,.int .u32 x.C1.D6,.bool x.C1.C2,.int .u32 x.C1.B7,.bool x.C1.B3,.int .u32 x.C1.D8,.int .u32 x.A1.C4,.int .u32 x.A1.C0,.int .u64 x.A0,.bool x.A3,.bool x.A6]
def ao.cells(x:ao):List D:=ao.ia x (.sl 1 (.ints .u32 x.Mem) false)
def ao.BR(cs:List D)(s0:List Int):ao:=(⟨(⟨(⟨(cs.getD 0 .dead).toInt,(cs.getD 1 .dead).toInt,(cs.getD 2 .dead).toInt,(cs.getD 3 .dead).toInt,(cs.getD 4 .dead).toInt,(cs.getD 5 .dead).toInt,(cs.getD 6 .dead).toInt,(cs.getD 7 .dead).toInt,(cs.getD 8 .dead).toInt,(cs.getD 9 .dead).toInt,(cs.getD 10 .dead).toInt,(cs.getD 11 .dead).toInt,(cs.getD 12 .dead).toInt,(cs.getD 13 .dead).toInt,(cs.getD 14 .dead).toInt,(cs.getD 15 .dead).toInt⟩:(fu Int)),(cs.getD 16 .dead).toInt,(⟨(cs.getD 17 .dead).toInt,(cs.getD 18 .dead).toInt,(cs.getD 19 .dead).toInt,(cs.getD 20 .dead).toInt,(cs.getD 21 .dead).toInt,(cs.getD 22 .dead).toInt,(cs.getD 23 .dead).toInt,(cs.getD 24 .dead).toInt⟩:(A8 Int))⟩:bg),s0,(⟨(cs.getD 26 .dead).toStr⟩:je),(⟨(cs.getD 27 .dead).toBool,(cs.getD 28 .dead).toInt,(cs.getD 29 .dead).toBool⟩:jk),(⟨(cs.getD 30 .dead).toInt,(cs.getD 31 .dead).toInt,(cs.getD 32 .dead).toInt,(cs.getD 33 .dead).toInt,(cs.getD 34 .dead).toInt,(cs.getD 35 .dead).toInt,(cs.getD 36 .dead).toInt,(cs.getD 37 .dead).toStr⟩:fm),(⟨(cs.getD 38 .dead).toInt,(cs.getD 39 .dead).toInt,(cs.getD 40 .dead).toBool,(cs.getD 41 .dead).toInt,(cs.getD 42 .dead).toBool,(cs.getD 43 .dead).toInt⟩:ij),(⟨(cs.getD 44 .dead).toInt,(cs.getD 45 .dead).toInt⟩:gr),(cs.getD 46 .dead).toInt,(cs.getD 47 .dead).toBool,(cs.getD 48 .dead).toBool⟩:ao)
def ao.of(cs:List D):ao:=ao.BR cs (nE .u32 (cs.getD 25 .dead))
def wy.ia(x:wy)(s0 s1:D):List D:=[.int .u32 x.B2.A7.X.a0,.int .u32 x.B2.A7.X.a1,.int .u32 x.B2.A7.X.a2,.int .u32 x.B2.A7.X.a3,.int .u32 x.B2.A7.X.a4,.int .u32 x.B2.A7.X.a5,.int .u32 x.B2.A7.X.a6,.int .u32 x.B2.A7.X.a7,.int .u32 x.B2.A7.X.a8,.int .u32 x.B2.A7.X.a9,.int .u32 x.B2.A7.X.kP,.int .u32 x.B2.A7.X.kQ,.int .u32 x.B2.A7.X.a12,.int .u32 x.B2.A7.X.kR,.int .u32 x.B2.A7.X.kS,.int .u32 x.B2.A7.X.kT,.int .u32 x.B2.A7.Pc,.int .u32 x.B2.A7.B1.a0,.int .u32 x.B2.A7.B1.a1,.int .u32 x.B2.A7.B1.a2,.int .u32 x.B2.A7.B1.a3,.int .u32 x.B2.A7.B1.a4,.int .u32 x.B2.A7.B1.a5,.int .u32 x.B2.A7.B1.a6,.int .u32 x.B2.A7.B1.a7,s0,.str x.B2.A2.C6,.bool x.B2.A9.D0,.int .u32 x.B2.A9.B8,.bool x.B2.A9.C9,.int .u32 x.B2.A4.ag,.int .u32 x.B2.A4.B9,.int .u32 x.B2.A4.Frame,.int .i64 x.B2.A4.B6,.int .i64 x.B2.A4.D1,.int .u32 x.B2.A4.B4,.int .u32 x.B2.A4.B0,.str x.B2.A4.B5,.int .u32 x.B2.C1.Frame,.int .u32 x.B2.C1.D6,.bool x.B2.C1.C2,.int .u32 x.B2.C1.B7,.bool x.B2.C1.B3,.int .u32 x.B2.C1.D8,.int .u32 x.B2.A1.C4,.int .u32 x.B2.A1.C0,.int .u64 x.B2.A0,.bool x.B2.A3,.bool x.B2.A6,s1,.int .i64 x.Wh,.int .i64 x.Iq]
def wy.cells(x:wy):List D:=wy.ia x (.sl 1 (.ints .u32 x.B2.Mem) false) (.sl 1 (.bz x.ES) false)
def wy.BR(cs:List D)(s0:List Int)(s1:List Bool):wy:=(⟨(⟨(⟨(⟨(cs.getD 0 .dead).toInt,(cs.getD 1 .dead).toInt,(cs.getD 2 .dead).toInt,(cs.getD 3 .dead).toInt,(cs.getD 4 .dead).toInt,(cs.getD 5 .dead).toInt,(cs.getD 6 .dead).toInt,(cs.getD 7 .dead).toInt,(cs.getD 8 .dead).toInt,(cs.getD 9 .dead).toInt,(cs.getD 10 .dead).toInt,(cs.getD 11 .dead).toInt,(cs.getD 12 .dead).toInt,(cs.getD 13 .dead).toInt,(cs.getD 14 .dead).toInt,(cs.getD 15 .dead).toInt⟩:(fu Int)),(cs.getD 16 .dead).toInt,(⟨(cs.getD 17 .dead).toInt,(cs.getD 18 .dead).toInt,(cs.getD 19 .dead).toInt,(cs.getD 20 .dead).toInt,(cs.getD 21 .dead).toInt,(cs.getD 22 .dead).toInt,(cs.getD 23 .dead).toInt,(cs.getD 24 .dead).toInt⟩:(A8 Int))⟩:bg),s0,(⟨(cs.getD 26 .dead).toStr⟩:je),(⟨(cs.getD 27 .dead).toBool,(cs.getD 28 .dead).toInt,(cs.getD 29 .dead).toBool⟩:jk),(⟨(cs.getD 30 .dead).toInt,(cs.getD 31 .dead).toInt,(cs.getD 32 .dead).toInt,(cs.getD 33 .dead).toInt,(cs.getD 34 .dead).toInt,(cs.getD 35 .dead).toInt,(cs.getD 36 .dead).toInt,(cs.getD 37 .dead).toStr⟩:fm),(⟨(cs.getD 38 .dead).toInt,(cs.getD 39 .dead).toInt,(cs.getD 40 .dead).toBool,(cs.getD 41 .dead).toInt,(cs.getD 42 .dead).toBool,(cs.getD 43 .dead).toInt⟩:ij),(⟨(cs.getD 44 .dead).toInt,(cs.getD 45 .dead).toInt⟩:gr),(cs.getD 46 .dead).toInt,(cs.getD 47 .dead).toBool,(cs.getD 48 .dead).toBool⟩:ao),s1,(cs.getD 50 .dead).toInt,(cs.getD 51 .dead).toInt⟩:wy)
def wy.of(cs:List D):wy:=wy.BR cs (nE .u32 (cs.getD 25 .dead)) (SC (cs.getD 49 .dead))
def KA.cells(x:KA):List D:=[.int .i64 x.Frame,.str x.D2]
def KA.of(cs:List D):KA:=(⟨(cs.getD 0 .dead).toInt,(cs.getD 1 .dead).toStr⟩:KA)
def j9.cells(x:j9):List D:=[.int .i64 x.C3,.int .u32 x.N,.str x.D2]
def j9.of(cs:List D):j9:=(⟨(cs.getD 0 .dead).toInt,(cs.getD 1 .dead).toInt,(cs.getD 2 .dead).toStr⟩:j9)
def jH.cells(x:jH):List D:=[.bool x.Good,.int .i64 x.D4,.int .u64 x.At]
def jH.of(cs:List D):jH:=(⟨(cs.getD 0 .dead).toBool,(cs.getD 1 .dead).toInt,(cs.getD 2 .dead).toInt⟩:jH)
def fe.cells(x:fe):List D:=[.int .u64 x.At,.int .u64 x.C8]
def fe.of(cs:List D):fe:=(⟨(cs.getD 0 .dead).toInt,(cs.getD 1 .dead).toInt⟩:fe)
def dr.cells(x:dr):List D:=[.int .u64 x.At,.int .i64 x.C5.C3,.int .u32 x.C5.N,.str x.C5.D2]
def dr.of(cs:List D):dr:=(⟨(cs.getD 0 .dead).toInt,(⟨(cs.getD 1 .dead).toInt,(cs.getD 2 .dead).toInt,(cs.getD 3 .dead).toStr⟩:j9)⟩:dr)
def tE.cells(x:tE):List D:=[.int .i64 x.Ap,.int .i64 x.nC]
def tE.of(cs:List D):tE:=(⟨(cs.getD 0 .dead).toInt,(cs.getD 1 .dead).toInt⟩:tE)
def kY.cells(x:kY):List D:=[.int .i64 x.C3,.int .i64 x.C7,.int .i64 x.D7,.int .u32 x.Value]
def kY.of(cs:List D):kY:=(⟨(cs.getD 0 .dead).toInt,(cs.getD 1 .dead).toInt,(cs.getD 2 .dead).toInt,(cs.getD 3 .dead).toInt⟩:kY)
def fc.cells(x:fc):List D:=[.int .i64 x.C3,.int .u64 x.At,.int .u32 x.B9,.str x.D2]
def fc.of(cs:List D):fc:=(⟨(cs.getD 0 .dead).toInt,(cs.getD 1 .dead).toInt,(cs.getD 2 .dead).toInt,(cs.getD 3 .dead).toStr⟩:fc)
def pP.ia(x:pP)(s0 s1 s2:D):List D:=[.int .u32 x.B2.A7.X.a0,.int .u32 x.B2.A7.X.a1,.int .u32 x.B2.A7.X.a2,.int .u32 x.B2.A7.X.a3,.int .u32 x.B2.A7.X.a4,.int .u32 x.B2.A7.X.a5,.int .u32 x.B2.A7.X.a6,.int .u32 x.B2.A7.X.a7,.int .u32 x.B2.A7.X.a8,.int .u32 x.B2.A7.X.a9,.int .u32 x.B2.A7.X.kP,.int .u32 x.B2.A7.X.kQ,.int .u32 x.B2.A7.X.a12,.int .u32 x.B2.A7.X.kR,.int .u32 x.B2.A7.X.kS,.int .u32 x.B2.A7.X.kT,.int .u32 x.B2.A7.Pc,.int .u32 x.B2.A7.B1.a0,.int .u32 x.B2.A7.B1.a1,.int .u32 x.B2.A7.B1.a2,.int .u32 x.B2.A7.B1.a3,.int .u32 x.B2.A7.B1.a4,.int .u32 x.B2.A7.B1.a5,.int .u32 x.B2.A7.B1.a6,.int .u32 x.B2.A7.B1.a7,s0,.str x.B2.A2.C6,.bool x.B2.A9.D0,.int .u32 x.B2.A9.B8,.bool x.B2.A9.C9,.int .u32 x.B2.A4.ag,.int .u32 x.B2.A4.B9,.int .u32 x.B2.A4.Frame,.int .i64 x.B2.A4.B6,.int .i64 x.B2.A4.D1,.int .u32 x.B2.A4.B4,.int .u32 x.B2.A4.B0,.str x.B2.A4.B5,.int .u32 x.B2.C1.Frame,.int .u32 x.B2.C1.D6,.bool x.B2.C1.C2,.int .u32 x.B2.C1.B7,.bool x.B2.C1.B3,.int .u32 x.B2.C1.D8,.int .u32 x.B2.A1.C4,.int .u32 x.B2.A1.C0,.int .u64 x.B2.A0,.bool x.B2.A3,.bool x.B2.A6,.int .u32 x.BQ,s1,s2]
def pP.cells(x:pP):List D:=pP.ia x (.sl 1 (.ints .u32 x.B2.Mem) false) (.sl 4 (.ba .ae x.Log) false) (.sl 3 (.ba .iP x.Queue) false)
def pP.BR(cs:List D)(s0:List Int)(s1:List dr)(s2:List j9):pP:=(⟨(⟨(⟨(⟨(cs.getD 0 .dead).toInt,(cs.getD 1 .dead).toInt,(cs.getD 2 .dead).toInt,(cs.getD 3 .dead).toInt,(cs.getD 4 .dead).toInt,(cs.getD 5 .dead).toInt,(cs.getD 6 .dead).toInt,(cs.getD 7 .dead).toInt,(cs.getD 8 .dead).toInt,(cs.getD 9 .dead).toInt,(cs.getD 10 .dead).toInt,(cs.getD 11 .dead).toInt,(cs.getD 12 .dead).toInt,(cs.getD 13 .dead).toInt,(cs.getD 14 .dead).toInt,(cs.getD 15 .dead).toInt⟩:(fu Int)),(cs.getD 16 .dead).toInt,(⟨(cs.getD 17 .dead).toInt,(cs.getD 18 .dead).toInt,(cs.getD 19 .dead).toInt,(cs.getD 20 .dead).toInt,(cs.getD 21 .dead).toInt,(cs.getD 22 .dead).toInt,(cs.getD 23 .dead).toInt,(cs.getD 24 .dead).toInt⟩:(A8 Int))⟩:bg),s0,(⟨(cs.getD 26 .dead).toStr⟩:je),(⟨(cs.getD 27 .dead).toBool,(cs.getD 28 .dead).toInt,(cs.getD 29 .dead).toBool⟩:jk),(⟨(cs.getD 30 .dead).toInt,(cs.getD 31 .dead).toInt,(cs.getD 32 .dead).toInt,(cs.getD 33 .dead).toInt,(cs.getD 34 .dead).toInt,(cs.getD 35 .dead).toInt,(cs.getD 36 .dead).toInt,(cs.getD 37 .dead).toStr⟩:fm),(⟨(cs.getD 38 .dead).toInt,(cs.getD 39 .dead).toInt,(cs.getD 40 .dead).toBool,(cs.getD 41 .dead).toInt,(cs.getD 42 .dead).toBool,(cs.getD 43 .dead).toInt⟩:ij),(⟨(cs.getD 44 .dead).toInt,(cs.getD 45 .dead).toInt⟩:gr),(cs.getD 46 .dead).toInt,(cs.getD 47 .dead).toBool,(cs.getD 48 .dead).toBool⟩:ao),(cs.getD 49 .dead).toInt,s1,s2⟩:pP)
def pP.of(cs:List D):pP:=pP.BR cs (nE .u32 (cs.getD 25 .dead)) (rT .ae (cs.getD 50 .dead)) (rT .iP (cs.getD 51 .dead))
def nD.cells(x:nD):List D:=[.int .i64 x.kJ,.int .i64 x.num,.str x.label]
def nD.of(cs:List D):nD:=(⟨(cs.getD 0 .dead).toInt,(cs.getD 1 .dead).toInt,(cs.getD 2 .dead).toStr⟩:nD)
def kC.ia(x:kC)(s0:D):List D:=[.str x.ea,.int .i64 x.op,s0,.int .i64 x.D5,.int .i64 x.at_,.int .i64 x.size]
def kC.cells(x:kC):List D:=kC.ia x (.sl 3 (.ba .ay x.l) false)
def kC.BR(cs:List D)(s0:List nD):kC:=(⟨(cs.getD 0 .dead).toStr,(cs.getD 1 .dead).toInt,s0,(cs.getD 3 .dead).toInt,(cs.getD 4 .dead).toInt,(cs.getD 5 .dead).toInt⟩:kC)
def kC.of(cs:List D):kC:=kC.BR cs (rT .ay (cs.getD 2 .dead))
def gm.cells(x:gm):List D:=[.int .i64 x.Op,.int .i64 x.A,.int .i64 x.B,.int .i64 x.C,.int .i32 x.bo]
def gm.of(cs:List D):gm:=(⟨(cs.getD 0 .dead).toInt,(cs.getD 1 .dead).toInt,(cs.getD 2 .dead).toInt,(cs.getD 3 .dead).toInt,(cs.getD 4 .dead).toInt⟩:gm)
def Q2.cells(x:Q2):List D:=[.str x.Name,.int .u32 x.Addr]
def Q2.of(cs:List D):Q2:=(⟨(cs.getD 0 .dead).toStr,(cs.getD 1 .dead).toInt⟩:Q2)
def rS.cells(x:rS):List D:=[.int .u32 x.Addr,.int .u32 x.E0,.int .i64 x.D9]
def rS.of(cs:List D):rS:=(⟨(cs.getD 0 .dead).toInt,(cs.getD 1 .dead).toInt,(cs.getD 2 .dead).toInt⟩:rS)
def Aq.cells(x:Aq):List D:=[.bool x.a,.bool x.b,.bool x.c,.int .i32 x.low,.int .i32 x.D3]
def Aq.of(cs:List D):Aq:=(⟨(cs.getD 0 .dead).toBool,(cs.getD 1 .dead).toBool,(cs.getD 2 .dead).toBool,(cs.getD 3 .dead).toInt,(cs.getD 4 .dead).toInt⟩:Aq)
def lI.cells(x:lI):List D:=[.int .i64 x.kind,.str x.text,.bool x.Ar]
def lI.of(cs:List D):lI:=(⟨(cs.getD 0 .dead).toInt,(cs.getD 1 .dead).toStr,(cs.getD 2 .dead).toBool⟩:lI)
def RK.size:RK->Nat
 |.bd=>4
 |.ae=>4
 |.aa=>2
 |.iP=>3
 |.df=>2
 |.aj=>6
 |.ay=>3
 |.str=>1
 |.ax=>3
def DU:CT->D->D
 |.int k,d=>.int k d.toInt
 |.bool,d=>.bool d.toBool
 |.str,d=>.str d.toStr
 |.ints k,d=>.sl 1 (.ints k (nE k d)) false
 |.bz,d=>.sl 1 (.bz (SC d)) false
 |.ba k,d=>.sl k.size (.ba k (rT k d)) false
 |.row i,_=>.all i
 |.nil,_=>.sl 0 (.gen []) false
 |.Is,_=>.du
 |.self i,_=>.c8 i
 |.pt i o f,_=>.ptr i o f
 |.gj f cs,_=>.gj f cs
def wz:List CT->List D->Nat->List D
 |[],_,_=>[]
 |t::ts,cs,j=>DU t (cs.getD j .dead)::wz ts cs (j+1)
def bg.sig:List CT:=[.int .u32,.int .u32,.int .u32,.int .u32,.int .u32,.int .u32,.int .u32,.int .u32,.int .u32,.int .u32,.int .u32,.int .u32,.int .u32,.int .u32,.int .u32,.int .u32,.int .u32,.int .u32,.int .u32,.int .u32,.int .u32,.int .u32,.int .u32,.int .u32,.int .u32]
def je.sig:List CT:=[.str]
def jk.sig:List CT:=[.bool,.int .u32,.bool]
def fm.sig:List CT:=[.int .u32,.int .u32,.int .u32,.int .i64,.int .i64,.int .u32,.int .u32,.str]
def ij.sig:List CT:=[.int .u32,.int .u32,.bool,.int .u32,.bool,.int .u32]
def gr.sig:List CT:=[.int .u32,.int .u32]
def ao.oe(s0:CT):List CT:=[.int .u32,.int .u32,.int .u32,.int .u32,.int .u32,.int .u32,.int .u32,.int .u32,.int .u32,.int .u32,.int .u32,.int .u32,.int .u32,.int .u32,.int .u32,.int .u32,.int .u32,.int .u32,.int .u32,.int .u32,.int .u32,.int .u32,.int .u32,.int .u32,.int .u32,s0,.str,.bool,.int .u32,.bool,.int .u32,.int .u32,.int .u32,.int .i64,.int .i64,.int .u32,.int .u32,.str,.int .u32,.int .u32,.bool,.int .u32,.bool,.int .u32,.int .u32,.int .u32,.int .u64,.bool,.bool]
def ao.sig:List CT:=ao.oe (.ints .u32)
def wy.oe(s0 s1:CT):List CT:=[.int .u32,.int .u32,.int .u32,.int .u32,.int .u32,.int .u32,.int .u32,.int .u32,.int .u32,.int .u32,.int .u32,.int .u32,.int .u32,.int .u32,.int .u32,.int .u32,.int .u32,.int .u32,.int .u32,.int .u32,.int .u32,.int .u32,.int .u32,.int .u32,.int .u32,s0,.str,.bool,.int .u32,.bool,.int .u32,.int .u32,.int .u32,.int .i64,.int .i64,.int .u32,.int .u32,.str,.int .u32,.int .u32,.bool,.int .u32,.bool,.int .u32,.int .u32,.int .u32,.int .u64,.bool,.bool,s1,.int .i64,.int .i64]
def wy.sig:List CT:=wy.oe (.ints .u32) (.bz)
def KA.sig:List CT:=[.int .i64,.str]
def j9.sig:List CT:=[.int .i64,.int .u32,.str]
def jH.sig:List CT:=[.bool,.int .i64,.int .u64]
def fe.sig:List CT:=[.int .u64,.int .u64]
def dr.sig:List CT:=[.int .u64,.int .i64,.int .u32,.str]
def tE.sig:List CT:=[.int .i64,.int .i64]
def kY.sig:List CT:=[.int .i64,.int .i64,.int .i64,.int .u32]
def fc.sig:List CT:=[.int .i64,.int .u64,.int .u32,.str]
def pP.oe(s0 s1 s2:CT):List CT:=[.int .u32,.int .u32,.int .u32,.int .u32,.int .u32,.int .u32,.int .u32,.int .u32,.int .u32,.int .u32,.int .u32,.int .u32,.int .u32,.int .u32,.int .u32,.int .u32,.int .u32,.int .u32,.int .u32,.int .u32,.int .u32,.int .u32,.int .u32,.int .u32,.int .u32,s0,.str,.bool,.int .u32,.bool,.int .u32,.int .u32,.int .u32,.int .i64,.int .i64,.int .u32,.int .u32,.str,.int .u32,.int .u32,.bool,.int .u32,.bool,.int .u32,.int .u32,.int .u32,.int .u64,.bool,.bool,.int .u32,s1,s2]
def pP.sig:List CT:=pP.oe (.ints .u32) (.ba .ae) (.ba .iP)
def nD.sig:List CT:=[.int .i64,.int .i64,.str]
def kC.oe(s0:CT):List CT:=[.str,.int .i64,s0,.int .i64,.int .i64,.int .i64]
def kC.sig:List CT:=kC.oe (.ba .ay)
def gm.sig:List CT:=[.int .i64,.int .i64,.int .i64,.int .i64,.int .i32]
def Q2.sig:List CT:=[.str,.int .u32]
def rS.sig:List CT:=[.int .u32,.int .u32,.int .i64]
def Aq.sig:List CT:=[.bool,.bool,.bool,.int .i32,.int .i32]
def lI.sig:List CT:=[.int .i64,.str,.bool]
def RK.sig:RK->List CT
 |.bd=>fc.sig
 |.ae=>dr.sig
 |.aa=>fe.sig
 |.iP=>j9.sig
 |.df=>Q2.sig
 |.aj=>kC.sig
 |.ay=>nD.sig
 |.str=>[.str]
 |.ax=>lI.sig
def RK.cells:(k:RK)->RK.T k->List D
 |.bd,x=>fc.cells x
 |.ae,x=>dr.cells x
 |.aa,x=>fe.cells x
 |.iP,x=>j9.cells x
 |.df,x=>Q2.cells x
 |.aj,x=>kC.cells x
 |.ay,x=>nD.cells x
 |.str,x=>[.str x]
 |.ax,x=>lI.cells x
def RK.of:(k:RK)->List D->RK.T k
 |.bd,cs=>fc.of cs
 |.ae,cs=>dr.of cs
 |.aa,cs=>fe.of cs
 |.iP,cs=>j9.of cs
 |.df,cs=>Q2.of cs
 |.aj,cs=>kC.of cs
 |.ay,cs=>nD.of cs
 |.str,cs=>(cs.getD 0 .dead).toStr
 |.ax,cs=>lI.of cs
theorem RK.BS(k:RK)(cs:List D):k.cells (k.of cs)=wz k.sig cs 0:=by cases k<;>kernel_rfl
theorem RK.og(k:RK)(x:RK.T k):wz k.sig (k.cells x) 0=k.cells x:=by cases k<;>kernel_rfl
theorem RK.uc(k:RK):k.sig.length=k.size:=by cases k<;>rfl
