import Derived.WalkKit
import Derived.KernelRfl
set_option linter.all false
namespace Go.GD
variable {m n:Nat}{p:Prop}
theorem oY{p:Prop}[Decidable p](h:decide p=true):p:=of_decide_eq_true h
theorem oN[Decidable p](h:decide p=false):¬p:=of_decide_eq_false h
theorem dY[Decidable p](h:p):decide p=true:=decide_eq_true h
theorem dN[Decidable p](h:¬p):decide p=false:=decide_eq_false h
theorem bE(h:Nat.beq n m=true):n=m:=Nat.eq_of_beq_eq_true h
theorem lE(h:Nat.ble n m=true):n<=m:=Nat.le_of_ble_eq_true h
theorem aE(a b:Bool):((a&&b)=true)=(a=true/\b=true):=Bool.and_eq_true a b
theorem lA{α:Type}{a b:List α}:(a++b).length=a.length+b.length:=List.length_append
structure A5(α:Type) where
 (a0 a1 a2 a3 a4:α)
 deriving DecidableEq,Inhabited
def A5.l{α:Type}(x:A5 α):List α:=[x.a0,x.a1,x.a2,x.a3,x.a4]
def A5.of{α:Type}(z:α)(l:List α):A5 α:=⟨l.getD 0 z,l.getD 1 z,l.getD 2 z,l.getD 3 z,l.getD 4 z⟩
structure A8(α:Type) where
 (a0 a1 a2 a3 a4 a5 a6 a7:α)
 deriving DecidableEq,Inhabited
def A8.l{α:Type}(x:A8 α):List α:=[x.a0,x.a1,x.a2,x.a3,x.a4,x.a5,x.a6,x.a7]
def A8.of{α:Type}(z:α)(l:List α):A8 α:=⟨l.getD 0 z,l.getD 1 z,l.getD 2 z,l.getD 3 z,l.getD 4 z,l.getD 5 z,l.getD 6 z,l.getD 7 z⟩
structure iv(α:Type) where
 (a0 a1 a2 a3 a4 a5 a6 a7 a8 a9 kq kr a12 ku kv ky:α)
 deriving DecidableEq,Inhabited
def iv.l{α:Type}(x:iv α):List α:=[x.a0,x.a1,x.a2,x.a3,x.a4,x.a5,x.a6,x.a7,x.a8,x.a9,x.kq,x.kr,x.a12,x.ku,x.kv,x.ky]
def iv.of{α:Type}(z:α)(l:List α):iv α:=⟨l.getD 0 z,l.getD 1 z,l.getD 2 z,l.getD 3 z,l.getD 4 z,l.getD 5 z,l.getD 6 z,l.getD 7 z,l.getD 8 z,l.getD 9 z,l.getD 10 z,l.getD 11 z,l.getD 12 z,l.getD 13 z,l.getD 14 z,l.getD 15 z⟩
structure bq where
 X:(iv Int)
 Pc:Int
 C3:(A8 Int)
 deriving DecidableEq,Inhabited
structure iH where
 D9:(List UInt8)
 deriving DecidableEq,Inhabited
structure iW where
 F0:Bool
 D3:Int
 D8:Bool
 deriving DecidableEq,Inhabited
structure gg where
 ab:Int
 C9:Int
 Frame:Int
 C8:Int
 F6:Int
 C5:Int
 C6:Int
 C7:(List UInt8)
 deriving DecidableEq,Inhabited
structure ic where
 Frame:Int
 F7:Int
 D2:Bool
 D4:Int
 C4:Bool
 F8:Int
 deriving DecidableEq,Inhabited
structure gw where
 A2:Int
 D0:Int
 deriving DecidableEq,Inhabited
structure bd where
 B2:bq
 Mem:(List Int)
 B3:iH
 B8:iW
 B5:gg
 D1:ic
 A7:gw
 B7:Int
 B4:Bool
 B6:Bool
 deriving DecidableEq,Inhabited
structure gl where
 B1:(List Bool)
 C0:Int
 D6:Int
 deriving DecidableEq,Inhabited
structure ig where
 A3:Int
 A0:bd
 B0:gl
 A4:(List Int)
 B9:(List Int)
 D5:Int
 deriving DecidableEq,Inhabited
structure iN where
 ab:(List (List UInt8))
 D5:Int
 D7:Int
 deriving DecidableEq,Inhabited
structure ft where
 C2:Int
 C0:Int
 Frame:Int
 F1:(List UInt8)
 A0:bd
 A4:(List Int)
 deriving DecidableEq,Inhabited
structure du where
 A1:ig
 A2:ig
 A9:(List ft)
 C1:(List ft)
 A6:iN
 deriving DecidableEq,Inhabited
structure jY where
 C2:Int
 N:Int
 C1:Bool
 F2:Int
 deriving DecidableEq,Inhabited
structure dr where
 A1:ig
 A2:ig
 A9:(List ft)
 C1:(List ft)
 A6:iN
 deriving DecidableEq,Inhabited
structure tG where
 Ae:Int
 nL:Int
 deriving DecidableEq,Inhabited
structure lj where
 Frame:Int
 F1:(List UInt8)
 deriving DecidableEq,Inhabited
structure lG where
 C2:Int
 E0:Int
 F9:Int
 Value:Int
 deriving DecidableEq,Inhabited
structure nM where
 kJ:Int
 num:Int
 label:(List UInt8)
 deriving DecidableEq,Inhabited
structure kE where
 ey:(List UInt8)
 op:Int
 l:(List nM)
 F4:Int
 at_:Int
 size:Int
 deriving DecidableEq,Inhabited
structure ik where
 Op:Int
 A:Int
 B:Int
 C:Int
 bz:Int
 deriving DecidableEq,Inhabited
structure we where
 C2:Int
 N:Int
 F1:(List UInt8)
 deriving DecidableEq,Inhabited
structure pV where
 At:Int
 Event:we
 deriving DecidableEq,Inhabited
structure iB where
 C2:Int
 At:Int
 C9:Int
 F1:(List UInt8)
 deriving DecidableEq,Inhabited
structure ot where
 Name:(List UInt8)
 Addr:Int
 deriving DecidableEq,Inhabited
structure rR where
 Addr:Int
 G1:Int
 G0:Int
 deriving DecidableEq,Inhabited
structure ll where
 kind:Int
 F3:(List UInt8)
 Af:Bool
 deriving DecidableEq,Inhabited
structure Ag where
 a:Bool
 b:Bool
 c:Bool
 low:Int
 F5:Int
 deriving DecidableEq,Inhabited
inductive RK where
 |bw|aa|str|cf|bn|dx|ak|ax|fp|av
 deriving DecidableEq
@[reducible] def RK.T:RK->Type
 |.bw=>jY
 |.aa=>ft
 |.str=>(List UInt8)
 |.cf=>iB
 |.bn=>lj
 |.dx=>ot
 |.ak=>kE
 |.ax=>nM
 |.fp=>pV
 |.av=>ll
def RK.fc:(k:RK)->RK.T k
 |.bw=>(default:jY)
 |.aa=>(default:ft)
 |.str=>(default:List UInt8)
 |.cf=>(default:iB)
 |.bn=>(default:lj)
 |.dx=>(default:ot)
 |.ak=>(default:kE)
 |.ax=>(default:nM)
 |.fp=>(default:pV)
 |.av=>(default:ll)
def RK.Nk:Nat->Option RK
 |61=>some .bw
 |80=>some .aa
 |9=>some .str
 |232=>some .cf
 |146=>some .bn
 |243=>some .dx
 |177=>some .ak
 |179=>some .ax
 |193=>some .fp
 |290=>some .av
 |_=>none
end Go.GD
namespace Go.GD
open Go
instance (k:RK):Inhabited (RK.T k):=⟨RK.fc k⟩
mutual
inductive D where
 |bool (b:Bool)
 |int (k:IntKind) (n:Int)
 |str (s:List UInt8)
 |sl (sz:Nat) (es:ai) (fr:Bool)
 |all (r:Nat)
 |own (r o n:Nat)
 |ptr (r i off:Nat)
 |pa (r i off len:Nat) (k:Option IntKind) (n:Nat)
 |iC (sz:Nat) (es:ai) (i off:Nat)
 |iO
 |de
 |emp
 |mY (es:ai)
 |dead
 |gx (f:Nat) (cs:List iJ)
 |gr (r:Nat)
 |jN
 |agg (cs:List D)
 |ee (ds:List D)
inductive ai where
 |gen (es:List (List D))
 |ints (k:IntKind) (l:List Int)
 |ag (l:List Bool)
 |ah (k:RK) (l:List (RK.T k))
inductive iJ where
 |ptr (r i off:Nat)
 |int (k:IntKind) (n:Int)
 |arr (r:Nat)
 |sl (sz:Nat) (es:ai) (fr:Bool)
 |fn (f:Nat) (ps:List (Nat×Nat×Nat))
end
instance:Inhabited D:=⟨.dead⟩
instance:Inhabited ai:=⟨.gen []⟩
def HY(p:Nat×Nat×Nat):iJ:=.ptr p.1 p.2.1 p.2.2
def iJ.d:iJ->D|.ptr r i off=>.ptr r i off|.int k n=>.int k n|.arr r=>.all r|.sl a b c=>.sl a b c|.fn f ps=>.gx f (ps.map HY)
def D.isInt(k:IntKind):D->Bool|.int j _=>decide (j=k)|_=>false
def D.toInt:D->Int|.int _ n=>n|_=>0
def D.isBool:D->Bool|.bool _=>true|_=>false
def D.toBool:D->Bool|.bool b=>b|_=>false
def D.isStr:D->Bool|.str _=>true|_=>false
def D.toStr:D->List UInt8|.str s=>s|_=>[]
def Gf(k k':RK)(l:List (RK.T k)):Option (List (RK.T k')):=if h:k=k' then some (h▸l)else none
theorem Wq(k:RK)(l:List (RK.T k)):Gf k k l=some l:=by simp[Gf]
theorem Wr{k k':RK}{l:List (RK.T k)}{m:List (RK.T k')}(h:Gf k k' l=some m):∃e:k=k',e▸l=m:=by
 unfold Gf at h
 split at h
 ·rename_i e;cases h;exact⟨e,rfl⟩
 ·cases h
def ai.toI(k:IntKind):ai->Option (List Int)
 |.ints k' l=>match decide (k'=k)with|true=>some l|false=>none
 |.gen []=>some []
 |_=>none
def ai.toB:ai->Option (List Bool)
 |.ag l=>some l
 |.gen []=>some []
 |_=>none
def ai.toR(k:RK):ai->Option (List (RK.T k))
 |.ah k' l=>Gf k' k l
 |.gen []=>some []
 |_=>none
inductive CT where|int(k:IntKind)|bool|str|ints(k:IntKind)|ag|ah(k:RK)|row(i:Nat)|nil|HZ|self(i:Nat)|pt(i o f:Nat)|gx(f:Nat)(cs:List iJ)
def bu(k:IntKind):D->List Int|.sl _ E _=>(match E.toI k with|some l=>l|none=>[])|_=>[]
def fi:D->List Bool|.sl _ E _=>(match E.toB with|some l=>l|none=>[])|_=>[]
def iP(k:RK):D->List (RK.T k)|.sl _ E _=>(match E.toR k with|some l=>l|none=>[])|_=>[]
def bq.cells(x:bq):List D:=[.int .u32 x.X.a0,.int .u32 x.X.a1,.int .u32 x.X.a2,.int .u32 x.X.a3,.int .u32 x.X.a4,.int .u32 x.X.a5,.int .u32 x.X.a6,.int .u32 x.X.a7,.int .u32 x.X.a8,.int .u32 x.X.a9,.int .u32 x.X.kq,.int .u32 x.X.kr,.int .u32 x.X.a12,.int .u32 x.X.ku,.int .u32 x.X.kv,.int .u32 x.X.ky,.int .u32 x.Pc,.int .u32 x.C3.a0,.int .u32 x.C3.a1,.int .u32 x.C3.a2,.int .u32 x.C3.a3,.int .u32 x.C3.a4,.int .u32 x.C3.a5,.int .u32 x.C3.a6,.int .u32 x.C3.a7]
def bq.of(cs:List D):bq:=(⟨(⟨(cs.getD 0 .dead).toInt,(cs.getD 1 .dead).toInt,(cs.getD 2 .dead).toInt,(cs.getD 3 .dead).toInt,(cs.getD 4 .dead).toInt,(cs.getD 5 .dead).toInt,(cs.getD 6 .dead).toInt,(cs.getD 7 .dead).toInt,(cs.getD 8 .dead).toInt,(cs.getD 9 .dead).toInt,(cs.getD 10 .dead).toInt,(cs.getD 11 .dead).toInt,(cs.getD 12 .dead).toInt,(cs.getD 13 .dead).toInt,(cs.getD 14 .dead).toInt,(cs.getD 15 .dead).toInt⟩:(iv Int)),(cs.getD 16 .dead).toInt,(⟨(cs.getD 17 .dead).toInt,(cs.getD 18 .dead).toInt,(cs.getD 19 .dead).toInt,(cs.getD 20 .dead).toInt,(cs.getD 21 .dead).toInt,(cs.getD 22 .dead).toInt,(cs.getD 23 .dead).toInt,(cs.getD 24 .dead).toInt⟩:(A8 Int))⟩:bq)
def iH.cells(x:iH):List D:=[.str x.D9]
def iH.of(cs:List D):iH:=(⟨(cs.getD 0 .dead).toStr⟩:iH)
def iW.cells(x:iW):List D:=[.bool x.F0,.int .u32 x.D3,.bool x.D8]
def iW.of(cs:List D):iW:=(⟨(cs.getD 0 .dead).toBool,(cs.getD 1 .dead).toInt,(cs.getD 2 .dead).toBool⟩:iW)
def gg.cells(x:gg):List D:=[.int .u32 x.ab,.int .u32 x.C9,.int .u32 x.Frame,.int .i64 x.C8,.int .i64 x.F6,.int .u32 x.C5,.int .u32 x.C6,.str x.C7]
def gg.of(cs:List D):gg:=(⟨(cs.getD 0 .dead).toInt,(cs.getD 1 .dead).toInt,(cs.getD 2 .dead).toInt,(cs.getD 3 .dead).toInt,(cs.getD 4 .dead).toInt,(cs.getD 5 .dead).toInt,(cs.getD 6 .dead).toInt,(cs.getD 7 .dead).toStr⟩:gg)
def ic.cells(x:ic):List D:=[.int .u32 x.Frame,.int .u32 x.F7,.bool x.D2,.int .u32 x.D4,.bool x.C4,.int .u32 x.F8]
def ic.of(cs:List D):ic:=(⟨(cs.getD 0 .dead).toInt,(cs.getD 1 .dead).toInt,(cs.getD 2 .dead).toBool,(cs.getD 3 .dead).toInt,(cs.getD 4 .dead).toBool,(cs.getD 5 .dead).toInt⟩:ic)
def gw.cells(x:gw):List D:=[.int .u32 x.A2,.int .u32 x.D0]
def gw.of(cs:List D):gw:=(⟨(cs.getD 0 .dead).toInt,(cs.getD 1 .dead).toInt⟩:gw)
def bd.cu(x:bd)(s0:D):List D:=[.int .u32 x.B2.X.a0,.int .u32 x.B2.X.a1,.int .u32 x.B2.X.a2,.int .u32 x.B2.X.a3,.int .u32 x.B2.X.a4,.int .u32 x.B2.X.a5,.int .u32 x.B2.X.a6,.int .u32 x.B2.X.a7,.int .u32 x.B2.X.a8,.int .u32 x.B2.X.a9,.int .u32 x.B2.X.kq,.int .u32 x.B2.X.kr,.int .u32 x.B2.X.a12,.int .u32 x.B2.X.ku,.int .u32 x.B2.X.kv,.int .u32 x.B2.X.ky,.int .u32 x.B2.Pc,.int .u32 x.B2.C3.a0,.int .u32 x.B2.C3.a1,.int .u32 x.B2.C3.a2,.int .u32 x.B2.C3.a3,.int .u32 x.B2.C3.a4,.int .u32 x.B2.C3.a5,.int .u32 x.B2.C3.a6,.int .u32 x.B2.C3.a7,s0,.str x.B3.D9,.bool x.B8.F0,.int .u32 x.B8.D3,.bool x.B8.D8,.int .u32 x.B5.ab,.int .u32 x.B5.C9,.int .u32 x.B5.Frame,.int .i64 x.B5.C8,.int .i64 x.B5.F6,.int .u32 x.B5.C5,.int .u32 x.B5.C6,.str x.B5.C7,.int .u32 x.D1.Frame,.int .u32 x.D1.F7,.bool x.D1.D2,.int .u32 x.D1.D4,.bool x.D1.C4,.int .u32 x.D1.F8,.int .u32 x.A7.A2,.int .u32 x.A7.D0,.int .u64 x.B7,.bool x.B4,.bool x.B6]
def bd.cells(x:bd):List D:=bd.cu x (.sl 1 (.ints .u32 x.Mem) false)
def bd.iK(cs:List D)(s0:List Int):bd:=(⟨(⟨(⟨(cs.getD 0 .dead).toInt,(cs.getD 1 .dead).toInt,(cs.getD 2 .dead).toInt,(cs.getD 3 .dead).toInt,(cs.getD 4 .dead).toInt,(cs.getD 5 .dead).toInt,(cs.getD 6 .dead).toInt,(cs.getD 7 .dead).toInt,(cs.getD 8 .dead).toInt,(cs.getD 9 .dead).toInt,(cs.getD 10 .dead).toInt,(cs.getD 11 .dead).toInt,(cs.getD 12 .dead).toInt,(cs.getD 13 .dead).toInt,(cs.getD 14 .dead).toInt,(cs.getD 15 .dead).toInt⟩:(iv Int)),(cs.getD 16 .dead).toInt,(⟨(cs.getD 17 .dead).toInt,(cs.getD 18 .dead).toInt,(cs.getD 19 .dead).toInt,(cs.getD 20 .dead).toInt,(cs.getD 21 .dead).toInt,(cs.getD 22 .dead).toInt,(cs.getD 23 .dead).toInt,(cs.getD 24 .dead).toInt⟩:(A8 Int))⟩:bq),s0,(⟨(cs.getD 26 .dead).toStr⟩:iH),(⟨(cs.getD 27 .dead).toBool,(cs.getD 28 .dead).toInt,(cs.getD 29 .dead).toBool⟩:iW),(⟨(cs.getD 30 .dead).toInt,(cs.getD 31 .dead).toInt,(cs.getD 32 .dead).toInt,(cs.getD 33 .dead).toInt,(cs.getD 34 .dead).toInt,(cs.getD 35 .dead).toInt,(cs.getD 36 .dead).toInt,(cs.getD 37 .dead).toStr⟩:gg),(⟨(cs.getD 38 .dead).toInt,(cs.getD 39 .dead).toInt,(cs.getD 40 .dead).toBool,(cs.getD 41 .dead).toInt,(cs.getD 42 .dead).toBool,(cs.getD 43 .dead).toInt⟩:ic),(⟨(cs.getD 44 .dead).toInt,(cs.getD 45 .dead).toInt⟩:gw),(cs.getD 46 .dead).toInt,(cs.getD 47 .dead).toBool,(cs.getD 48 .dead).toBool⟩:bd)
def bd.of(cs:List D):bd:=bd.iK cs (bu .u32 (cs.getD 25 .dead))
def gl.cu(x:gl)(s0:D):List D:=[s0,.int .i64 x.C0,.int .i64 x.D6]
def gl.cells(x:gl):List D:=gl.cu x (.sl 1 (.ag x.B1) false)
def gl.iK(cs:List D)(s0:List Bool):gl:=(⟨s0,(cs.getD 1 .dead).toInt,(cs.getD 2 .dead).toInt⟩:gl)
def gl.of(cs:List D):gl:=gl.iK cs (fi (cs.getD 0 .dead))
def ig.cu(x:ig)(s0 s1 s2 s3:D):List D:=[.int .i64 x.A3,.int .u32 x.A0.B2.X.a0,.int .u32 x.A0.B2.X.a1,.int .u32 x.A0.B2.X.a2,.int .u32 x.A0.B2.X.a3,.int .u32 x.A0.B2.X.a4,.int .u32 x.A0.B2.X.a5,.int .u32 x.A0.B2.X.a6,.int .u32 x.A0.B2.X.a7,.int .u32 x.A0.B2.X.a8,.int .u32 x.A0.B2.X.a9,.int .u32 x.A0.B2.X.kq,.int .u32 x.A0.B2.X.kr,.int .u32 x.A0.B2.X.a12,.int .u32 x.A0.B2.X.ku,.int .u32 x.A0.B2.X.kv,.int .u32 x.A0.B2.X.ky,.int .u32 x.A0.B2.Pc,.int .u32 x.A0.B2.C3.a0,.int .u32 x.A0.B2.C3.a1,.int .u32 x.A0.B2.C3.a2,.int .u32 x.A0.B2.C3.a3,.int .u32 x.A0.B2.C3.a4,.int .u32 x.A0.B2.C3.a5,.int .u32 x.A0.B2.C3.a6,.int .u32 x.A0.B2.C3.a7,s0,.str x.A0.B3.D9,.bool x.A0.B8.F0,.int .u32 x.A0.B8.D3,.bool x.A0.B8.D8,.int .u32 x.A0.B5.ab,.int .u32 x.A0.B5.C9,.int .u32 x.A0.B5.Frame,.int .i64 x.A0.B5.C8,.int .i64 x.A0.B5.F6,.int .u32 x.A0.B5.C5,.int .u32 x.A0.B5.C6,.str x.A0.B5.C7,.int .u32 x.A0.D1.Frame,.int .u32 x.A0.D1.F7,.bool x.A0.D1.D2,.int .u32 x.A0.D1.D4,.bool x.A0.D1.C4,.int .u32 x.A0.D1.F8,.int .u32 x.A0.A7.A2,.int .u32 x.A0.A7.D0,.int .u64 x.A0.B7,.bool x.A0.B4,.bool x.A0.B6,s1,.int .i64 x.B0.C0,.int .i64 x.B0.D6,s2,s3,.int .u64 x.D5]
def ig.cells(x:ig):List D:=ig.cu x (.sl 1 (.ints .u32 x.A0.Mem) false) (.sl 1 (.ag x.B0.B1) false) (.sl 1 (.ints .i64 x.A4) false) (.sl 1 (.ints .i64 x.B9) false)
def ig.iK(cs:List D)(s0:List Int)(s1:List Bool)(s2 s3:List Int):ig:=(⟨(cs.getD 0 .dead).toInt,(⟨(⟨(⟨(cs.getD 1 .dead).toInt,(cs.getD 2 .dead).toInt,(cs.getD 3 .dead).toInt,(cs.getD 4 .dead).toInt,(cs.getD 5 .dead).toInt,(cs.getD 6 .dead).toInt,(cs.getD 7 .dead).toInt,(cs.getD 8 .dead).toInt,(cs.getD 9 .dead).toInt,(cs.getD 10 .dead).toInt,(cs.getD 11 .dead).toInt,(cs.getD 12 .dead).toInt,(cs.getD 13 .dead).toInt,(cs.getD 14 .dead).toInt,(cs.getD 15 .dead).toInt,(cs.getD 16 .dead).toInt⟩:(iv Int)),(cs.getD 17 .dead).toInt,(⟨(cs.getD 18 .dead).toInt,(cs.getD 19 .dead).toInt,(cs.getD 20 .dead).toInt,(cs.getD 21 .dead).toInt,(cs.getD 22 .dead).toInt,(cs.getD 23 .dead).toInt,(cs.getD 24 .dead).toInt,(cs.getD 25 .dead).toInt⟩:(A8 Int))⟩:bq),s0,(⟨(cs.getD 27 .dead).toStr⟩:iH),(⟨(cs.getD 28 .dead).toBool,(cs.getD 29 .dead).toInt,(cs.getD 30 .dead).toBool⟩:iW),(⟨(cs.getD 31 .dead).toInt,(cs.getD 32 .dead).toInt,(cs.getD 33 .dead).toInt,(cs.getD 34 .dead).toInt,(cs.getD 35 .dead).toInt,(cs.getD 36 .dead).toInt,(cs.getD 37 .dead).toInt,(cs.getD 38 .dead).toStr⟩:gg),(⟨(cs.getD 39 .dead).toInt,(cs.getD 40 .dead).toInt,(cs.getD 41 .dead).toBool,(cs.getD 42 .dead).toInt,(cs.getD 43 .dead).toBool,(cs.getD 44 .dead).toInt⟩:ic),(⟨(cs.getD 45 .dead).toInt,(cs.getD 46 .dead).toInt⟩:gw),(cs.getD 47 .dead).toInt,(cs.getD 48 .dead).toBool,(cs.getD 49 .dead).toBool⟩:bd),(⟨s1,(cs.getD 51 .dead).toInt,(cs.getD 52 .dead).toInt⟩:gl),s2,s3,(cs.getD 55 .dead).toInt⟩:ig)
def ig.of(cs:List D):ig:=ig.iK cs (bu .u32 (cs.getD 26 .dead)) (fi (cs.getD 50 .dead)) (bu .i64 (cs.getD 53 .dead)) (bu .i64 (cs.getD 54 .dead))
def iN.cu(x:iN)(s0:D):List D:=[s0,.int .u64 x.D5,.int .i64 x.D7]
def iN.cells(x:iN):List D:=iN.cu x (.sl 1 (.ah .str x.ab) false)
def iN.iK(cs:List D)(s0:List (List UInt8)):iN:=(⟨s0,(cs.getD 1 .dead).toInt,(cs.getD 2 .dead).toInt⟩:iN)
def iN.of(cs:List D):iN:=iN.iK cs (iP .str (cs.getD 0 .dead))
def ft.cu(x:ft)(s0 s1:D):List D:=[.int .i64 x.C2,.int .i64 x.C0,.int .i64 x.Frame,.str x.F1,.int .u32 x.A0.B2.X.a0,.int .u32 x.A0.B2.X.a1,.int .u32 x.A0.B2.X.a2,.int .u32 x.A0.B2.X.a3,.int .u32 x.A0.B2.X.a4,.int .u32 x.A0.B2.X.a5,.int .u32 x.A0.B2.X.a6,.int .u32 x.A0.B2.X.a7,.int .u32 x.A0.B2.X.a8,.int .u32 x.A0.B2.X.a9,.int .u32 x.A0.B2.X.kq,.int .u32 x.A0.B2.X.kr,.int .u32 x.A0.B2.X.a12,.int .u32 x.A0.B2.X.ku,.int .u32 x.A0.B2.X.kv,.int .u32 x.A0.B2.X.ky,.int .u32 x.A0.B2.Pc,.int .u32 x.A0.B2.C3.a0,.int .u32 x.A0.B2.C3.a1,.int .u32 x.A0.B2.C3.a2,.int .u32 x.A0.B2.C3.a3,.int .u32 x.A0.B2.C3.a4,.int .u32 x.A0.B2.C3.a5,.int .u32 x.A0.B2.C3.a6,.int .u32 x.A0.B2.C3.a7,s0,.str x.A0.B3.D9,.bool x.A0.B8.F0,.int .u32 x.A0.B8.D3,.bool x.A0.B8.D8,.int .u32 x.A0.B5.ab,.int .u32 x.A0.B5.C9,.int .u32 x.A0.B5.Frame,.int .i64 x.A0.B5.C8,.int .i64 x.A0.B5.F6,.int .u32 x.A0.B5.C5,.int .u32 x.A0.B5.C6,.str x.A0.B5.C7,.int .u32 x.A0.D1.Frame,.int .u32 x.A0.D1.F7,.bool x.A0.D1.D2,.int .u32 x.A0.D1.D4,.bool x.A0.D1.C4,.int .u32 x.A0.D1.F8,.int .u32 x.A0.A7.A2,.int .u32 x.A0.A7.D0,.int .u64 x.A0.B7,.bool x.A0.B4,.bool x.A0.B6,s1]
def ft.cells(x:ft):List D:=ft.cu x (.sl 1 (.ints .u32 x.A0.Mem) false) (.sl 1 (.ints .i64 x.A4) false)
def ft.iK(cs:List D)(s0 s1:List Int):ft:=(⟨(cs.getD 0 .dead).toInt,(cs.getD 1 .dead).toInt,(cs.getD 2 .dead).toInt,(cs.getD 3 .dead).toStr,(⟨(⟨(⟨(cs.getD 4 .dead).toInt,(cs.getD 5 .dead).toInt,(cs.getD 6 .dead).toInt,(cs.getD 7 .dead).toInt,(cs.getD 8 .dead).toInt,(cs.getD 9 .dead).toInt,(cs.getD 10 .dead).toInt,(cs.getD 11 .dead).toInt,(cs.getD 12 .dead).toInt,(cs.getD 13 .dead).toInt,(cs.getD 14 .dead).toInt,(cs.getD 15 .dead).toInt,(cs.getD 16 .dead).toInt,(cs.getD 17 .dead).toInt,(cs.getD 18 .dead).toInt,(cs.getD 19 .dead).toInt⟩:(iv Int)),(cs.getD 20 .dead).toInt,(⟨(cs.getD 21 .dead).toInt,(cs.getD 22 .dead).toInt,(cs.getD 23 .dead).toInt,(cs.getD 24 .dead).toInt,(cs.getD 25 .dead).toInt,(cs.getD 26 .dead).toInt,(cs.getD 27 .dead).toInt,(cs.getD 28 .dead).toInt⟩:(A8 Int))⟩:bq),s0,(⟨(cs.getD 30 .dead).toStr⟩:iH),(⟨(cs.getD 31 .dead).toBool,(cs.getD 32 .dead).toInt,(cs.getD 33 .dead).toBool⟩:iW),(⟨(cs.getD 34 .dead).toInt,(cs.getD 35 .dead).toInt,(cs.getD 36 .dead).toInt,(cs.getD 37 .dead).toInt,(cs.getD 38 .dead).toInt,(cs.getD 39 .dead).toInt,(cs.getD 40 .dead).toInt,(cs.getD 41 .dead).toStr⟩:gg),(⟨(cs.getD 42 .dead).toInt,(cs.getD 43 .dead).toInt,(cs.getD 44 .dead).toBool,(cs.getD 45 .dead).toInt,(cs.getD 46 .dead).toBool,(cs.getD 47 .dead).toInt⟩:ic),(⟨(cs.getD 48 .dead).toInt,(cs.getD 49 .dead).toInt⟩:gw),(cs.getD 50 .dead).toInt,(cs.getD 51 .dead).toBool,(cs.getD 52 .dead).toBool⟩:bd),s1⟩:ft)
def ft.of(cs:List D):ft:=ft.iK cs (bu .u32 (cs.getD 29 .dead)) (bu .i64 (cs.getD 53 .dead))
def du.cu(x:du)(s0 s1 s2 s3 s4 s5 s6 s7 s8 s9 BI:D):List D:=[.int .i64 x.A1.A3,.int .u32 x.A1.A0.B2.X.a0,.int .u32 x.A1.A0.B2.X.a1,.int .u32 x.A1.A0.B2.X.a2,.int .u32 x.A1.A0.B2.X.a3,.int .u32 x.A1.A0.B2.X.a4,.int .u32 x.A1.A0.B2.X.a5,.int .u32 x.A1.A0.B2.X.a6,.int .u32 x.A1.A0.B2.X.a7,.int .u32 x.A1.A0.B2.X.a8,.int .u32 x.A1.A0.B2.X.a9,.int .u32 x.A1.A0.B2.X.kq,.int .u32 x.A1.A0.B2.X.kr,.int .u32 x.A1.A0.B2.X.a12,.int .u32 x.A1.A0.B2.X.ku,.int .u32 x.A1.A0.B2.X.kv,.int .u32 x.A1.A0.B2.X.ky,.int .u32 x.A1.A0.B2.Pc,.int .u32 x.A1.A0.B2.C3.a0,.int .u32 x.A1.A0.B2.C3.a1,.int .u32 x.A1.A0.B2.C3.a2,.int .u32 x.A1.A0.B2.C3.a3,.int .u32 x.A1.A0.B2.C3.a4,.int .u32 x.A1.A0.B2.C3.a5,.int .u32 x.A1.A0.B2.C3.a6,.int .u32 x.A1.A0.B2.C3.a7,s0,.str x.A1.A0.B3.D9,.bool x.A1.A0.B8.F0,.int .u32 x.A1.A0.B8.D3,.bool x.A1.A0.B8.D8,.int .u32 x.A1.A0.B5.ab,.int .u32 x.A1.A0.B5.C9,.int .u32 x.A1.A0.B5.Frame,.int .i64 x.A1.A0.B5.C8,.int .i64 x.A1.A0.B5.F6,.int .u32 x.A1.A0.B5.C5,.int .u32 x.A1.A0.B5.C6,.str x.A1.A0.B5.C7,.int .u32 x.A1.A0.D1.Frame,.int .u32 x.A1.A0.D1.F7,.bool x.A1.A0.D1.D2,.int .u32 x.A1.A0.D1.D4,.bool x.A1.A0.D1.C4,.int .u32 x.A1.A0.D1.F8,.int .u32 x.A1.A0.A7.A2,.int .u32 x.A1.A0.A7.D0,.int .u64 x.A1.A0.B7,.bool x.A1.A0.B4,.bool x.A1.A0.B6,s1,.int .i64 x.A1.B0.C0,.int .i64 x.A1.B0.D6,s2,s3,.int .u64 x.A1.D5,.int .i64 x.A2.A3,.int .u32 x.A2.A0.B2.X.a0,.int .u32 x.A2.A0.B2.X.a1,.int .u32 x.A2.A0.B2.X.a2,.int .u32 x.A2.A0.B2.X.a3,.int .u32 x.A2.A0.B2.X.a4,.int .u32 x.A2.A0.B2.X.a5,.int .u32 x.A2.A0.B2.X.a6,.int .u32 x.A2.A0.B2.X.a7,.int .u32 x.A2.A0.B2.X.a8,.int .u32 x.A2.A0.B2.X.a9,.int .u32 x.A2.A0.B2.X.kq,.int .u32 x.A2.A0.B2.X.kr,.int .u32 x.A2.A0.B2.X.a12,.int .u32 x.A2.A0.B2.X.ku,.int .u32 x.A2.A0.B2.X.kv,.int .u32 x.A2.A0.B2.X.ky,.int .u32 x.A2.A0.B2.Pc,.int .u32 x.A2.A0.B2.C3.a0,.int .u32 x.A2.A0.B2.C3.a1,.int .u32 x.A2.A0.B2.C3.a2,.int .u32 x.A2.A0.B2.C3.a3,.int .u32 x.A2.A0.B2.C3.a4,.int .u32 x.A2.A0.B2.C3.a5,.int .u32 x.A2.A0.B2.C3.a6,.int .u32 x.A2.A0.B2.C3.a7,s4,.str x.A2.A0.B3.D9,.bool x.A2.A0.B8.F0,.int .u32 x.A2.A0.B8.D3,.bool x.A2.A0.B8.D8,.int .u32 x.A2.A0.B5.ab,.int .u32 x.A2.A0.B5.C9,.int .u32 x.A2.A0.B5.Frame,.int .i64 x.A2.A0.B5.C8,.int .i64 x.A2.A0.B5.F6,.int .u32 x.A2.A0.B5.C5,.int .u32 x.A2.A0.B5.C6,.str x.A2.A0.B5.C7,.int .u32 x.A2.A0.D1.Frame,.int .u32 x.A2.A0.D1.F7,.bool x.A2.A0.D1.D2,.int .u32 x.A2.A0.D1.D4,.bool x.A2.A0.D1.C4,.int .u32 x.A2.A0.D1.F8,.int .u32 x.A2.A0.A7.A2,.int .u32 x.A2.A0.A7.D0,.int .u64 x.A2.A0.B7,.bool x.A2.A0.B4,.bool x.A2.A0.B6,s5,.int .i64 x.A2.B0.C0,.int .i64 x.A2.B0.D6,s6,s7,.int .u64 x.A2.D5,s8,s9,BI,.int .u64 x.A6.D5,.int .i64 x.A6.D7]
def du.cells(x:du):List D:=du.cu x (.sl 1 (.ints .u32 x.A1.A0.Mem) false) (.sl 1 (.ag x.A1.B0.B1) false) (.sl 1 (.ints .i64 x.A1.A4) false) (.sl 1 (.ints .i64 x.A1.B9) false) (.sl 1 (.ints .u32 x.A2.A0.Mem) false) (.sl 1 (.ag x.A2.B0.B1) false) (.sl 1 (.ints .i64 x.A2.A4) false) (.sl 1 (.ints .i64 x.A2.B9) false) (.sl 54 (.ah .aa x.A9) false) (.sl 54 (.ah .aa x.C1) false) (.sl 1 (.ah .str x.A6.ab) false)
def du.iK(cs:List D)(s0:List Int)(s1:List Bool)(s2 s3 s4:List Int)(s5:List Bool)(s6 s7:List Int)(s8 s9:List ft)(BI:List (List UInt8)):du:=(⟨(⟨(cs.getD 0 .dead).toInt,(⟨(⟨(⟨(cs.getD 1 .dead).toInt,(cs.getD 2 .dead).toInt,(cs.getD 3 .dead).toInt,(cs.getD 4 .dead).toInt,(cs.getD 5 .dead).toInt,(cs.getD 6 .dead).toInt,(cs.getD 7 .dead).toInt,(cs.getD 8 .dead).toInt,(cs.getD 9 .dead).toInt,(cs.getD 10 .dead).toInt,(cs.getD 11 .dead).toInt,(cs.getD 12 .dead).toInt,(cs.getD 13 .dead).toInt,(cs.getD 14 .dead).toInt,(cs.getD 15 .dead).toInt,(cs.getD 16 .dead).toInt⟩:(iv Int)),(cs.getD 17 .dead).toInt,(⟨(cs.getD 18 .dead).toInt,(cs.getD 19 .dead).toInt,(cs.getD 20 .dead).toInt,(cs.getD 21 .dead).toInt,(cs.getD 22 .dead).toInt,(cs.getD 23 .dead).toInt,(cs.getD 24 .dead).toInt,(cs.getD 25 .dead).toInt⟩:(A8 Int))⟩:bq),s0,(⟨(cs.getD 27 .dead).toStr⟩:iH),(⟨(cs.getD 28 .dead).toBool,(cs.getD 29 .dead).toInt,(cs.getD 30 .dead).toBool⟩:iW),(⟨(cs.getD 31 .dead).toInt,(cs.getD 32 .dead).toInt,(cs.getD 33 .dead).toInt,(cs.getD 34 .dead).toInt,(cs.getD 35 .dead).toInt,(cs.getD 36 .dead).toInt,(cs.getD 37 .dead).toInt,(cs.getD 38 .dead).toStr⟩:gg),(⟨(cs.getD 39 .dead).toInt,(cs.getD 40 .dead).toInt,(cs.getD 41 .dead).toBool,(cs.getD 42 .dead).toInt,(cs.getD 43 .dead).toBool,(cs.getD 44 .dead).toInt⟩:ic),(⟨(cs.getD 45 .dead).toInt,(cs.getD 46 .dead).toInt⟩:gw),(cs.getD 47 .dead).toInt,(cs.getD 48 .dead).toBool,(cs.getD 49 .dead).toBool⟩:bd),(⟨s1,(cs.getD 51 .dead).toInt,(cs.getD 52 .dead).toInt⟩:gl),s2,s3,(cs.getD 55 .dead).toInt⟩:ig),(⟨(cs.getD 56 .dead).toInt,(⟨(⟨(⟨(cs.getD 57 .dead).toInt,(cs.getD 58 .dead).toInt,(cs.getD 59 .dead).toInt,(cs.getD 60 .dead).toInt,(cs.getD 61 .dead).toInt,(cs.getD 62 .dead).toInt,(cs.getD 63 .dead).toInt,(cs.getD 64 .dead).toInt,(cs.getD 65 .dead).toInt,(cs.getD 66 .dead).toInt,(cs.getD 67 .dead).toInt,(cs.getD 68 .dead).toInt,(cs.getD 69 .dead).toInt,(cs.getD 70 .dead).toInt,(cs.getD 71 .dead).toInt,(cs.getD 72 .dead).toInt⟩:(iv Int)),(cs.getD 73 .dead).toInt,(⟨(cs.getD 74 .dead).toInt,(cs.getD 75 .dead).toInt,(cs.getD 76 .dead).toInt,(cs.getD 77 .dead).toInt,(cs.getD 78 .dead).toInt,(cs.getD 79 .dead).toInt,(cs.getD 80 .dead).toInt,(cs.getD 81 .dead).toInt⟩:(A8 Int))⟩:bq),s4,(⟨(cs.getD 83 .dead).toStr⟩:iH),(⟨(cs.getD 84 .dead).toBool,(cs.getD 85 .dead).toInt,(cs.getD 86 .dead).toBool⟩:iW),(⟨(cs.getD 87 .dead).toInt,(cs.getD 88 .dead).toInt,(cs.getD 89 .dead).toInt,(cs.getD 90 .dead).toInt,(cs.getD 91 .dead).toInt,(cs.getD 92 .dead).toInt,(cs.getD 93 .dead).toInt,(cs.getD 94 .dead).toStr⟩:gg),(⟨(cs.getD 95 .dead).toInt,(cs.getD 96 .dead).toInt,(cs.getD 97 .dead).toBool,(cs.getD 98 .dead).toInt,(cs.getD 99 .dead).toBool,(cs.getD 100 .dead).toInt⟩:ic),(⟨(cs.getD 101 .dead).toInt,(cs.getD 102 .dead).toInt⟩:gw),(cs.getD 103 .dead).toInt,(cs.getD 104 .dead).toBool,(cs.getD 105 .dead).toBool⟩:bd),(⟨s5,(cs.getD 107 .dead).toInt,(cs.getD 108 .dead).toInt⟩:gl),s6,s7,(cs.getD 111 .dead).toInt⟩:ig),s8,s9,(⟨BI,(cs.getD 115 .dead).toInt,(cs.getD 116 .dead).toInt⟩:iN)⟩:du)
def du.of(cs:List D):du:=du.iK cs (bu .u32 (cs.getD 26 .dead)) (fi (cs.getD 50 .dead)) (bu .i64 (cs.getD 53 .dead)) (bu .i64 (cs.getD 54 .dead)) (bu .u32 (cs.getD 82 .dead)) (fi (cs.getD 106 .dead)) (bu .i64 (cs.getD 109 .dead)) (bu .i64 (cs.getD 110 .dead)) (iP .aa (cs.getD 112 .dead)) (iP .aa (cs.getD 113 .dead)) (iP .str (cs.getD 114 .dead))
def jY.cells(x:jY):List D:=[.int .i64 x.C2,.int .i64 x.N,.bool x.C1,.int .u32 x.F2]
def jY.of(cs:List D):jY:=(⟨(cs.getD 0 .dead).toInt,(cs.getD 1 .dead).toInt,(cs.getD 2 .dead).toBool,(cs.getD 3 .dead).toInt⟩:jY)
def dr.cu(x:dr)(s0 s1 s2 s3 s4 s5 s6 s7 s8 s9 BI:D):List D:=[.int .i64 x.A1.A3,.int .u32 x.A1.A0.B2.X.a0,.int .u32 x.A1.A0.B2.X.a1,.int .u32 x.A1.A0.B2.X.a2,.int .u32 x.A1.A0.B2.X.a3,.int .u32 x.A1.A0.B2.X.a4,.int .u32 x.A1.A0.B2.X.a5,.int .u32 x.A1.A0.B2.X.a6,.int .u32 x.A1.A0.B2.X.a7,.int .u32 x.A1.A0.B2.X.a8,.int .u32 x.A1.A0.B2.X.a9,.int .u32 x.A1.A0.B2.X.kq,.int .u32 x.A1.A0.B2.X.kr,.int .u32 x.A1.A0.B2.X.a12,.int .u32 x.A1.A0.B2.X.ku,.int .u32 x.A1.A0.B2.X.kv,.int .u32 x.A1.A0.B2.X.ky,.int .u32 x.A1.A0.B2.Pc,.int .u32 x.A1.A0.B2.C3.a0,.int .u32 x.A1.A0.B2.C3.a1,.int .u32 x.A1.A0.B2.C3.a2,.int .u32 x.A1.A0.B2.C3.a3,.int .u32 x.A1.A0.B2.C3.a4,.int .u32 x.A1.A0.B2.C3.a5,.int .u32 x.A1.A0.B2.C3.a6,.int .u32 x.A1.A0.B2.C3.a7,s0,.str x.A1.A0.B3.D9,.bool x.A1.A0.B8.F0,.int .u32 x.A1.A0.B8.D3,.bool x.A1.A0.B8.D8,.int .u32 x.A1.A0.B5.ab,.int .u32 x.A1.A0.B5.C9,.int .u32 x.A1.A0.B5.Frame,.int .i64 x.A1.A0.B5.C8,.int .i64 x.A1.A0.B5.F6,.int .u32 x.A1.A0.B5.C5,.int .u32 x.A1.A0.B5.C6,.str x.A1.A0.B5.C7,.int .u32 x.A1.A0.D1.Frame,.int .u32 x.A1.A0.D1.F7,.bool x.A1.A0.D1.D2,.int .u32 x.A1.A0.D1.D4,.bool x.A1.A0.D1.C4,.int .u32 x.A1.A0.D1.F8,.int .u32 x.A1.A0.A7.A2,.int .u32 x.A1.A0.A7.D0,.int .u64 x.A1.A0.B7,.bool x.A1.A0.B4,.bool x.A1.A0.B6,s1,.int .i64 x.A1.B0.C0,.int .i64 x.A1.B0.D6,s2,s3,.int .u64 x.A1.D5,.int .i64 x.A2.A3,.int .u32 x.A2.A0.B2.X.a0,.int .u32 x.A2.A0.B2.X.a1,.int .u32 x.A2.A0.B2.X.a2,.int .u32 x.A2.A0.B2.X.a3,.int .u32 x.A2.A0.B2.X.a4,.int .u32 x.A2.A0.B2.X.a5,.int .u32 x.A2.A0.B2.X.a6,.int .u32 x.A2.A0.B2.X.a7,.int .u32 x.A2.A0.B2.X.a8,.int .u32 x.A2.A0.B2.X.a9,.int .u32 x.A2.A0.B2.X.kq,.int .u32 x.A2.A0.B2.X.kr,.int .u32 x.A2.A0.B2.X.a12,.int .u32 x.A2.A0.B2.X.ku,.int .u32 x.A2.A0.B2.X.kv,.int .u32 x.A2.A0.B2.X.ky,.int .u32 x.A2.A0.B2.Pc,.int .u32 x.A2.A0.B2.C3.a0,.int .u32 x.A2.A0.B2.C3.a1,.int .u32 x.A2.A0.B2.C3.a2,.int .u32 x.A2.A0.B2.C3.a3,.int .u32 x.A2.A0.B2.C3.a4,.int .u32 x.A2.A0.B2.C3.a5,.int .u32 x.A2.A0.B2.C3.a6,.int .u32 x.A2.A0.B2.C3.a7,s4,.str x.A2.A0.B3.D9,.bool x.A2.A0.B8.F0,.int .u32 x.A2.A0.B8.D3,.bool x.A2.A0.B8.D8,.int .u32 x.A2.A0.B5.ab,.int .u32 x.A2.A0.B5.C9,.int .u32 x.A2.A0.B5.Frame,.int .i64 x.A2.A0.B5.C8,.int .i64 x.A2.A0.B5.F6,.int .u32 x.A2.A0.B5.C5,.int .u32 x.A2.A0.B5.C6,.str x.A2.A0.B5.C7,.int .u32 x.A2.A0.D1.Frame,.int .u32 x.A2.A0.D1.F7,.bool x.A2.A0.D1.D2,.int .u32 x.A2.A0.D1.D4,.bool x.A2.A0.D1.C4,.int .u32 x.A2.A0.D1.F8,.int .u32 x.A2.A0.A7.A2,.int .u32 x.A2.A0.A7.D0,.int .u64 x.A2.A0.B7,.bool x.A2.A0.B4,.bool x.A2.A0.B6,s5,.int .i64 x.A2.B0.C0,.int .i64 x.A2.B0.D6,s6,s7,.int .u64 x.A2.D5,s8,s9,BI,.int .u64 x.A6.D5,.int .i64 x.A6.D7]
def dr.cells(x:dr):List D:=dr.cu x (.sl 1 (.ints .u32 x.A1.A0.Mem) false) (.sl 1 (.ag x.A1.B0.B1) false) (.sl 1 (.ints .i64 x.A1.A4) false) (.sl 1 (.ints .i64 x.A1.B9) false) (.sl 1 (.ints .u32 x.A2.A0.Mem) false) (.sl 1 (.ag x.A2.B0.B1) false) (.sl 1 (.ints .i64 x.A2.A4) false) (.sl 1 (.ints .i64 x.A2.B9) false) (.sl 54 (.ah .aa x.A9) false) (.sl 54 (.ah .aa x.C1) false) (.sl 1 (.ah .str x.A6.ab) false)
def dr.iK(cs:List D)(s0:List Int)(s1:List Bool)(s2 s3 s4:List Int)(s5:List Bool)(s6 s7:List Int)(s8 s9:List ft)(BI:List (List UInt8)):dr:=(⟨(⟨(cs.getD 0 .dead).toInt,(⟨(⟨(⟨(cs.getD 1 .dead).toInt,(cs.getD 2 .dead).toInt,(cs.getD 3 .dead).toInt,(cs.getD 4 .dead).toInt,(cs.getD 5 .dead).toInt,(cs.getD 6 .dead).toInt,(cs.getD 7 .dead).toInt,(cs.getD 8 .dead).toInt,(cs.getD 9 .dead).toInt,(cs.getD 10 .dead).toInt,(cs.getD 11 .dead).toInt,(cs.getD 12 .dead).toInt,(cs.getD 13 .dead).toInt,(cs.getD 14 .dead).toInt,(cs.getD 15 .dead).toInt,(cs.getD 16 .dead).toInt⟩:(iv Int)),(cs.getD 17 .dead).toInt,(⟨(cs.getD 18 .dead).toInt,(cs.getD 19 .dead).toInt,(cs.getD 20 .dead).toInt,(cs.getD 21 .dead).toInt,(cs.getD 22 .dead).toInt,(cs.getD 23 .dead).toInt,(cs.getD 24 .dead).toInt,(cs.getD 25 .dead).toInt⟩:(A8 Int))⟩:bq),s0,(⟨(cs.getD 27 .dead).toStr⟩:iH),(⟨(cs.getD 28 .dead).toBool,(cs.getD 29 .dead).toInt,(cs.getD 30 .dead).toBool⟩:iW),(⟨(cs.getD 31 .dead).toInt,(cs.getD 32 .dead).toInt,(cs.getD 33 .dead).toInt,(cs.getD 34 .dead).toInt,(cs.getD 35 .dead).toInt,(cs.getD 36 .dead).toInt,(cs.getD 37 .dead).toInt,(cs.getD 38 .dead).toStr⟩:gg),(⟨(cs.getD 39 .dead).toInt,(cs.getD 40 .dead).toInt,(cs.getD 41 .dead).toBool,(cs.getD 42 .dead).toInt,(cs.getD 43 .dead).toBool,(cs.getD 44 .dead).toInt⟩:ic),(⟨(cs.getD 45 .dead).toInt,(cs.getD 46 .dead).toInt⟩:gw),(cs.getD 47 .dead).toInt,(cs.getD 48 .dead).toBool,(cs.getD 49 .dead).toBool⟩:bd),(⟨s1,(cs.getD 51 .dead).toInt,(cs.getD 52 .dead).toInt⟩:gl),s2,s3,(cs.getD 55 .dead).toInt⟩:ig),(⟨(cs.getD 56 .dead).toInt,(⟨(⟨(⟨(cs.getD 57 .dead).toInt,(cs.getD 58 .dead).toInt,(cs.getD 59 .dead).toInt,(cs.getD 60 .dead).toInt,(cs.getD 61 .dead).toInt,(cs.getD 62 .dead).toInt,(cs.getD 63 .dead).toInt,(cs.getD 64 .dead).toInt,(cs.getD 65 .dead).toInt,(cs.getD 66 .dead).toInt,(cs.getD 67 .dead).toInt,(cs.getD 68 .dead).toInt,(cs.getD 69 .dead).toInt,(cs.getD 70 .dead).toInt,(cs.getD 71 .dead).toInt,(cs.getD 72 .dead).toInt⟩:(iv Int)),(cs.getD 73 .dead).toInt,(⟨(cs.getD 74 .dead).toInt,(cs.getD 75 .dead).toInt,(cs.getD 76 .dead).toInt,(cs.getD 77 .dead).toInt,(cs.getD 78 .dead).toInt,(cs.getD 79 .dead).toInt,(cs.getD 80 .dead).toInt,(cs.getD 81 .dead).toInt⟩:(A8 Int))⟩:bq),s4,(⟨(cs.getD 83 .dead).toStr⟩:iH),(⟨(cs.getD 84 .dead).toBool,(cs.getD 85 .dead).toInt,(cs.getD 86 .dead).toBool⟩:iW),(⟨(cs.getD 87 .dead).toInt,(cs.getD 88 .dead).toInt,(cs.getD 89 .dead).toInt,(cs.getD 90 .dead).toInt,(cs.getD 91 .dead).toInt,(cs.getD 92 .dead).toInt,(cs.getD 93 .dead).toInt,(cs.getD 94 .dead).toStr⟩:gg),(⟨(cs.getD 95 .dead).toInt,(cs.getD 96 .dead).toInt,(cs.getD 97 .dead).toBool,(cs.getD 98 .dead).toInt,(cs.getD 99 .dead).toBool,(cs.getD 100 .dead).toInt⟩:ic),(⟨(cs.getD 101 .dead).toInt,(cs.getD 102 .dead).toInt⟩:gw),(cs.getD 103 .dead).toInt,(cs.getD 104 .dead).toBool,(cs.getD 105 .dead).toBool⟩:bd),(⟨s5,(cs.getD 107 .dead).toInt,(cs.getD 108 .dead).toInt⟩:gl),s6,s7,(cs.getD 111 .dead).toInt⟩:ig),s8,s9,(⟨BI,(cs.getD 115 .dead).toInt,(cs.getD 116 .dead).toInt⟩:iN)⟩:dr)
def dr.of(cs:List D):dr:=dr.iK cs (bu .u32 (cs.getD 26 .dead)) (fi (cs.getD 50 .dead)) (bu .i64 (cs.getD 53 .dead)) (bu .i64 (cs.getD 54 .dead)) (bu .u32 (cs.getD 82 .dead)) (fi (cs.getD 106 .dead)) (bu .i64 (cs.getD 109 .dead)) (bu .i64 (cs.getD 110 .dead)) (iP .aa (cs.getD 112 .dead)) (iP .aa (cs.getD 113 .dead)) (iP .str (cs.getD 114 .dead))
def tG.cells(x:tG):List D:=[.int .i64 x.Ae,.int .i64 x.nL]
def tG.of(cs:List D):tG:=(⟨(cs.getD 0 .dead).toInt,(cs.getD 1 .dead).toInt⟩:tG)
def lj.cells(x:lj):List D:=[.int .i64 x.Frame,.str x.F1]
def lj.of(cs:List D):lj:=(⟨(cs.getD 0 .dead).toInt,(cs.getD 1 .dead).toStr⟩:lj)
def lG.cells(x:lG):List D:=[.int .i64 x.C2,.int .i64 x.E0,.int .i64 x.F9,.int .u32 x.Value]
def lG.of(cs:List D):lG:=(⟨(cs.getD 0 .dead).toInt,(cs.getD 1 .dead).toInt,(cs.getD 2 .dead).toInt,(cs.getD 3 .dead).toInt⟩:lG)
def nM.cells(x:nM):List D:=[.int .i64 x.kJ,.int .i64 x.num,.str x.label]
def nM.of(cs:List D):nM:=(⟨(cs.getD 0 .dead).toInt,(cs.getD 1 .dead).toInt,(cs.getD 2 .dead).toStr⟩:nM)
def kE.cu(x:kE)(s0:D):List D:=[.str x.ey,.int .i64 x.op,s0,.int .i64 x.F4,.int .i64 x.at_,.int .i64 x.size]
def kE.cells(x:kE):List D:=kE.cu x (.sl 3 (.ah .ax x.l) false)
def kE.iK(cs:List D)(s0:List nM):kE:=(⟨(cs.getD 0 .dead).toStr,(cs.getD 1 .dead).toInt,s0,(cs.getD 3 .dead).toInt,(cs.getD 4 .dead).toInt,(cs.getD 5 .dead).toInt⟩:kE)
def kE.of(cs:List D):kE:=kE.iK cs (iP .ax (cs.getD 2 .dead))
def ik.cells(x:ik):List D:=[.int .i64 x.Op,.int .i64 x.A,.int .i64 x.B,.int .i64 x.C,.int .i32 x.bz]
def ik.of(cs:List D):ik:=(⟨(cs.getD 0 .dead).toInt,(cs.getD 1 .dead).toInt,(cs.getD 2 .dead).toInt,(cs.getD 3 .dead).toInt,(cs.getD 4 .dead).toInt⟩:ik)
def we.cells(x:we):List D:=[.int .i64 x.C2,.int .u32 x.N,.str x.F1]
def we.of(cs:List D):we:=(⟨(cs.getD 0 .dead).toInt,(cs.getD 1 .dead).toInt,(cs.getD 2 .dead).toStr⟩:we)
def pV.cells(x:pV):List D:=[.int .u64 x.At,.int .i64 x.Event.C2,.int .u32 x.Event.N,.str x.Event.F1]
def pV.of(cs:List D):pV:=(⟨(cs.getD 0 .dead).toInt,(⟨(cs.getD 1 .dead).toInt,(cs.getD 2 .dead).toInt,(cs.getD 3 .dead).toStr⟩:we)⟩:pV)
def iB.cells(x:iB):List D:=[.int .i64 x.C2,.int .u64 x.At,.int .u32 x.C9,.str x.F1]
def iB.of(cs:List D):iB:=(⟨(cs.getD 0 .dead).toInt,(cs.getD 1 .dead).toInt,(cs.getD 2 .dead).toInt,(cs.getD 3 .dead).toStr⟩:iB)
def ot.cells(x:ot):List D:=[.str x.Name,.int .u32 x.Addr]
def ot.of(cs:List D):ot:=(⟨(cs.getD 0 .dead).toStr,(cs.getD 1 .dead).toInt⟩:ot)
def rR.cells(x:rR):List D:=[.int .u32 x.Addr,.int .u32 x.G1,.int .i64 x.G0]
def rR.of(cs:List D):rR:=(⟨(cs.getD 0 .dead).toInt,(cs.getD 1 .dead).toInt,(cs.getD 2 .dead).toInt⟩:rR)
def ll.cells(x:ll):List D:=[.int .i64 x.kind,.str x.F3,.bool x.Af]
def ll.of(cs:List D):ll:=(⟨(cs.getD 0 .dead).toInt,(cs.getD 1 .dead).toStr,(cs.getD 2 .dead).toBool⟩:ll)
def Ag.cells(x:Ag):List D:=[.bool x.a,.bool x.b,.bool x.c,.int .i32 x.low,.int .i32 x.F5]
def Ag.of(cs:List D):Ag:=(⟨(cs.getD 0 .dead).toBool,(cs.getD 1 .dead).toBool,(cs.getD 2 .dead).toBool,(cs.getD 3 .dead).toInt,(cs.getD 4 .dead).toInt⟩:Ag)
def RK.size:RK->Nat
 |.bw=>4
 |.aa=>54
 |.str=>1
 |.cf=>4
 |.bn=>2
 |.dx=>2
 |.ak=>6
 |.ax=>3
 |.fp=>4
 |.av=>3
def DF:CT->D->D
 |.int k,d=>.int k d.toInt
 |.bool,d=>.bool d.toBool
 |.str,d=>.str d.toStr
 |.ints k,d=>.sl 1 (.ints k (bu k d)) false
 |.ag,d=>.sl 1 (.ag (fi d)) false
 |.ah k,d=>.sl k.size (.ah k (iP k d)) false
 |.row i,_=>.all i
 |.nil,_=>.sl 0 (.gen []) false
 |.HZ,_=>.de
 |.self i,_=>.gr i
 |.pt i o f,_=>.ptr i o f
 |.gx f cs,_=>.gx f cs
def wg:List CT->List D->Nat->List D
 |[],_,_=>[]
 |t::ts,cs,j=>DF t (cs.getD j .dead)::wg ts cs (j+1)
def bq.sig:List CT:=[.int .u32,.int .u32,.int .u32,.int .u32,.int .u32,.int .u32,.int .u32,.int .u32,.int .u32,.int .u32,.int .u32,.int .u32,.int .u32,.int .u32,.int .u32,.int .u32,.int .u32,.int .u32,.int .u32,.int .u32,.int .u32,.int .u32,.int .u32,.int .u32,.int .u32]
def iH.sig:List CT:=[.str]
def iW.sig:List CT:=[.bool,.int .u32,.bool]
def gg.sig:List CT:=[.int .u32,.int .u32,.int .u32,.int .i64,.int .i64,.int .u32,.int .u32,.str]
def ic.sig:List CT:=[.int .u32,.int .u32,.bool,.int .u32,.bool,.int .u32]
def gw.sig:List CT:=[.int .u32,.int .u32]
def bd.iw(s0:CT):List CT:=[.int .u32,.int .u32,.int .u32,.int .u32,.int .u32,.int .u32,.int .u32,.int .u32,.int .u32,.int .u32,.int .u32,.int .u32,.int .u32,.int .u32,.int .u32,.int .u32,.int .u32,.int .u32,.int .u32,.int .u32,.int .u32,.int .u32,.int .u32,.int .u32,.int .u32,s0,.str,.bool,.int .u32,.bool,.int .u32,.int .u32,.int .u32,.int .i64,.int .i64,.int .u32,.int .u32,.str,.int .u32,.int .u32,.bool,.int .u32,.bool,.int .u32,.int .u32,.int .u32,.int .u64,.bool,.bool]
def bd.sig:List CT:=bd.iw (.ints .u32)
def gl.iw(s0:CT):List CT:=[s0,.int .i64,.int .i64]
def gl.sig:List CT:=gl.iw (.ag)
def ig.iw(s0 s1 s2 s3:CT):List CT:=[.int .i64,.int .u32,.int .u32,.int .u32,.int .u32,.int .u32,.int .u32,.int .u32,.int .u32,.int .u32,.int .u32,.int .u32,.int .u32,.int .u32,.int .u32,.int .u32,.int .u32,.int .u32,.int .u32,.int .u32,.int .u32,.int .u32,.int .u32,.int .u32,.int .u32,.int .u32,s0,.str,.bool,.int .u32,.bool,.int .u32,.int .u32,.int .u32,.int .i64,.int .i64,.int .u32,.int .u32,.str,.int .u32,.int .u32,.bool,.int .u32,.bool,.int .u32,.int .u32,.int .u32,.int .u64,.bool,.bool,s1,.int .i64,.int .i64,s2,s3,.int .u64]
def ig.sig:List CT:=ig.iw (.ints .u32) (.ag) (.ints .i64) (.ints .i64)
def iN.iw(s0:CT):List CT:=[s0,.int .u64,.int .i64]
def iN.sig:List CT:=iN.iw (.ah .str)
def ft.iw(s0 s1:CT):List CT:=[.int .i64,.int .i64,.int .i64,.str,.int .u32,.int .u32,.int .u32,.int .u32,.int .u32,.int .u32,.int .u32,.int .u32,.int .u32,.int .u32,.int .u32,.int .u32,.int .u32,.int .u32,.int .u32,.int .u32,.int .u32,.int .u32,.int .u32,.int .u32,.int .u32,.int .u32,.int .u32,.int .u32,.int .u32,s0,.str,.bool,.int .u32,.bool,.int .u32,.int .u32,.int .u32,.int .i64,.int .i64,.int .u32,.int .u32,.str,.int .u32,.int .u32,.bool,.int .u32,.bool,.int .u32,.int .u32,.int .u32,.int .u64,.bool,.bool,s1]
def ft.sig:List CT:=ft.iw (.ints .u32) (.ints .i64)
def du.iw(s0 s1 s2 s3 s4 s5 s6 s7 s8 s9 BI:CT):List CT:=[.int .i64,.int .u32,.int .u32,.int .u32,.int .u32,.int .u32,.int .u32,.int .u32,.int .u32,.int .u32,.int .u32,.int .u32,.int .u32,.int .u32,.int .u32,.int .u32,.int .u32,.int .u32,.int .u32,.int .u32,.int .u32,.int .u32,.int .u32,.int .u32,.int .u32,.int .u32,s0,.str,.bool,.int .u32,.bool,.int .u32,.int .u32,.int .u32,.int .i64,.int .i64,.int .u32,.int .u32,.str,.int .u32,.int .u32,.bool,.int .u32,.bool,.int .u32,.int .u32,.int .u32,.int .u64,.bool,.bool,s1,.int .i64,.int .i64,s2,s3,.int .u64,.int .i64,.int .u32,.int .u32,.int .u32,.int .u32,.int .u32,.int .u32,.int .u32,.int .u32,.int .u32,.int .u32,.int .u32,.int .u32,.int .u32,.int .u32,.int .u32,.int .u32,.int .u32,.int .u32,.int .u32,.int .u32,.int .u32,.int .u32,.int .u32,.int .u32,.int .u32,s4,.str,.bool,.int .u32,.bool,.int .u32,.int .u32,.int .u32,.int .i64,.int .i64,.int .u32,.int .u32,.str,.int .u32,.int .u32,.bool,.int .u32,.bool,.int .u32,.int .u32,.int .u32,.int .u64,.bool,.bool,s5,.int .i64,.int .i64,s6,s7,.int .u64,s8,s9,BI,.int .u64,.int .i64]
def du.sig:List CT:=du.iw (.ints .u32) (.ag) (.ints .i64) (.ints .i64) (.ints .u32) (.ag) (.ints .i64) (.ints .i64) (.ah .aa) (.ah .aa) (.ah .str)
def jY.sig:List CT:=[.int .i64,.int .i64,.bool,.int .u32]
def dr.iw(s0 s1 s2 s3 s4 s5 s6 s7 s8 s9 BI:CT):List CT:=[.int .i64,.int .u32,.int .u32,.int .u32,.int .u32,.int .u32,.int .u32,.int .u32,.int .u32,.int .u32,.int .u32,.int .u32,.int .u32,.int .u32,.int .u32,.int .u32,.int .u32,.int .u32,.int .u32,.int .u32,.int .u32,.int .u32,.int .u32,.int .u32,.int .u32,.int .u32,s0,.str,.bool,.int .u32,.bool,.int .u32,.int .u32,.int .u32,.int .i64,.int .i64,.int .u32,.int .u32,.str,.int .u32,.int .u32,.bool,.int .u32,.bool,.int .u32,.int .u32,.int .u32,.int .u64,.bool,.bool,s1,.int .i64,.int .i64,s2,s3,.int .u64,.int .i64,.int .u32,.int .u32,.int .u32,.int .u32,.int .u32,.int .u32,.int .u32,.int .u32,.int .u32,.int .u32,.int .u32,.int .u32,.int .u32,.int .u32,.int .u32,.int .u32,.int .u32,.int .u32,.int .u32,.int .u32,.int .u32,.int .u32,.int .u32,.int .u32,.int .u32,s4,.str,.bool,.int .u32,.bool,.int .u32,.int .u32,.int .u32,.int .i64,.int .i64,.int .u32,.int .u32,.str,.int .u32,.int .u32,.bool,.int .u32,.bool,.int .u32,.int .u32,.int .u32,.int .u64,.bool,.bool,s5,.int .i64,.int .i64,s6,s7,.int .u64,s8,s9,BI,.int .u64,.int .i64]
def dr.sig:List CT:=dr.iw (.ints .u32) (.ag) (.ints .i64) (.ints .i64) (.ints .u32) (.ag) (.ints .i64) (.ints .i64) (.ah .aa) (.ah .aa) (.ah .str)
def tG.sig:List CT:=[.int .i64,.int .i64]
def lj.sig:List CT:=[.int .i64,.str]
def lG.sig:List CT:=[.int .i64,.int .i64,.int .i64,.int .u32]
def nM.sig:List CT:=[.int .i64,.int .i64,.str]
def kE.iw(s0:CT):List CT:=[.str,.int .i64,s0,.int .i64,.int .i64,.int .i64]
def kE.sig:List CT:=kE.iw (.ah .ax)
def ik.sig:List CT:=[.int .i64,.int .i64,.int .i64,.int .i64,.int .i32]
def we.sig:List CT:=[.int .i64,.int .u32,.str]
def pV.sig:List CT:=[.int .u64,.int .i64,.int .u32,.str]
def iB.sig:List CT:=[.int .i64,.int .u64,.int .u32,.str]
def ot.sig:List CT:=[.str,.int .u32]
def rR.sig:List CT:=[.int .u32,.int .u32,.int .i64]
def ll.sig:List CT:=[.int .i64,.str,.bool]
def Ag.sig:List CT:=[.bool,.bool,.bool,.int .i32,.int .i32]
def RK.sig:RK->List CT
 |.bw=>jY.sig
 |.aa=>ft.sig
 |.str=>[.str]
 |.cf=>iB.sig
 |.bn=>lj.sig
 |.dx=>ot.sig
 |.ak=>kE.sig
 |.ax=>nM.sig
 |.fp=>pV.sig
 |.av=>ll.sig
def RK.cells:(k:RK)->RK.T k->List D
 |.bw,x=>jY.cells x
 |.aa,x=>ft.cells x
 |.str,x=>[.str x]
 |.cf,x=>iB.cells x
 |.bn,x=>lj.cells x
 |.dx,x=>ot.cells x
 |.ak,x=>kE.cells x
 |.ax,x=>nM.cells x
 |.fp,x=>pV.cells x
 |.av,x=>ll.cells x
def RK.of:(k:RK)->List D->RK.T k
 |.bw,cs=>jY.of cs
 |.aa,cs=>ft.of cs
 |.str,cs=>(cs.getD 0 .dead).toStr
 |.cf,cs=>iB.of cs
 |.bn,cs=>lj.of cs
 |.dx,cs=>ot.of cs
 |.ak,cs=>kE.of cs
 |.ax,cs=>nM.of cs
 |.fp,cs=>pV.of cs
 |.av,cs=>ll.of cs
theorem RK.BJ(k:RK)(cs:List D):k.cells (k.of cs)=wg k.sig cs 0:=by cases k<;>kernel_rfl
theorem RK.ou(k:RK)(x:RK.T k):wg k.sig (k.cells x) 0=k.cells x:=by cases k<;>kernel_rfl
theorem RK.ua(k:RK):k.sig.length=k.size:=by cases k<;>rfl
