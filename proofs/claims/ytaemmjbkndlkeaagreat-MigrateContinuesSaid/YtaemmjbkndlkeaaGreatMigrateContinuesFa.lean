import Derived.WalkKit
import Derived.KernelRfl
set_option linter.all false
namespace Go.GD
variable {m n:Nat}{p:Prop}
theorem oY{p:Prop}[Decidable p](h:decide p=true):p:=of_decide_eq_true h
theorem oN[Decidable p](h:decide p=false):¬p:=of_decide_eq_false h
theorem dY[Decidable p](h:p):decide p=true:=decide_eq_true h
theorem dN[Decidable p](h:¬p):decide p=false:=decide_eq_false h
theorem bE(h:Nat.beq n m=true):n=m:=Nat.eq_of_beq_eq_true h
theorem lE(h:Nat.ble n m=true):n<=m:=Nat.le_of_ble_eq_true h
theorem aE(a b:Bool):((a&&b)=true)=(a=true/\b=true):=Bool.and_eq_true a b
theorem lA{α:Type}{a b:List α}:(a++b).length=a.length+b.length:=List.length_append
structure A5(α:Type) where
 (a0 a1 a2 a3 a4:α)
 deriving DecidableEq,Inhabited
def A5.l{α:Type}(x:A5 α):List α:=[x.a0,x.a1,x.a2,x.a3,x.a4]
def A5.of{α:Type}(z:α)(l:List α):A5 α:=⟨l.getD 0 z,l.getD 1 z,l.getD 2 z,l.getD 3 z,l.getD 4 z⟩
structure A8(α:Type) where
 (a0 a1 a2 a3 a4 a5 a6 a7:α)
 deriving DecidableEq,Inhabited
def A8.l{α:Type}(x:A8 α):List α:=[x.a0,x.a1,x.a2,x.a3,x.a4,x.a5,x.a6,x.a7]
def A8.of{α:Type}(z:α)(l:List α):A8 α:=⟨l.getD 0 z,l.getD 1 z,l.getD 2 z,l.getD 3 z,l.getD 4 z,l.getD 5 z,l.getD 6 z,l.getD 7 z⟩
structure iv(α:Type) where
 (a0 a1 a2 a3 a4 a5 a6 a7 a8 a9 kv ky a12 kz kA kB:α)
 deriving DecidableEq,Inhabited
def iv.l{α:Type}(x:iv α):List α:=[x.a0,x.a1,x.a2,x.a3,x.a4,x.a5,x.a6,x.a7,x.a8,x.a9,x.kv,x.ky,x.a12,x.kz,x.kA,x.kB]
def iv.of{α:Type}(z:α)(l:List α):iv α:=⟨l.getD 0 z,l.getD 1 z,l.getD 2 z,l.getD 3 z,l.getD 4 z,l.getD 5 z,l.getD 6 z,l.getD 7 z,l.getD 8 z,l.getD 9 z,l.getD 10 z,l.getD 11 z,l.getD 12 z,l.getD 13 z,l.getD 14 z,l.getD 15 z⟩
structure bq where
 X:(iv Int)
 Pc:Int
 C2:(A8 Int)
 deriving DecidableEq,Inhabited
structure iK where
 D9:(List UInt8)
 deriving DecidableEq,Inhabited
structure iT where
 F0:Bool
 D3:Int
 E0:Bool
 deriving DecidableEq,Inhabited
structure fw where
 ae:Int
 C9:Int
 Frame:Int
 C8:Int
 F6:Int
 C5:Int
 C6:Int
 C7:(List UInt8)
 deriving DecidableEq,Inhabited
structure gw where
 Frame:Int
 F7:Int
 D1:Bool
 D4:Int
 C4:Bool
 F9:Int
 deriving DecidableEq,Inhabited
structure gl where
 A2:Int
 D0:Int
 deriving DecidableEq,Inhabited
structure bd where
 B4:bq
 Mem:(List Int)
 B2:iK
 B8:iT
 B5:fw
 D2:gw
 A6:gl
 B7:Int
 B3:Bool
 B6:Bool
 deriving DecidableEq,Inhabited
structure gb where
 B0:(List Bool)
 B9:Int
 D6:Int
 deriving DecidableEq,Inhabited
structure il where
 A4:Int
 A0:bd
 B1:gb
 A3:(List Int)
 C0:(List Int)
 D5:Int
 deriving DecidableEq,Inhabited
structure iL where
 ae:(List (List UInt8))
 D5:Int
 D7:Int
 deriving DecidableEq,Inhabited
structure fg where
 C3:Int
 B9:Int
 Frame:Int
 F1:(List UInt8)
 A0:bd
 A3:(List Int)
 deriving DecidableEq,Inhabited
structure dw where
 A1:il
 A2:il
 A7:(List fg)
 C1:(List fg)
 A9:iL
 deriving DecidableEq,Inhabited
structure jU where
 C3:Int
 N:Int
 C1:Bool
 F2:Int
 deriving DecidableEq,Inhabited
structure de where
 A1:il
 A2:il
 A7:(List fg)
 C1:(List fg)
 A9:iL
 deriving DecidableEq,Inhabited
structure sY where
 wN:Int
 nj:Int
 deriving DecidableEq,Inhabited
structure kP where
 Frame:Int
 F1:(List UInt8)
 deriving DecidableEq,Inhabited
structure lj where
 C3:Int
 D8:Int
 F8:Int
 Value:Int
 deriving DecidableEq,Inhabited
structure nk where
 kj:Int
 num:Int
 label:(List UInt8)
 deriving DecidableEq,Inhabited
structure kd where
 ea:(List UInt8)
 op:Int
 l:(List nk)
 F4:Int
 at_:Int
 size:Int
 deriving DecidableEq,Inhabited
structure gv where
 Op:Int
 A:Int
 B:Int
 C:Int
 bz:Int
 deriving DecidableEq,Inhabited
structure uO where
 C3:Int
 N:Int
 F1:(List UInt8)
 deriving DecidableEq,Inhabited
structure py where
 At:Int
 Event:uO
 deriving DecidableEq,Inhabited
structure ik where
 C3:Int
 At:Int
 C9:Int
 F1:(List UInt8)
 deriving DecidableEq,Inhabited
structure nQ where
 Name:(List UInt8)
 Addr:Int
 deriving DecidableEq,Inhabited
structure rj where
 Addr:Int
 G1:Int
 G0:Int
 deriving DecidableEq,Inhabited
structure kQ where
 kind:Int
 F3:(List UInt8)
 wO:Bool
 deriving DecidableEq,Inhabited
structure wP where
 a:Bool
 b:Bool
 c:Bool
 low:Int
 F5:Int
 deriving DecidableEq,Inhabited
inductive RK where
 |bw|aa|str|bu|bn|dm|ak|aw|fc|av
 deriving DecidableEq
@[reducible] def RK.T:RK->Type
 |.bw=>jU
 |.aa=>fg
 |.str=>(List UInt8)
 |.bu=>ik
 |.bn=>kP
 |.dm=>nQ
 |.ak=>kd
 |.aw=>nk
 |.fc=>py
 |.av=>kQ
def RK.eh:(k:RK)->RK.T k
 |.bw=>(default:jU)
 |.aa=>(default:fg)
 |.str=>(default:List UInt8)
 |.bu=>(default:ik)
 |.bn=>(default:kP)
 |.dm=>(default:nQ)
 |.ak=>(default:kd)
 |.aw=>(default:nk)
 |.fc=>(default:py)
 |.av=>(default:kQ)
def RK.MG:Nat->Option RK
 |61=>some .bw
 |80=>some .aa
 |9=>some .str
 |232=>some .bu
 |146=>some .bn
 |243=>some .dm
 |177=>some .ak
 |179=>some .aw
 |193=>some .fc
 |290=>some .av
 |_=>none
end Go.GD
namespace Go.GD
open Go
instance (k:RK):Inhabited (RK.T k):=⟨RK.eh k⟩
mutual
inductive D where
 |bool (b:Bool)
 |int (k:IntKind) (n:Int)
 |str (s:List UInt8)
 |sl (sz:Nat) (es:ai) (fr:Bool)
 |all (r:Nat)
 |own (r o n:Nat)
 |ptr (r i off:Nat)
 |pa (r i off len:Nat) (k:Option IntKind) (n:Nat)
 |im (sz:Nat) (es:ai) (i off:Nat)
 |iC
 |c9
 |emp
 |mH (es:ai)
 |dead
 |gj (f:Nat) (cs:List iy)
 |ga (r:Nat)
 |jC
 |agg (cs:List D)
 |dv (ds:List D)
inductive ai where
 |gen (es:List (List D))
 |ints (k:IntKind) (l:List Int)
 |ag (l:List Bool)
 |ah (k:RK) (l:List (RK.T k))
inductive iy where
 |ptr (r i off:Nat)
 |int (k:IntKind) (n:Int)
 |arr (r:Nat)
 |sl (sz:Nat) (es:ai) (fr:Bool)
 |fn (f:Nat) (ps:List (Nat×Nat×Nat))
end
instance:Inhabited D:=⟨.dead⟩
instance:Inhabited ai:=⟨.gen []⟩
def HB(p:Nat×Nat×Nat):iy:=.ptr p.1 p.2.1 p.2.2
def iy.d:iy->D|.ptr r i off=>.ptr r i off|.int k n=>.int k n|.arr r=>.all r|.sl a b c=>.sl a b c|.fn f ps=>.gj f (ps.map HB)
def D.isInt(k:IntKind):D->Bool|.int j _=>decide (j=k)|_=>false
def D.toInt:D->Int|.int _ n=>n|_=>0
def D.isBool:D->Bool|.bool _=>true|_=>false
def D.toBool:D->Bool|.bool b=>b|_=>false
def D.isStr:D->Bool|.str _=>true|_=>false
def D.toStr:D->List UInt8|.str s=>s|_=>[]
def FG(k k':RK)(l:List (RK.T k)):Option (List (RK.T k')):=if h:k=k' then some (h▸l)else none
theorem VS(k:RK)(l:List (RK.T k)):FG k k l=some l:=by simp[FG]
theorem VT{k k':RK}{l:List (RK.T k)}{m:List (RK.T k')}(h:FG k k' l=some m):∃e:k=k',e▸l=m:=by
 unfold FG at h
 split at h
 ·rename_i e;cases h;exact⟨e,rfl⟩
 ·cases h
def ai.toI(k:IntKind):ai->Option (List Int)
 |.ints k' l=>match decide (k'=k)with|true=>some l|false=>none
 |.gen []=>some []
 |_=>none
def ai.toB:ai->Option (List Bool)
 |.ag l=>some l
 |.gen []=>some []
 |_=>none
def ai.toR(k:RK):ai->Option (List (RK.T k))
 |.ah k' l=>FG k' k l
 |.gen []=>some []
 |_=>none
inductive CT where|int(k:IntKind)|bool|str|ints(k:IntKind)|ag|ah(k:RK)|row(i:Nat)|nil|HC|self(i:Nat)|pt(i o f:Nat)|gj(f:Nat)(cs:List iy)
def cf(k:IntKind):D->List Int|.sl _ E _=>(match E.toI k with|some l=>l|none=>[])|_=>[]
def eu:D->List Bool|.sl _ E _=>(match E.toB with|some l=>l|none=>[])|_=>[]
def iM(k:RK):D->List (RK.T k)|.sl _ E _=>(match E.toR k with|some l=>l|none=>[])|_=>[]
def bq.cells(x:bq):List D:=[.int .u32 x.X.a0,.int .u32 x.X.a1,.int .u32 x.X.a2,.int .u32 x.X.a3,.int .u32 x.X.a4,.int .u32 x.X.a5,.int .u32 x.X.a6,.int .u32 x.X.a7,.int .u32 x.X.a8,.int .u32 x.X.a9,.int .u32 x.X.kv,.int .u32 x.X.ky,.int .u32 x.X.a12,.int .u32 x.X.kz,.int .u32 x.X.kA,.int .u32 x.X.kB,.int .u32 x.Pc,.int .u32 x.C2.a0,.int .u32 x.C2.a1,.int .u32 x.C2.a2,.int .u32 x.C2.a3,.int .u32 x.C2.a4,.int .u32 x.C2.a5,.int .u32 x.C2.a6,.int .u32 x.C2.a7]
def bq.of(cs:List D):bq:=(⟨(⟨(cs.getD 0 .dead).toInt,(cs.getD 1 .dead).toInt,(cs.getD 2 .dead).toInt,(cs.getD 3 .dead).toInt,(cs.getD 4 .dead).toInt,(cs.getD 5 .dead).toInt,(cs.getD 6 .dead).toInt,(cs.getD 7 .dead).toInt,(cs.getD 8 .dead).toInt,(cs.getD 9 .dead).toInt,(cs.getD 10 .dead).toInt,(cs.getD 11 .dead).toInt,(cs.getD 12 .dead).toInt,(cs.getD 13 .dead).toInt,(cs.getD 14 .dead).toInt,(cs.getD 15 .dead).toInt⟩:(iv Int)),(cs.getD 16 .dead).toInt,(⟨(cs.getD 17 .dead).toInt,(cs.getD 18 .dead).toInt,(cs.getD 19 .dead).toInt,(cs.getD 20 .dead).toInt,(cs.getD 21 .dead).toInt,(cs.getD 22 .dead).toInt,(cs.getD 23 .dead).toInt,(cs.getD 24 .dead).toInt⟩:(A8 Int))⟩:bq)
def iK.cells(x:iK):List D:=[.str x.D9]
def iK.of(cs:List D):iK:=(⟨(cs.getD 0 .dead).toStr⟩:iK)
def iT.cells(x:iT):List D:=[.bool x.F0,.int .u32 x.D3,.bool x.E0]
def iT.of(cs:List D):iT:=(⟨(cs.getD 0 .dead).toBool,(cs.getD 1 .dead).toInt,(cs.getD 2 .dead).toBool⟩:iT)
def fw.cells(x:fw):List D:=[.int .u32 x.ae,.int .u32 x.C9,.int .u32 x.Frame,.int .i64 x.C8,.int .i64 x.F6,.int .u32 x.C5,.int .u32 x.C6,.str x.C7]
def fw.of(cs:List D):fw:=(⟨(cs.getD 0 .dead).toInt,(cs.getD 1 .dead).toInt,(cs.getD 2 .dead).toInt,(cs.getD 3 .dead).toInt,(cs.getD 4 .dead).toInt,(cs.getD 5 .dead).toInt,(cs.getD 6 .dead).toInt,(cs.getD 7 .dead).toStr⟩:fw)
def gw.cells(x:gw):List D:=[.int .u32 x.Frame,.int .u32 x.F7,.bool x.D1,.int .u32 x.D4,.bool x.C4,.int .u32 x.F9]
def gw.of(cs:List D):gw:=(⟨(cs.getD 0 .dead).toInt,(cs.getD 1 .dead).toInt,(cs.getD 2 .dead).toBool,(cs.getD 3 .dead).toInt,(cs.getD 4 .dead).toBool,(cs.getD 5 .dead).toInt⟩:gw)
def gl.cells(x:gl):List D:=[.int .u32 x.A2,.int .u32 x.D0]
def gl.of(cs:List D):gl:=(⟨(cs.getD 0 .dead).toInt,(cs.getD 1 .dead).toInt⟩:gl)
def bd.cj(x:bd)(s0:D):List D:=[.int .u32 x.B4.X.a0,.int .u32 x.B4.X.a1,.int .u32 x.B4.X.a2,.int .u32 x.B4.X.a3,.int .u32 x.B4.X.a4,.int .u32 x.B4.X.a5,.int .u32 x.B4.X.a6,.int .u32 x.B4.X.a7,.int .u32 x.B4.X.a8,.int .u32 x.B4.X.a9,.int .u32 x.B4.X.kv,.int .u32 x.B4.X.ky,.int .u32 x.B4.X.a12,.int .u32 x.B4.X.kz,.int .u32 x.B4.X.kA,.int .u32 x.B4.X.kB,.int .u32 x.B4.Pc,.int .u32 x.B4.C2.a0,.int .u32 x.B4.C2.a1,.int .u32 x.B4.C2.a2,.int .u32 x.B4.C2.a3,.int .u32 x.B4.C2.a4,.int .u32 x.B4.C2.a5,.int .u32 x.B4.C2.a6,.int .u32 x.B4.C2.a7,s0,.str x.B2.D9,.bool x.B8.F0,.int .u32 x.B8.D3,.bool x.B8.E0,.int .u32 x.B5.ae,.int .u32 x.B5.C9,.int .u32 x.B5.Frame,.int .i64 x.B5.C8,.int .i64 x.B5.F6,.int .u32 x.B5.C5,.int .u32 x.B5.C6,.str x.B5.C7,.int .u32 x.D2.Frame,.int .u32 x.D2.F7,.bool x.D2.D1,.int .u32 x.D2.D4,.bool x.D2.C4,.int .u32 x.D2.F9,.int .u32 x.A6.A2,.int .u32 x.A6.D0,.int .u64 x.B7,.bool x.B3,.bool x.B6]
def bd.cells(x:bd):List D:=bd.cj x (.sl 1 (.ints .u32 x.Mem) false)
def bd.iz(cs:List D)(s0:List Int):bd:=(⟨(⟨(⟨(cs.getD 0 .dead).toInt,(cs.getD 1 .dead).toInt,(cs.getD 2 .dead).toInt,(cs.getD 3 .dead).toInt,(cs.getD 4 .dead).toInt,(cs.getD 5 .dead).toInt,(cs.getD 6 .dead).toInt,(cs.getD 7 .dead).toInt,(cs.getD 8 .dead).toInt,(cs.getD 9 .dead).toInt,(cs.getD 10 .dead).toInt,(cs.getD 11 .dead).toInt,(cs.getD 12 .dead).toInt,(cs.getD 13 .dead).toInt,(cs.getD 14 .dead).toInt,(cs.getD 15 .dead).toInt⟩:(iv Int)),(cs.getD 16 .dead).toInt,(⟨(cs.getD 17 .dead).toInt,(cs.getD 18 .dead).toInt,(cs.getD 19 .dead).toInt,(cs.getD 20 .dead).toInt,(cs.getD 21 .dead).toInt,(cs.getD 22 .dead).toInt,(cs.getD 23 .dead).toInt,(cs.getD 24 .dead).toInt⟩:(A8 Int))⟩:bq),s0,(⟨(cs.getD 26 .dead).toStr⟩:iK),(⟨(cs.getD 27 .dead).toBool,(cs.getD 28 .dead).toInt,(cs.getD 29 .dead).toBool⟩:iT),(⟨(cs.getD 30 .dead).toInt,(cs.getD 31 .dead).toInt,(cs.getD 32 .dead).toInt,(cs.getD 33 .dead).toInt,(cs.getD 34 .dead).toInt,(cs.getD 35 .dead).toInt,(cs.getD 36 .dead).toInt,(cs.getD 37 .dead).toStr⟩:fw),(⟨(cs.getD 38 .dead).toInt,(cs.getD 39 .dead).toInt,(cs.getD 40 .dead).toBool,(cs.getD 41 .dead).toInt,(cs.getD 42 .dead).toBool,(cs.getD 43 .dead).toInt⟩:gw),(⟨(cs.getD 44 .dead).toInt,(cs.getD 45 .dead).toInt⟩:gl),(cs.getD 46 .dead).toInt,(cs.getD 47 .dead).toBool,(cs.getD 48 .dead).toBool⟩:bd)
def bd.of(cs:List D):bd:=bd.iz cs (cf .u32 (cs.getD 25 .dead))
def gb.cj(x:gb)(s0:D):List D:=[s0,.int .i64 x.B9,.int .i64 x.D6]
def gb.cells(x:gb):List D:=gb.cj x (.sl 1 (.ag x.B0) false)
def gb.iz(cs:List D)(s0:List Bool):gb:=(⟨s0,(cs.getD 1 .dead).toInt,(cs.getD 2 .dead).toInt⟩:gb)
def gb.of(cs:List D):gb:=gb.iz cs (eu (cs.getD 0 .dead))
def il.cj(x:il)(s0 s1 s2 s3:D):List D:=[.int .i64 x.A4,.int .u32 x.A0.B4.X.a0,.int .u32 x.A0.B4.X.a1,.int .u32 x.A0.B4.X.a2,.int .u32 x.A0.B4.X.a3,.int .u32 x.A0.B4.X.a4,.int .u32 x.A0.B4.X.a5,.int .u32 x.A0.B4.X.a6,.int .u32 x.A0.B4.X.a7,.int .u32 x.A0.B4.X.a8,.int .u32 x.A0.B4.X.a9,.int .u32 x.A0.B4.X.kv,.int .u32 x.A0.B4.X.ky,.int .u32 x.A0.B4.X.a12,.int .u32 x.A0.B4.X.kz,.int .u32 x.A0.B4.X.kA,.int .u32 x.A0.B4.X.kB,.int .u32 x.A0.B4.Pc,.int .u32 x.A0.B4.C2.a0,.int .u32 x.A0.B4.C2.a1,.int .u32 x.A0.B4.C2.a2,.int .u32 x.A0.B4.C2.a3,.int .u32 x.A0.B4.C2.a4,.int .u32 x.A0.B4.C2.a5,.int .u32 x.A0.B4.C2.a6,.int .u32 x.A0.B4.C2.a7,s0,.str x.A0.B2.D9,.bool x.A0.B8.F0,.int .u32 x.A0.B8.D3,.bool x.A0.B8.E0,.int .u32 x.A0.B5.ae,.int .u32 x.A0.B5.C9,.int .u32 x.A0.B5.Frame,.int .i64 x.A0.B5.C8,.int .i64 x.A0.B5.F6,.int .u32 x.A0.B5.C5,.int .u32 x.A0.B5.C6,.str x.A0.B5.C7,.int .u32 x.A0.D2.Frame,.int .u32 x.A0.D2.F7,.bool x.A0.D2.D1,.int .u32 x.A0.D2.D4,.bool x.A0.D2.C4,.int .u32 x.A0.D2.F9,.int .u32 x.A0.A6.A2,.int .u32 x.A0.A6.D0,.int .u64 x.A0.B7,.bool x.A0.B3,.bool x.A0.B6,s1,.int .i64 x.B1.B9,.int .i64 x.B1.D6,s2,s3,.int .u64 x.D5]
def il.cells(x:il):List D:=il.cj x (.sl 1 (.ints .u32 x.A0.Mem) false) (.sl 1 (.ag x.B1.B0) false) (.sl 1 (.ints .i64 x.A3) false) (.sl 1 (.ints .i64 x.C0) false)
def il.iz(cs:List D)(s0:List Int)(s1:List Bool)(s2 s3:List Int):il:=(⟨(cs.getD 0 .dead).toInt,(⟨(⟨(⟨(cs.getD 1 .dead).toInt,(cs.getD 2 .dead).toInt,(cs.getD 3 .dead).toInt,(cs.getD 4 .dead).toInt,(cs.getD 5 .dead).toInt,(cs.getD 6 .dead).toInt,(cs.getD 7 .dead).toInt,(cs.getD 8 .dead).toInt,(cs.getD 9 .dead).toInt,(cs.getD 10 .dead).toInt,(cs.getD 11 .dead).toInt,(cs.getD 12 .dead).toInt,(cs.getD 13 .dead).toInt,(cs.getD 14 .dead).toInt,(cs.getD 15 .dead).toInt,(cs.getD 16 .dead).toInt⟩:(iv Int)),(cs.getD 17 .dead).toInt,(⟨(cs.getD 18 .dead).toInt,(cs.getD 19 .dead).toInt,(cs.getD 20 .dead).toInt,(cs.getD 21 .dead).toInt,(cs.getD 22 .dead).toInt,(cs.getD 23 .dead).toInt,(cs.getD 24 .dead).toInt,(cs.getD 25 .dead).toInt⟩:(A8 Int))⟩:bq),s0,(⟨(cs.getD 27 .dead).toStr⟩:iK),(⟨(cs.getD 28 .dead).toBool,(cs.getD 29 .dead).toInt,(cs.getD 30 .dead).toBool⟩:iT),(⟨(cs.getD 31 .dead).toInt,(cs.getD 32 .dead).toInt,(cs.getD 33 .dead).toInt,(cs.getD 34 .dead).toInt,(cs.getD 35 .dead).toInt,(cs.getD 36 .dead).toInt,(cs.getD 37 .dead).toInt,(cs.getD 38 .dead).toStr⟩:fw),(⟨(cs.getD 39 .dead).toInt,(cs.getD 40 .dead).toInt,(cs.getD 41 .dead).toBool,(cs.getD 42 .dead).toInt,(cs.getD 43 .dead).toBool,(cs.getD 44 .dead).toInt⟩:gw),(⟨(cs.getD 45 .dead).toInt,(cs.getD 46 .dead).toInt⟩:gl),(cs.getD 47 .dead).toInt,(cs.getD 48 .dead).toBool,(cs.getD 49 .dead).toBool⟩:bd),(⟨s1,(cs.getD 51 .dead).toInt,(cs.getD 52 .dead).toInt⟩:gb),s2,s3,(cs.getD 55 .dead).toInt⟩:il)
def il.of(cs:List D):il:=il.iz cs (cf .u32 (cs.getD 26 .dead)) (eu (cs.getD 50 .dead)) (cf .i64 (cs.getD 53 .dead)) (cf .i64 (cs.getD 54 .dead))
def iL.cj(x:iL)(s0:D):List D:=[s0,.int .u64 x.D5,.int .i64 x.D7]
def iL.cells(x:iL):List D:=iL.cj x (.sl 1 (.ah .str x.ae) false)
def iL.iz(cs:List D)(s0:List (List UInt8)):iL:=(⟨s0,(cs.getD 1 .dead).toInt,(cs.getD 2 .dead).toInt⟩:iL)
def iL.of(cs:List D):iL:=iL.iz cs (iM .str (cs.getD 0 .dead))
def fg.cj(x:fg)(s0 s1:D):List D:=[.int .i64 x.C3,.int .i64 x.B9,.int .i64 x.Frame,.str x.F1,.int .u32 x.A0.B4.X.a0,.int .u32 x.A0.B4.X.a1,.int .u32 x.A0.B4.X.a2,.int .u32 x.A0.B4.X.a3,.int .u32 x.A0.B4.X.a4,.int .u32 x.A0.B4.X.a5,.int .u32 x.A0.B4.X.a6,.int .u32 x.A0.B4.X.a7,.int .u32 x.A0.B4.X.a8,.int .u32 x.A0.B4.X.a9,.int .u32 x.A0.B4.X.kv,.int .u32 x.A0.B4.X.ky,.int .u32 x.A0.B4.X.a12,.int .u32 x.A0.B4.X.kz,.int .u32 x.A0.B4.X.kA,.int .u32 x.A0.B4.X.kB,.int .u32 x.A0.B4.Pc,.int .u32 x.A0.B4.C2.a0,.int .u32 x.A0.B4.C2.a1,.int .u32 x.A0.B4.C2.a2,.int .u32 x.A0.B4.C2.a3,.int .u32 x.A0.B4.C2.a4,.int .u32 x.A0.B4.C2.a5,.int .u32 x.A0.B4.C2.a6,.int .u32 x.A0.B4.C2.a7,s0,.str x.A0.B2.D9,.bool x.A0.B8.F0,.int .u32 x.A0.B8.D3,.bool x.A0.B8.E0,.int .u32 x.A0.B5.ae,.int .u32 x.A0.B5.C9,.int .u32 x.A0.B5.Frame,.int .i64 x.A0.B5.C8,.int .i64 x.A0.B5.F6,.int .u32 x.A0.B5.C5,.int .u32 x.A0.B5.C6,.str x.A0.B5.C7,.int .u32 x.A0.D2.Frame,.int .u32 x.A0.D2.F7,.bool x.A0.D2.D1,.int .u32 x.A0.D2.D4,.bool x.A0.D2.C4,.int .u32 x.A0.D2.F9,.int .u32 x.A0.A6.A2,.int .u32 x.A0.A6.D0,.int .u64 x.A0.B7,.bool x.A0.B3,.bool x.A0.B6,s1]
def fg.cells(x:fg):List D:=fg.cj x (.sl 1 (.ints .u32 x.A0.Mem) false) (.sl 1 (.ints .i64 x.A3) false)
def fg.iz(cs:List D)(s0 s1:List Int):fg:=(⟨(cs.getD 0 .dead).toInt,(cs.getD 1 .dead).toInt,(cs.getD 2 .dead).toInt,(cs.getD 3 .dead).toStr,(⟨(⟨(⟨(cs.getD 4 .dead).toInt,(cs.getD 5 .dead).toInt,(cs.getD 6 .dead).toInt,(cs.getD 7 .dead).toInt,(cs.getD 8 .dead).toInt,(cs.getD 9 .dead).toInt,(cs.getD 10 .dead).toInt,(cs.getD 11 .dead).toInt,(cs.getD 12 .dead).toInt,(cs.getD 13 .dead).toInt,(cs.getD 14 .dead).toInt,(cs.getD 15 .dead).toInt,(cs.getD 16 .dead).toInt,(cs.getD 17 .dead).toInt,(cs.getD 18 .dead).toInt,(cs.getD 19 .dead).toInt⟩:(iv Int)),(cs.getD 20 .dead).toInt,(⟨(cs.getD 21 .dead).toInt,(cs.getD 22 .dead).toInt,(cs.getD 23 .dead).toInt,(cs.getD 24 .dead).toInt,(cs.getD 25 .dead).toInt,(cs.getD 26 .dead).toInt,(cs.getD 27 .dead).toInt,(cs.getD 28 .dead).toInt⟩:(A8 Int))⟩:bq),s0,(⟨(cs.getD 30 .dead).toStr⟩:iK),(⟨(cs.getD 31 .dead).toBool,(cs.getD 32 .dead).toInt,(cs.getD 33 .dead).toBool⟩:iT),(⟨(cs.getD 34 .dead).toInt,(cs.getD 35 .dead).toInt,(cs.getD 36 .dead).toInt,(cs.getD 37 .dead).toInt,(cs.getD 38 .dead).toInt,(cs.getD 39 .dead).toInt,(cs.getD 40 .dead).toInt,(cs.getD 41 .dead).toStr⟩:fw),(⟨(cs.getD 42 .dead).toInt,(cs.getD 43 .dead).toInt,(cs.getD 44 .dead).toBool,(cs.getD 45 .dead).toInt,(cs.getD 46 .dead).toBool,(cs.getD 47 .dead).toInt⟩:gw),(⟨(cs.getD 48 .dead).toInt,(cs.getD 49 .dead).toInt⟩:gl),(cs.getD 50 .dead).toInt,(cs.getD 51 .dead).toBool,(cs.getD 52 .dead).toBool⟩:bd),s1⟩:fg)
def fg.of(cs:List D):fg:=fg.iz cs (cf .u32 (cs.getD 29 .dead)) (cf .i64 (cs.getD 53 .dead))
def dw.cj(x:dw)(s0 s1 s2 s3 s4 s5 s6 s7 s8 s9 Bk:D):List D:=[.int .i64 x.A1.A4,.int .u32 x.A1.A0.B4.X.a0,.int .u32 x.A1.A0.B4.X.a1,.int .u32 x.A1.A0.B4.X.a2,.int .u32 x.A1.A0.B4.X.a3,.int .u32 x.A1.A0.B4.X.a4,.int .u32 x.A1.A0.B4.X.a5,.int .u32 x.A1.A0.B4.X.a6,.int .u32 x.A1.A0.B4.X.a7,.int .u32 x.A1.A0.B4.X.a8,.int .u32 x.A1.A0.B4.X.a9,.int .u32 x.A1.A0.B4.X.kv,.int .u32 x.A1.A0.B4.X.ky,.int .u32 x.A1.A0.B4.X.a12,.int .u32 x.A1.A0.B4.X.kz,.int .u32 x.A1.A0.B4.X.kA,.int .u32 x.A1.A0.B4.X.kB,.int .u32 x.A1.A0.B4.Pc,.int .u32 x.A1.A0.B4.C2.a0,.int .u32 x.A1.A0.B4.C2.a1,.int .u32 x.A1.A0.B4.C2.a2,.int .u32 x.A1.A0.B4.C2.a3,.int .u32 x.A1.A0.B4.C2.a4,.int .u32 x.A1.A0.B4.C2.a5,.int .u32 x.A1.A0.B4.C2.a6,.int .u32 x.A1.A0.B4.C2.a7,s0,.str x.A1.A0.B2.D9,.bool x.A1.A0.B8.F0,.int .u32 x.A1.A0.B8.D3,.bool x.A1.A0.B8.E0,.int .u32 x.A1.A0.B5.ae,.int .u32 x.A1.A0.B5.C9,.int .u32 x.A1.A0.B5.Frame,.int .i64 x.A1.A0.B5.C8,.int .i64 x.A1.A0.B5.F6,.int .u32 x.A1.A0.B5.C5,.int .u32 x.A1.A0.B5.C6,.str x.A1.A0.B5.C7,.int .u32 x.A1.A0.D2.Frame,.int .u32 x.A1.A0.D2.F7,.bool x.A1.A0.D2.D1,.int .u32 x.A1.A0.D2.D4,.bool x.A1.A0.D2.C4,.int .u32 x.A1.A0.D2.F9,.int .u32 x.A1.A0.A6.A2,.int .u32 x.A1.A0.A6.D0,.int .u64 x.A1.A0.B7,.bool x.A1.A0.B3,.bool x.A1.A0.B6,s1,.int .i64 x.A1.B1.B9,.int .i64 x.A1.B1.D6,s2,s3,.int .u64 x.A1.D5,.int .i64 x.A2.A4,.int .u32 x.A2.A0.B4.X.a0,.int .u32 x.A2.A0.B4.X.a1,.int .u32 x.A2.A0.B4.X.a2,.int .u32 x.A2.A0.B4.X.a3,.int .u32 x.A2.A0.B4.X.a4,.int .u32 x.A2.A0.B4.X.a5,.int .u32 x.A2.A0.B4.X.a6,.int .u32 x.A2.A0.B4.X.a7,.int .u32 x.A2.A0.B4.X.a8,.int .u32 x.A2.A0.B4.X.a9,.int .u32 x.A2.A0.B4.X.kv,.int .u32 x.A2.A0.B4.X.ky,.int .u32 x.A2.A0.B4.X.a12,.int .u32 x.A2.A0.B4.X.kz,.int .u32 x.A2.A0.B4.X.kA,.int .u32 x.A2.A0.B4.X.kB,.int .u32 x.A2.A0.B4.Pc,.int .u32 x.A2.A0.B4.C2.a0,.int .u32 x.A2.A0.B4.C2.a1,.int .u32 x.A2.A0.B4.C2.a2,.int .u32 x.A2.A0.B4.C2.a3,.int .u32 x.A2.A0.B4.C2.a4,.int .u32 x.A2.A0.B4.C2.a5,.int .u32 x.A2.A0.B4.C2.a6,.int .u32 x.A2.A0.B4.C2.a7,s4,.str x.A2.A0.B2.D9,.bool x.A2.A0.B8.F0,.int .u32 x.A2.A0.B8.D3,.bool x.A2.A0.B8.E0,.int .u32 x.A2.A0.B5.ae,.int .u32 x.A2.A0.B5.C9,.int .u32 x.A2.A0.B5.Frame,.int .i64 x.A2.A0.B5.C8,.int .i64 x.A2.A0.B5.F6,.int .u32 x.A2.A0.B5.C5,.int .u32 x.A2.A0.B5.C6,.str x.A2.A0.B5.C7,.int .u32 x.A2.A0.D2.Frame,.int .u32 x.A2.A0.D2.F7,.bool x.A2.A0.D2.D1,.int .u32 x.A2.A0.D2.D4,.bool x.A2.A0.D2.C4,.int .u32 x.A2.A0.D2.F9,.int .u32 x.A2.A0.A6.A2,.int .u32 x.A2.A0.A6.D0,.int .u64 x.A2.A0.B7,.bool x.A2.A0.B3,.bool x.A2.A0.B6,s5,.int .i64 x.A2.B1.B9,.int .i64 x.A2.B1.D6,s6,s7,.int .u64 x.A2.D5,s8,s9,Bk,.int .u64 x.A9.D5,.int .i64 x.A9.D7]
def dw.cells(x:dw):List D:=dw.cj x (.sl 1 (.ints .u32 x.A1.A0.Mem) false) (.sl 1 (.ag x.A1.B1.B0) false) (.sl 1 (.ints .i64 x.A1.A3) false) (.sl 1 (.ints .i64 x.A1.C0) false) (.sl 1 (.ints .u32 x.A2.A0.Mem) false) (.sl 1 (.ag x.A2.B1.B0) false) (.sl 1 (.ints .i64 x.A2.A3) false) (.sl 1 (.ints .i64 x.A2.C0) false) (.sl 54 (.ah .aa x.A7) false) (.sl 54 (.ah .aa x.C1) false) (.sl 1 (.ah .str x.A9.ae) false)
def dw.iz(cs:List D)(s0:List Int)(s1:List Bool)(s2 s3 s4:List Int)(s5:List Bool)(s6 s7:List Int)(s8 s9:List fg)(Bk:List (List UInt8)):dw:=(⟨(⟨(cs.getD 0 .dead).toInt,(⟨(⟨(⟨(cs.getD 1 .dead).toInt,(cs.getD 2 .dead).toInt,(cs.getD 3 .dead).toInt,(cs.getD 4 .dead).toInt,(cs.getD 5 .dead).toInt,(cs.getD 6 .dead).toInt,(cs.getD 7 .dead).toInt,(cs.getD 8 .dead).toInt,(cs.getD 9 .dead).toInt,(cs.getD 10 .dead).toInt,(cs.getD 11 .dead).toInt,(cs.getD 12 .dead).toInt,(cs.getD 13 .dead).toInt,(cs.getD 14 .dead).toInt,(cs.getD 15 .dead).toInt,(cs.getD 16 .dead).toInt⟩:(iv Int)),(cs.getD 17 .dead).toInt,(⟨(cs.getD 18 .dead).toInt,(cs.getD 19 .dead).toInt,(cs.getD 20 .dead).toInt,(cs.getD 21 .dead).toInt,(cs.getD 22 .dead).toInt,(cs.getD 23 .dead).toInt,(cs.getD 24 .dead).toInt,(cs.getD 25 .dead).toInt⟩:(A8 Int))⟩:bq),s0,(⟨(cs.getD 27 .dead).toStr⟩:iK),(⟨(cs.getD 28 .dead).toBool,(cs.getD 29 .dead).toInt,(cs.getD 30 .dead).toBool⟩:iT),(⟨(cs.getD 31 .dead).toInt,(cs.getD 32 .dead).toInt,(cs.getD 33 .dead).toInt,(cs.getD 34 .dead).toInt,(cs.getD 35 .dead).toInt,(cs.getD 36 .dead).toInt,(cs.getD 37 .dead).toInt,(cs.getD 38 .dead).toStr⟩:fw),(⟨(cs.getD 39 .dead).toInt,(cs.getD 40 .dead).toInt,(cs.getD 41 .dead).toBool,(cs.getD 42 .dead).toInt,(cs.getD 43 .dead).toBool,(cs.getD 44 .dead).toInt⟩:gw),(⟨(cs.getD 45 .dead).toInt,(cs.getD 46 .dead).toInt⟩:gl),(cs.getD 47 .dead).toInt,(cs.getD 48 .dead).toBool,(cs.getD 49 .dead).toBool⟩:bd),(⟨s1,(cs.getD 51 .dead).toInt,(cs.getD 52 .dead).toInt⟩:gb),s2,s3,(cs.getD 55 .dead).toInt⟩:il),(⟨(cs.getD 56 .dead).toInt,(⟨(⟨(⟨(cs.getD 57 .dead).toInt,(cs.getD 58 .dead).toInt,(cs.getD 59 .dead).toInt,(cs.getD 60 .dead).toInt,(cs.getD 61 .dead).toInt,(cs.getD 62 .dead).toInt,(cs.getD 63 .dead).toInt,(cs.getD 64 .dead).toInt,(cs.getD 65 .dead).toInt,(cs.getD 66 .dead).toInt,(cs.getD 67 .dead).toInt,(cs.getD 68 .dead).toInt,(cs.getD 69 .dead).toInt,(cs.getD 70 .dead).toInt,(cs.getD 71 .dead).toInt,(cs.getD 72 .dead).toInt⟩:(iv Int)),(cs.getD 73 .dead).toInt,(⟨(cs.getD 74 .dead).toInt,(cs.getD 75 .dead).toInt,(cs.getD 76 .dead).toInt,(cs.getD 77 .dead).toInt,(cs.getD 78 .dead).toInt,(cs.getD 79 .dead).toInt,(cs.getD 80 .dead).toInt,(cs.getD 81 .dead).toInt⟩:(A8 Int))⟩:bq),s4,(⟨(cs.getD 83 .dead).toStr⟩:iK),(⟨(cs.getD 84 .dead).toBool,(cs.getD 85 .dead).toInt,(cs.getD 86 .dead).toBool⟩:iT),(⟨(cs.getD 87 .dead).toInt,(cs.getD 88 .dead).toInt,(cs.getD 89 .dead).toInt,(cs.getD 90 .dead).toInt,(cs.getD 91 .dead).toInt,(cs.getD 92 .dead).toInt,(cs.getD 93 .dead).toInt,(cs.getD 94 .dead).toStr⟩:fw),(⟨(cs.getD 95 .dead).toInt,(cs.getD 96 .dead).toInt,(cs.getD 97 .dead).toBool,(cs.getD 98 .dead).toInt,(cs.getD 99 .dead).toBool,(cs.getD 100 .dead).toInt⟩:gw),(⟨(cs.getD 101 .dead).toInt,(cs.getD 102 .dead).toInt⟩:gl),(cs.getD 103 .dead).toInt,(cs.getD 104 .dead).toBool,(cs.getD 105 .dead).toBool⟩:bd),(⟨s5,(cs.getD 107 .dead).toInt,(cs.getD 108 .dead).toInt⟩:gb),s6,s7,(cs.getD 111 .dead).toInt⟩:il),s8,s9,(⟨Bk,(cs.getD 115 .dead).toInt,(cs.getD 116 .dead).toInt⟩:iL)⟩:dw)
def dw.of(cs:List D):dw:=dw.iz cs (cf .u32 (cs.getD 26 .dead)) (eu (cs.getD 50 .dead)) (cf .i64 (cs.getD 53 .dead)) (cf .i64 (cs.getD 54 .dead)) (cf .u32 (cs.getD 82 .dead)) (eu (cs.getD 106 .dead)) (cf .i64 (cs.getD 109 .dead)) (cf .i64 (cs.getD 110 .dead)) (iM .aa (cs.getD 112 .dead)) (iM .aa (cs.getD 113 .dead)) (iM .str (cs.getD 114 .dead))
def jU.cells(x:jU):List D:=[.int .i64 x.C3,.int .i64 x.N,.bool x.C1,.int .u32 x.F2]
def jU.of(cs:List D):jU:=(⟨(cs.getD 0 .dead).toInt,(cs.getD 1 .dead).toInt,(cs.getD 2 .dead).toBool,(cs.getD 3 .dead).toInt⟩:jU)
def de.cj(x:de)(s0 s1 s2 s3 s4 s5 s6 s7 s8 s9 Bk:D):List D:=[.int .i64 x.A1.A4,.int .u32 x.A1.A0.B4.X.a0,.int .u32 x.A1.A0.B4.X.a1,.int .u32 x.A1.A0.B4.X.a2,.int .u32 x.A1.A0.B4.X.a3,.int .u32 x.A1.A0.B4.X.a4,.int .u32 x.A1.A0.B4.X.a5,.int .u32 x.A1.A0.B4.X.a6,.int .u32 x.A1.A0.B4.X.a7,.int .u32 x.A1.A0.B4.X.a8,.int .u32 x.A1.A0.B4.X.a9,.int .u32 x.A1.A0.B4.X.kv,.int .u32 x.A1.A0.B4.X.ky,.int .u32 x.A1.A0.B4.X.a12,.int .u32 x.A1.A0.B4.X.kz,.int .u32 x.A1.A0.B4.X.kA,.int .u32 x.A1.A0.B4.X.kB,.int .u32 x.A1.A0.B4.Pc,.int .u32 x.A1.A0.B4.C2.a0,.int .u32 x.A1.A0.B4.C2.a1,.int .u32 x.A1.A0.B4.C2.a2,.int .u32 x.A1.A0.B4.C2.a3,.int .u32 x.A1.A0.B4.C2.a4,.int .u32 x.A1.A0.B4.C2.a5,.int .u32 x.A1.A0.B4.C2.a6,.int .u32 x.A1.A0.B4.C2.a7,s0,.str x.A1.A0.B2.D9,.bool x.A1.A0.B8.F0,.int .u32 x.A1.A0.B8.D3,.bool x.A1.A0.B8.E0,.int .u32 x.A1.A0.B5.ae,.int .u32 x.A1.A0.B5.C9,.int .u32 x.A1.A0.B5.Frame,.int .i64 x.A1.A0.B5.C8,.int .i64 x.A1.A0.B5.F6,.int .u32 x.A1.A0.B5.C5,.int .u32 x.A1.A0.B5.C6,.str x.A1.A0.B5.C7,.int .u32 x.A1.A0.D2.Frame,.int .u32 x.A1.A0.D2.F7,.bool x.A1.A0.D2.D1,.int .u32 x.A1.A0.D2.D4,.bool x.A1.A0.D2.C4,.int .u32 x.A1.A0.D2.F9,.int .u32 x.A1.A0.A6.A2,.int .u32 x.A1.A0.A6.D0,.int .u64 x.A1.A0.B7,.bool x.A1.A0.B3,.bool x.A1.A0.B6,s1,.int .i64 x.A1.B1.B9,.int .i64 x.A1.B1.D6,s2,s3,.int .u64 x.A1.D5,.int .i64 x.A2.A4,.int .u32 x.A2.A0.B4.X.a0,.int .u32 x.A2.A0.B4.X.a1,.int .u32 x.A2.A0.B4.X.a2,.int .u32 x.A2.A0.B4.X.a3,.int .u32 x.A2.A0.B4.X.a4,.int .u32 x.A2.A0.B4.X.a5,.int .u32 x.A2.A0.B4.X.a6,.int .u32 x.A2.A0.B4.X.a7,.int .u32 x.A2.A0.B4.X.a8,.int .u32 x.A2.A0.B4.X.a9,.int .u32 x.A2.A0.B4.X.kv,.int .u32 x.A2.A0.B4.X.ky,.int .u32 x.A2.A0.B4.X.a12,.int .u32 x.A2.A0.B4.X.kz,.int .u32 x.A2.A0.B4.X.kA,.int .u32 x.A2.A0.B4.X.kB,.int .u32 x.A2.A0.B4.Pc,.int .u32 x.A2.A0.B4.C2.a0,.int .u32 x.A2.A0.B4.C2.a1,.int .u32 x.A2.A0.B4.C2.a2,.int .u32 x.A2.A0.B4.C2.a3,.int .u32 x.A2.A0.B4.C2.a4,.int .u32 x.A2.A0.B4.C2.a5,.int .u32 x.A2.A0.B4.C2.a6,.int .u32 x.A2.A0.B4.C2.a7,s4,.str x.A2.A0.B2.D9,.bool x.A2.A0.B8.F0,.int .u32 x.A2.A0.B8.D3,.bool x.A2.A0.B8.E0,.int .u32 x.A2.A0.B5.ae,.int .u32 x.A2.A0.B5.C9,.int .u32 x.A2.A0.B5.Frame,.int .i64 x.A2.A0.B5.C8,.int .i64 x.A2.A0.B5.F6,.int .u32 x.A2.A0.B5.C5,.int .u32 x.A2.A0.B5.C6,.str x.A2.A0.B5.C7,.int .u32 x.A2.A0.D2.Frame,.int .u32 x.A2.A0.D2.F7,.bool x.A2.A0.D2.D1,.int .u32 x.A2.A0.D2.D4,.bool x.A2.A0.D2.C4,.int .u32 x.A2.A0.D2.F9,.int .u32 x.A2.A0.A6.A2,.int .u32 x.A2.A0.A6.D0,.int .u64 x.A2.A0.B7,.bool x.A2.A0.B3,.bool x.A2.A0.B6,s5,.int .i64 x.A2.B1.B9,.int .i64 x.A2.B1.D6,s6,s7,.int .u64 x.A2.D5,s8,s9,Bk,.int .u64 x.A9.D5,.int .i64 x.A9.D7]
def de.cells(x:de):List D:=de.cj x (.sl 1 (.ints .u32 x.A1.A0.Mem) false) (.sl 1 (.ag x.A1.B1.B0) false) (.sl 1 (.ints .i64 x.A1.A3) false) (.sl 1 (.ints .i64 x.A1.C0) false) (.sl 1 (.ints .u32 x.A2.A0.Mem) false) (.sl 1 (.ag x.A2.B1.B0) false) (.sl 1 (.ints .i64 x.A2.A3) false) (.sl 1 (.ints .i64 x.A2.C0) false) (.sl 54 (.ah .aa x.A7) false) (.sl 54 (.ah .aa x.C1) false) (.sl 1 (.ah .str x.A9.ae) false)
def de.iz(cs:List D)(s0:List Int)(s1:List Bool)(s2 s3 s4:List Int)(s5:List Bool)(s6 s7:List Int)(s8 s9:List fg)(Bk:List (List UInt8)):de:=(⟨(⟨(cs.getD 0 .dead).toInt,(⟨(⟨(⟨(cs.getD 1 .dead).toInt,(cs.getD 2 .dead).toInt,(cs.getD 3 .dead).toInt,(cs.getD 4 .dead).toInt,(cs.getD 5 .dead).toInt,(cs.getD 6 .dead).toInt,(cs.getD 7 .dead).toInt,(cs.getD 8 .dead).toInt,(cs.getD 9 .dead).toInt,(cs.getD 10 .dead).toInt,(cs.getD 11 .dead).toInt,(cs.getD 12 .dead).toInt,(cs.getD 13 .dead).toInt,(cs.getD 14 .dead).toInt,(cs.getD 15 .dead).toInt,(cs.getD 16 .dead).toInt⟩:(iv Int)),(cs.getD 17 .dead).toInt,(⟨(cs.getD 18 .dead).toInt,(cs.getD 19 .dead).toInt,(cs.getD 20 .dead).toInt,(cs.getD 21 .dead).toInt,(cs.getD 22 .dead).toInt,(cs.getD 23 .dead).toInt,(cs.getD 24 .dead).toInt,(cs.getD 25 .dead).toInt⟩:(A8 Int))⟩:bq),s0,(⟨(cs.getD 27 .dead).toStr⟩:iK),(⟨(cs.getD 28 .dead).toBool,(cs.getD 29 .dead).toInt,(cs.getD 30 .dead).toBool⟩:iT),(⟨(cs.getD 31 .dead).toInt,(cs.getD 32 .dead).toInt,(cs.getD 33 .dead).toInt,(cs.getD 34 .dead).toInt,(cs.getD 35 .dead).toInt,(cs.getD 36 .dead).toInt,(cs.getD 37 .dead).toInt,(cs.getD 38 .dead).toStr⟩:fw),(⟨(cs.getD 39 .dead).toInt,(cs.getD 40 .dead).toInt,(cs.getD 41 .dead).toBool,(cs.getD 42 .dead).toInt,(cs.getD 43 .dead).toBool,(cs.getD 44 .dead).toInt⟩:gw),(⟨(cs.getD 45 .dead).toInt,(cs.getD 46 .dead).toInt⟩:gl),(cs.getD 47 .dead).toInt,(cs.getD 48 .dead).toBool,(cs.getD 49 .dead).toBool⟩:bd),(⟨s1,(cs.getD 51 .dead).toInt,(cs.getD 52 .dead).toInt⟩:gb),s2,s3,(cs.getD 55 .dead).toInt⟩:il),(⟨(cs.getD 56 .dead).toInt,(⟨(⟨(⟨(cs.getD 57 .dead).toInt,(cs.getD 58 .dead).toInt,(cs.getD 59 .dead).toInt,(cs.getD 60 .dead).toInt,(cs.getD 61 .dead).toInt,(cs.getD 62 .dead).toInt,(cs.getD 63 .dead).toInt,(cs.getD 64 .dead).toInt,(cs.getD 65 .dead).toInt,(cs.getD 66 .dead).toInt,(cs.getD 67 .dead).toInt,(cs.getD 68 .dead).toInt,(cs.getD 69 .dead).toInt,(cs.getD 70 .dead).toInt,(cs.getD 71 .dead).toInt,(cs.getD 72 .dead).toInt⟩:(iv Int)),(cs.getD 73 .dead).toInt,(⟨(cs.getD 74 .dead).toInt,(cs.getD 75 .dead).toInt,(cs.getD 76 .dead).toInt,(cs.getD 77 .dead).toInt,(cs.getD 78 .dead).toInt,(cs.getD 79 .dead).toInt,(cs.getD 80 .dead).toInt,(cs.getD 81 .dead).toInt⟩:(A8 Int))⟩:bq),s4,(⟨(cs.getD 83 .dead).toStr⟩:iK),(⟨(cs.getD 84 .dead).toBool,(cs.getD 85 .dead).toInt,(cs.getD 86 .dead).toBool⟩:iT),(⟨(cs.getD 87 .dead).toInt,(cs.getD 88 .dead).toInt,(cs.getD 89 .dead).toInt,(cs.getD 90 .dead).toInt,(cs.getD 91 .dead).toInt,(cs.getD 92 .dead).toInt,(cs.getD 93 .dead).toInt,(cs.getD 94 .dead).toStr⟩:fw),(⟨(cs.getD 95 .dead).toInt,(cs.getD 96 .dead).toInt,(cs.getD 97 .dead).toBool,(cs.getD 98 .dead).toInt,(cs.getD 99 .dead).toBool,(cs.getD 100 .dead).toInt⟩:gw),(⟨(cs.getD 101 .dead).toInt,(cs.getD 102 .dead).toInt⟩:gl),(cs.getD 103 .dead).toInt,(cs.getD 104 .dead).toBool,(cs.getD 105 .dead).toBool⟩:bd),(⟨s5,(cs.getD 107 .dead).toInt,(cs.getD 108 .dead).toInt⟩:gb),s6,s7,(cs.getD 111 .dead).toInt⟩:il),s8,s9,(⟨Bk,(cs.getD 115 .dead).toInt,(cs.getD 116 .dead).toInt⟩:iL)⟩:de)
def de.of(cs:List D):de:=de.iz cs (cf .u32 (cs.getD 26 .dead)) (eu (cs.getD 50 .dead)) (cf .i64 (cs.getD 53 .dead)) (cf .i64 (cs.getD 54 .dead)) (cf .u32 (cs.getD 82 .dead)) (eu (cs.getD 106 .dead)) (cf .i64 (cs.getD 109 .dead)) (cf .i64 (cs.getD 110 .dead)) (iM .aa (cs.getD 112 .dead)) (iM .aa (cs.getD 113 .dead)) (iM .str (cs.getD 114 .dead))
def sY.cells(x:sY):List D:=[.int .i64 x.wN,.int .i64 x.nj]
def sY.of(cs:List D):sY:=(⟨(cs.getD 0 .dead).toInt,(cs.getD 1 .dead).toInt⟩:sY)
def kP.cells(x:kP):List D:=[.int .i64 x.Frame,.str x.F1]
def kP.of(cs:List D):kP:=(⟨(cs.getD 0 .dead).toInt,(cs.getD 1 .dead).toStr⟩:kP)
def lj.cells(x:lj):List D:=[.int .i64 x.C3,.int .i64 x.D8,.int .i64 x.F8,.int .u32 x.Value]
def lj.of(cs:List D):lj:=(⟨(cs.getD 0 .dead).toInt,(cs.getD 1 .dead).toInt,(cs.getD 2 .dead).toInt,(cs.getD 3 .dead).toInt⟩:lj)
def nk.cells(x:nk):List D:=[.int .i64 x.kj,.int .i64 x.num,.str x.label]
def nk.of(cs:List D):nk:=(⟨(cs.getD 0 .dead).toInt,(cs.getD 1 .dead).toInt,(cs.getD 2 .dead).toStr⟩:nk)
def kd.cj(x:kd)(s0:D):List D:=[.str x.ea,.int .i64 x.op,s0,.int .i64 x.F4,.int .i64 x.at_,.int .i64 x.size]
def kd.cells(x:kd):List D:=kd.cj x (.sl 3 (.ah .aw x.l) false)
def kd.iz(cs:List D)(s0:List nk):kd:=(⟨(cs.getD 0 .dead).toStr,(cs.getD 1 .dead).toInt,s0,(cs.getD 3 .dead).toInt,(cs.getD 4 .dead).toInt,(cs.getD 5 .dead).toInt⟩:kd)
def kd.of(cs:List D):kd:=kd.iz cs (iM .aw (cs.getD 2 .dead))
def gv.cells(x:gv):List D:=[.int .i64 x.Op,.int .i64 x.A,.int .i64 x.B,.int .i64 x.C,.int .i32 x.bz]
def gv.of(cs:List D):gv:=(⟨(cs.getD 0 .dead).toInt,(cs.getD 1 .dead).toInt,(cs.getD 2 .dead).toInt,(cs.getD 3 .dead).toInt,(cs.getD 4 .dead).toInt⟩:gv)
def uO.cells(x:uO):List D:=[.int .i64 x.C3,.int .u32 x.N,.str x.F1]
def uO.of(cs:List D):uO:=(⟨(cs.getD 0 .dead).toInt,(cs.getD 1 .dead).toInt,(cs.getD 2 .dead).toStr⟩:uO)
def py.cells(x:py):List D:=[.int .u64 x.At,.int .i64 x.Event.C3,.int .u32 x.Event.N,.str x.Event.F1]
def py.of(cs:List D):py:=(⟨(cs.getD 0 .dead).toInt,(⟨(cs.getD 1 .dead).toInt,(cs.getD 2 .dead).toInt,(cs.getD 3 .dead).toStr⟩:uO)⟩:py)
def ik.cells(x:ik):List D:=[.int .i64 x.C3,.int .u64 x.At,.int .u32 x.C9,.str x.F1]
def ik.of(cs:List D):ik:=(⟨(cs.getD 0 .dead).toInt,(cs.getD 1 .dead).toInt,(cs.getD 2 .dead).toInt,(cs.getD 3 .dead).toStr⟩:ik)
def nQ.cells(x:nQ):List D:=[.str x.Name,.int .u32 x.Addr]
def nQ.of(cs:List D):nQ:=(⟨(cs.getD 0 .dead).toStr,(cs.getD 1 .dead).toInt⟩:nQ)
def rj.cells(x:rj):List D:=[.int .u32 x.Addr,.int .u32 x.G1,.int .i64 x.G0]
def rj.of(cs:List D):rj:=(⟨(cs.getD 0 .dead).toInt,(cs.getD 1 .dead).toInt,(cs.getD 2 .dead).toInt⟩:rj)
def kQ.cells(x:kQ):List D:=[.int .i64 x.kind,.str x.F3,.bool x.wO]
def kQ.of(cs:List D):kQ:=(⟨(cs.getD 0 .dead).toInt,(cs.getD 1 .dead).toStr,(cs.getD 2 .dead).toBool⟩:kQ)
def wP.cells(x:wP):List D:=[.bool x.a,.bool x.b,.bool x.c,.int .i32 x.low,.int .i32 x.F5]
def wP.of(cs:List D):wP:=(⟨(cs.getD 0 .dead).toBool,(cs.getD 1 .dead).toBool,(cs.getD 2 .dead).toBool,(cs.getD 3 .dead).toInt,(cs.getD 4 .dead).toInt⟩:wP)
def RK.size:RK->Nat
 |.bw=>4
 |.aa=>54
 |.str=>1
 |.bu=>4
 |.bn=>2
 |.dm=>2
 |.ak=>6
 |.aw=>3
 |.fc=>4
 |.av=>3
def Dd:CT->D->D
 |.int k,d=>.int k d.toInt
 |.bool,d=>.bool d.toBool
 |.str,d=>.str d.toStr
 |.ints k,d=>.sl 1 (.ints k (cf k d)) false
 |.ag,d=>.sl 1 (.ag (eu d)) false
 |.ah k,d=>.sl k.size (.ah k (iM k d)) false
 |.row i,_=>.all i
 |.nil,_=>.sl 0 (.gen []) false
 |.HC,_=>.c9
 |.self i,_=>.ga i
 |.pt i o f,_=>.ptr i o f
 |.gj f cs,_=>.gj f cs
def uP:List CT->List D->Nat->List D
 |[],_,_=>[]
 |t::ts,cs,j=>Dd t (cs.getD j .dead)::uP ts cs (j+1)
def bq.sig:List CT:=[.int .u32,.int .u32,.int .u32,.int .u32,.int .u32,.int .u32,.int .u32,.int .u32,.int .u32,.int .u32,.int .u32,.int .u32,.int .u32,.int .u32,.int .u32,.int .u32,.int .u32,.int .u32,.int .u32,.int .u32,.int .u32,.int .u32,.int .u32,.int .u32,.int .u32]
def iK.sig:List CT:=[.str]
def iT.sig:List CT:=[.bool,.int .u32,.bool]
def fw.sig:List CT:=[.int .u32,.int .u32,.int .u32,.int .i64,.int .i64,.int .u32,.int .u32,.str]
def gw.sig:List CT:=[.int .u32,.int .u32,.bool,.int .u32,.bool,.int .u32]
def gl.sig:List CT:=[.int .u32,.int .u32]
def bd.ic(s0:CT):List CT:=[.int .u32,.int .u32,.int .u32,.int .u32,.int .u32,.int .u32,.int .u32,.int .u32,.int .u32,.int .u32,.int .u32,.int .u32,.int .u32,.int .u32,.int .u32,.int .u32,.int .u32,.int .u32,.int .u32,.int .u32,.int .u32,.int .u32,.int .u32,.int .u32,.int .u32,s0,.str,.bool,.int .u32,.bool,.int .u32,.int .u32,.int .u32,.int .i64,.int .i64,.int .u32,.int .u32,.str,.int .u32,.int .u32,.bool,.int .u32,.bool,.int .u32,.int .u32,.int .u32,.int .u64,.bool,.bool]
def bd.sig:List CT:=bd.ic (.ints .u32)
def gb.ic(s0:CT):List CT:=[s0,.int .i64,.int .i64]
def gb.sig:List CT:=gb.ic (.ag)
def il.ic(s0 s1 s2 s3:CT):List CT:=[.int .i64,.int .u32,.int .u32,.int .u32,.int .u32,.int .u32,.int .u32,.int .u32,.int .u32,.int .u32,.int .u32,.int .u32,.int .u32,.int .u32,.int .u32,.int .u32,.int .u32,.int .u32,.int .u32,.int .u32,.int .u32,.int .u32,.int .u32,.int .u32,.int .u32,.int .u32,s0,.str,.bool,.int .u32,.bool,.int .u32,.int .u32,.int .u32,.int .i64,.int .i64,.int .u32,.int .u32,.str,.int .u32,.int .u32,.bool,.int .u32,.bool,.int .u32,.int .u32,.int .u32,.int .u64,.bool,.bool,s1,.int .i64,.int .i64,s2,s3,.int .u64]
def il.sig:List CT:=il.ic (.ints .u32) (.ag) (.ints .i64) (.ints .i64)
def iL.ic(s0:CT):List CT:=[s0,.int .u64,.int .i64]
def iL.sig:List CT:=iL.ic (.ah .str)
def fg.ic(s0 s1:CT):List CT:=[.int .i64,.int .i64,.int .i64,.str,.int .u32,.int .u32,.int .u32,.int .u32,.int .u32,.int .u32,.int .u32,.int .u32,.int .u32,.int .u32,.int .u32,.int .u32,.int .u32,.int .u32,.int .u32,.int .u32,.int .u32,.int .u32,.int .u32,.int .u32,.int .u32,.int .u32,.int .u32,.int .u32,.int .u32,s0,.str,.bool,.int .u32,.bool,.int .u32,.int .u32,.int .u32,.int .i64,.int .i64,.int .u32,.int .u32,.str,.int .u32,.int .u32,.bool,.int .u32,.bool,.int .u32,.int .u32,.int .u32,.int .u64,.bool,.bool,s1]
def fg.sig:List CT:=fg.ic (.ints .u32) (.ints .i64)
def dw.ic(s0 s1 s2 s3 s4 s5 s6 s7 s8 s9 Bk:CT):List CT:=[.int .i64,.int .u32,.int .u32,.int .u32,.int .u32,.int .u32,.int .u32,.int .u32,.int .u32,.int .u32,.int .u32,.int .u32,.int .u32,.int .u32,.int .u32,.int .u32,.int .u32,.int .u32,.int .u32,.int .u32,.int .u32,.int .u32,.int .u32,.int .u32,.int .u32,.int .u32,s0,.str,.bool,.int .u32,.bool,.int .u32,.int .u32,.int .u32,.int .i64,.int .i64,.int .u32,.int .u32,.str,.int .u32,.int .u32,.bool,.int .u32,.bool,.int .u32,.int .u32,.int .u32,.int .u64,.bool,.bool,s1,.int .i64,.int .i64,s2,s3,.int .u64,.int .i64,.int .u32,.int .u32,.int .u32,.int .u32,.int .u32,.int .u32,.int .u32,.int .u32,.int .u32,.int .u32,.int .u32,.int .u32,.int .u32,.int .u32,.int .u32,.int .u32,.int .u32,.int .u32,.int .u32,.int .u32,.int .u32,.int .u32,.int .u32,.int .u32,.int .u32,s4,.str,.bool,.int .u32,.bool,.int .u32,.int .u32,.int .u32,.int .i64,.int .i64,.int .u32,.int .u32,.str,.int .u32,.int .u32,.bool,.int .u32,.bool,.int .u32,.int .u32,.int .u32,.int .u64,.bool,.bool,s5,.int .i64,.int .i64,s6,s7,.int .u64,s8,s9,Bk,.int .u64,.int .i64]
def dw.sig:List CT:=dw.ic (.ints .u32) (.ag) (.ints .i64) (.ints .i64) (.ints .u32) (.ag) (.ints .i64) (.ints .i64) (.ah .aa) (.ah .aa) (.ah .str)
def jU.sig:List CT:=[.int .i64,.int .i64,.bool,.int .u32]
def de.ic(s0 s1 s2 s3 s4 s5 s6 s7 s8 s9 Bk:CT):List CT:=[.int .i64,.int .u32,.int .u32,.int .u32,.int .u32,.int .u32,.int .u32,.int .u32,.int .u32,.int .u32,.int .u32,.int .u32,.int .u32,.int .u32,.int .u32,.int .u32,.int .u32,.int .u32,.int .u32,.int .u32,.int .u32,.int .u32,.int .u32,.int .u32,.int .u32,.int .u32,s0,.str,.bool,.int .u32,.bool,.int .u32,.int .u32,.int .u32,.int .i64,.int .i64,.int .u32,.int .u32,.str,.int .u32,.int .u32,.bool,.int .u32,.bool,.int .u32,.int .u32,.int .u32,.int .u64,.bool,.bool,s1,.int .i64,.int .i64,s2,s3,.int .u64,.int .i64,.int .u32,.int .u32,.int .u32,.int .u32,.int .u32,.int .u32,.int .u32,.int .u32,.int .u32,.int .u32,.int .u32,.int .u32,.int .u32,.int .u32,.int .u32,.int .u32,.int .u32,.int .u32,.int .u32,.int .u32,.int .u32,.int .u32,.int .u32,.int .u32,.int .u32,s4,.str,.bool,.int .u32,.bool,.int .u32,.int .u32,.int .u32,.int .i64,.int .i64,.int .u32,.int .u32,.str,.int .u32,.int .u32,.bool,.int .u32,.bool,.int .u32,.int .u32,.int .u32,.int .u64,.bool,.bool,s5,.int .i64,.int .i64,s6,s7,.int .u64,s8,s9,Bk,.int .u64,.int .i64]
def de.sig:List CT:=de.ic (.ints .u32) (.ag) (.ints .i64) (.ints .i64) (.ints .u32) (.ag) (.ints .i64) (.ints .i64) (.ah .aa) (.ah .aa) (.ah .str)
def sY.sig:List CT:=[.int .i64,.int .i64]
def kP.sig:List CT:=[.int .i64,.str]
def lj.sig:List CT:=[.int .i64,.int .i64,.int .i64,.int .u32]
def nk.sig:List CT:=[.int .i64,.int .i64,.str]
def kd.ic(s0:CT):List CT:=[.str,.int .i64,s0,.int .i64,.int .i64,.int .i64]
def kd.sig:List CT:=kd.ic (.ah .aw)
def gv.sig:List CT:=[.int .i64,.int .i64,.int .i64,.int .i64,.int .i32]
def uO.sig:List CT:=[.int .i64,.int .u32,.str]
def py.sig:List CT:=[.int .u64,.int .i64,.int .u32,.str]
def ik.sig:List CT:=[.int .i64,.int .u64,.int .u32,.str]
def nQ.sig:List CT:=[.str,.int .u32]
def rj.sig:List CT:=[.int .u32,.int .u32,.int .i64]
def kQ.sig:List CT:=[.int .i64,.str,.bool]
def wP.sig:List CT:=[.bool,.bool,.bool,.int .i32,.int .i32]
def RK.sig:RK->List CT
 |.bw=>jU.sig
 |.aa=>fg.sig
 |.str=>[.str]
 |.bu=>ik.sig
 |.bn=>kP.sig
 |.dm=>nQ.sig
 |.ak=>kd.sig
 |.aw=>nk.sig
 |.fc=>py.sig
 |.av=>kQ.sig
def RK.cells:(k:RK)->RK.T k->List D
 |.bw,x=>jU.cells x
 |.aa,x=>fg.cells x
 |.str,x=>[.str x]
 |.bu,x=>ik.cells x
 |.bn,x=>kP.cells x
 |.dm,x=>nQ.cells x
 |.ak,x=>kd.cells x
 |.aw,x=>nk.cells x
 |.fc,x=>py.cells x
 |.av,x=>kQ.cells x
def RK.of:(k:RK)->List D->RK.T k
 |.bw,cs=>jU.of cs
 |.aa,cs=>fg.of cs
 |.str,cs=>(cs.getD 0 .dead).toStr
 |.bu,cs=>ik.of cs
 |.bn,cs=>kP.of cs
 |.dm,cs=>nQ.of cs
 |.ak,cs=>kd.of cs
 |.aw,cs=>nk.of cs
 |.fc,cs=>py.of cs
 |.av,cs=>kQ.of cs
theorem RK.Bl(k:RK)(cs:List D):k.cells (k.of cs)=uP k.sig cs 0:=by cases k<;>kernel_rfl
theorem RK.nS(k:RK)(x:RK.T k):uP k.sig (k.cells x) 0=k.cells x:=by cases k<;>kernel_rfl
theorem RK.tH(k:RK):k.sig.length=k.size:=by cases k<;>rfl
