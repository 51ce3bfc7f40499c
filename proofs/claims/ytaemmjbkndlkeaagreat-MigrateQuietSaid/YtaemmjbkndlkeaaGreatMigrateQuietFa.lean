import Derived.WalkKit
import Derived.KernelRfl
set_option linter.all false
namespace Go.GD
variable {m n:Nat}{p:Prop}
theorem oY{p:Prop}[Decidable p](h:decide p=true):p:=of_decide_eq_true h
theorem oN[Decidable p](h:decide p=false):¬p:=of_decide_eq_false h
theorem dY[Decidable p](h:p):decide p=true:=decide_eq_true h
theorem dN[Decidable p](h:¬p):decide p=false:=decide_eq_false h
theorem bE(h:Nat.beq n m=true):n=m:=Nat.eq_of_beq_eq_true h
theorem lE(h:Nat.ble n m=true):n<=m:=Nat.le_of_ble_eq_true h
theorem aE(a b:Bool):((a&&b)=true)=(a=true/\b=true):=Bool.and_eq_true a b
theorem lA{α:Type}{a b:List α}:(a++b).length=a.length+b.length:=List.length_append
structure A5(α:Type) where
 (a0 a1 a2 a3 a4:α)
 deriving DecidableEq,Inhabited
def A5.l{α:Type}(x:A5 α):List α:=[x.a0,x.a1,x.a2,x.a3,x.a4]
def A5.of{α:Type}(z:α)(l:List α):A5 α:=⟨l.getD 0 z,l.getD 1 z,l.getD 2 z,l.getD 3 z,l.getD 4 z⟩
structure A8(α:Type) where
 (a0 a1 a2 a3 a4 a5 a6 a7:α)
 deriving DecidableEq,Inhabited
def A8.l{α:Type}(x:A8 α):List α:=[x.a0,x.a1,x.a2,x.a3,x.a4,x.a5,x.a6,x.a7]
def A8.of{α:Type}(z:α)(l:List α):A8 α:=⟨l.getD 0 z,l.getD 1 z,l.getD 2 z,l.getD 3 z,l.getD 4 z,l.getD 5 z,l.getD 6 z,l.getD 7 z⟩
structure iu(α:Type) where
 (a0 a1 a2 a3 a4 a5 a6 a7 a8 a9 kr ku a12 kv ky kz:α)
 deriving DecidableEq,Inhabited
def iu.l{α:Type}(x:iu α):List α:=[x.a0,x.a1,x.a2,x.a3,x.a4,x.a5,x.a6,x.a7,x.a8,x.a9,x.kr,x.ku,x.a12,x.kv,x.ky,x.kz]
def iu.of{α:Type}(z:α)(l:List α):iu α:=⟨l.getD 0 z,l.getD 1 z,l.getD 2 z,l.getD 3 z,l.getD 4 z,l.getD 5 z,l.getD 6 z,l.getD 7 z,l.getD 8 z,l.getD 9 z,l.getD 10 z,l.getD 11 z,l.getD 12 z,l.getD 13 z,l.getD 14 z,l.getD 15 z⟩
structure bq where
 X:(iu Int)
 Pc:Int
 C2:(A8 Int)
 deriving DecidableEq,Inhabited
structure iH where
 D9:(List UInt8)
 deriving DecidableEq,Inhabited
structure iW where
 F0:Bool
 D2:Int
 D8:Bool
 deriving DecidableEq,Inhabited
structure fw where
 ab:Int
 C9:Int
 Frame:Int
 C8:Int
 F5:Int
 C5:Int
 C6:Int
 C7:(List UInt8)
 deriving DecidableEq,Inhabited
structure gw where
 Frame:Int
 F7:Int
 D3:Bool
 D4:Int
 C3:Bool
 F8:Int
 deriving DecidableEq,Inhabited
structure gm where
 A2:Int
 D0:Int
 deriving DecidableEq,Inhabited
structure bb where
 B2:bq
 Mem:(List Int)
 B3:iH
 B8:iW
 B5:fw
 D1:gw
 A6:gm
 B7:Int
 B4:Bool
 B6:Bool
 deriving DecidableEq,Inhabited
structure gg where
 B0:(List Bool)
 B9:Int
 D6:Int
 deriving DecidableEq,Inhabited
structure ij where
 A4:Int
 A0:bb
 B1:gg
 A3:(List Int)
 C0:(List Int)
 D5:Int
 deriving DecidableEq,Inhabited
structure iP where
 ab:(List (List UInt8))
 D5:Int
 D7:Int
 deriving DecidableEq,Inhabited
structure fj where
 C4:Int
 B9:Int
 Frame:Int
 F1:(List UInt8)
 A0:bb
 A3:(List Int)
 deriving DecidableEq,Inhabited
structure dv where
 A1:ij
 A2:ij
 A7:(List fj)
 C1:(List fj)
 A9:iP
 deriving DecidableEq,Inhabited
structure kG where
 C4:Int
 N:Int
 C1:Bool
 F6:Int
 deriving DecidableEq,Inhabited
structure de where
 A1:ij
 A2:ij
 A7:(List fj)
 C1:(List fj)
 A9:iP
 deriving DecidableEq,Inhabited
structure tq where
 wY:Int
 ny:Int
 deriving DecidableEq,Inhabited
structure kY where
 Frame:Int
 F1:(List UInt8)
 deriving DecidableEq,Inhabited
structure lz where
 C4:Int
 E0:Int
 F9:Int
 Value:Int
 deriving DecidableEq,Inhabited
structure nz where
 kA:Int
 num:Int
 label:(List UInt8)
 deriving DecidableEq,Inhabited
structure ki where
 ea:(List UInt8)
 op:Int
 l:(List nz)
 F3:Int
 at_:Int
 size:Int
 deriving DecidableEq,Inhabited
structure ia where
 Op:Int
 A:Int
 B:Int
 C:Int
 cf:Int
 deriving DecidableEq,Inhabited
structure uX where
 C4:Int
 N:Int
 F1:(List UInt8)
 deriving DecidableEq,Inhabited
structure pE where
 At:Int
 Event:uX
 deriving DecidableEq,Inhabited
structure ir where
 C4:Int
 At:Int
 C9:Int
 F1:(List UInt8)
 deriving DecidableEq,Inhabited
structure nZ where
 Name:(List UInt8)
 Addr:Int
 deriving DecidableEq,Inhabited
structure rB where
 Addr:Int
 G1:Int
 G0:Int
 deriving DecidableEq,Inhabited
structure kZ where
 kind:Int
 F2:(List UInt8)
 wZ:Bool
 deriving DecidableEq,Inhabited
structure w4 where
 a:Bool
 b:Bool
 c:Bool
 low:Int
 F4:Int
 deriving DecidableEq,Inhabited
inductive RK where
 |bz|aa|str|bu|bn|dm|ak|aw|fg|av
 deriving DecidableEq
@[reducible] def RK.T:RK->Type
 |.bz=>kG
 |.aa=>fj
 |.str=>(List UInt8)
 |.bu=>ir
 |.bn=>kY
 |.dm=>nZ
 |.ak=>ki
 |.aw=>nz
 |.fg=>pE
 |.av=>kZ
def RK.eh:(k:RK)->RK.T k
 |.bz=>(default:kG)
 |.aa=>(default:fj)
 |.str=>(default:List UInt8)
 |.bu=>(default:ir)
 |.bn=>(default:kY)
 |.dm=>(default:nZ)
 |.ak=>(default:ki)
 |.aw=>(default:nz)
 |.fg=>(default:pE)
 |.av=>(default:kZ)
def RK.MR:Nat->Option RK
 |61=>some .bz
 |80=>some .aa
 |9=>some .str
 |232=>some .bu
 |146=>some .bn
 |243=>some .dm
 |177=>some .ak
 |179=>some .aw
 |193=>some .fg
 |290=>some .av
 |_=>none
end Go.GD
namespace Go.GD
open Go
instance (k:RK):Inhabited (RK.T k):=⟨RK.eh k⟩
mutual
inductive D where
 |bool (b:Bool)
 |int (k:IntKind) (n:Int)
 |str (s:List UInt8)
 |sl (sz:Nat) (es:ai) (fr:Bool)
 |all (r:Nat)
 |own (r o n:Nat)
 |ptr (r i off:Nat)
 |pa (r i off len:Nat) (k:Option IntKind) (n:Nat)
 |iv (sz:Nat) (es:ai) (i off:Nat)
 |iI
 |c9
 |emp
 |mM (es:ai)
 |dead
 |gl (f:Nat) (cs:List iD)
 |gh (r:Nat)
 |jI
 |agg (cs:List D)
 |dw (ds:List D)
inductive ai where
 |gen (es:List (List D))
 |ints (k:IntKind) (l:List Int)
 |ag (l:List Bool)
 |ah (k:RK) (l:List (RK.T k))
inductive iD where
 |ptr (r i off:Nat)
 |int (k:IntKind) (n:Int)
 |arr (r:Nat)
 |sl (sz:Nat) (es:ai) (fr:Bool)
 |fn (f:Nat) (ps:List (Nat×Nat×Nat))
end
instance:Inhabited D:=⟨.dead⟩
instance:Inhabited ai:=⟨.gen []⟩
def HM(p:Nat×Nat×Nat):iD:=.ptr p.1 p.2.1 p.2.2
def iD.d:iD->D|.ptr r i off=>.ptr r i off|.int k n=>.int k n|.arr r=>.all r|.sl a b c=>.sl a b c|.fn f ps=>.gl f (ps.map HM)
def D.isInt(k:IntKind):D->Bool|.int j _=>decide (j=k)|_=>false
def D.toInt:D->Int|.int _ n=>n|_=>0
def D.isBool:D->Bool|.bool _=>true|_=>false
def D.toBool:D->Bool|.bool b=>b|_=>false
def D.isStr:D->Bool|.str _=>true|_=>false
def D.toStr:D->List UInt8|.str s=>s|_=>[]
def FP(k k':RK)(l:List (RK.T k)):Option (List (RK.T k')):=if h:k=k' then some (h▸l)else none
theorem VX(k:RK)(l:List (RK.T k)):FP k k l=some l:=by simp[FP]
theorem VY{k k':RK}{l:List (RK.T k)}{m:List (RK.T k')}(h:FP k k' l=some m):∃e:k=k',e▸l=m:=by
 unfold FP at h
 split at h
 ·rename_i e;cases h;exact⟨e,rfl⟩
 ·cases h
def ai.toI(k:IntKind):ai->Option (List Int)
 |.ints k' l=>match decide (k'=k)with|true=>some l|false=>none
 |.gen []=>some []
 |_=>none
def ai.toB:ai->Option (List Bool)
 |.ag l=>some l
 |.gen []=>some []
 |_=>none
def ai.toR(k:RK):ai->Option (List (RK.T k))
 |.ah k' l=>FP k' k l
 |.gen []=>some []
 |_=>none
inductive CT where|int(k:IntKind)|bool|str|ints(k:IntKind)|ag|ah(k:RK)|row(i:Nat)|nil|HN|self(i:Nat)|pt(i o f:Nat)|gl(f:Nat)(cs:List iD)
def bw(k:IntKind):D->List Int|.sl _ E _=>(match E.toI k with|some l=>l|none=>[])|_=>[]
def ey:D->List Bool|.sl _ E _=>(match E.toB with|some l=>l|none=>[])|_=>[]
def iQ(k:RK):D->List (RK.T k)|.sl _ E _=>(match E.toR k with|some l=>l|none=>[])|_=>[]
def bq.cells(x:bq):List D:=[.int .u32 x.X.a0,.int .u32 x.X.a1,.int .u32 x.X.a2,.int .u32 x.X.a3,.int .u32 x.X.a4,.int .u32 x.X.a5,.int .u32 x.X.a6,.int .u32 x.X.a7,.int .u32 x.X.a8,.int .u32 x.X.a9,.int .u32 x.X.kr,.int .u32 x.X.ku,.int .u32 x.X.a12,.int .u32 x.X.kv,.int .u32 x.X.ky,.int .u32 x.X.kz,.int .u32 x.Pc,.int .u32 x.C2.a0,.int .u32 x.C2.a1,.int .u32 x.C2.a2,.int .u32 x.C2.a3,.int .u32 x.C2.a4,.int .u32 x.C2.a5,.int .u32 x.C2.a6,.int .u32 x.C2.a7]
def bq.of(cs:List D):bq:=(⟨(⟨(cs.getD 0 .dead).toInt,(cs.getD 1 .dead).toInt,(cs.getD 2 .dead).toInt,(cs.getD 3 .dead).toInt,(cs.getD 4 .dead).toInt,(cs.getD 5 .dead).toInt,(cs.getD 6 .dead).toInt,(cs.getD 7 .dead).toInt,(cs.getD 8 .dead).toInt,(cs.getD 9 .dead).toInt,(cs.getD 10 .dead).toInt,(cs.getD 11 .dead).toInt,(cs.getD 12 .dead).toInt,(cs.getD 13 .dead).toInt,(cs.getD 14 .dead).toInt,(cs.getD 15 .dead).toInt⟩:(iu Int)),(cs.getD 16 .dead).toInt,(⟨(cs.getD 17 .dead).toInt,(cs.getD 18 .dead).toInt,(cs.getD 19 .dead).toInt,(cs.getD 20 .dead).toInt,(cs.getD 21 .dead).toInt,(cs.getD 22 .dead).toInt,(cs.getD 23 .dead).toInt,(cs.getD 24 .dead).toInt⟩:(A8 Int))⟩:bq)
def iH.cells(x:iH):List D:=[.str x.D9]
def iH.of(cs:List D):iH:=(⟨(cs.getD 0 .dead).toStr⟩:iH)
def iW.cells(x:iW):List D:=[.bool x.F0,.int .u32 x.D2,.bool x.D8]
def iW.of(cs:List D):iW:=(⟨(cs.getD 0 .dead).toBool,(cs.getD 1 .dead).toInt,(cs.getD 2 .dead).toBool⟩:iW)
def fw.cells(x:fw):List D:=[.int .u32 x.ab,.int .u32 x.C9,.int .u32 x.Frame,.int .i64 x.C8,.int .i64 x.F5,.int .u32 x.C5,.int .u32 x.C6,.str x.C7]
def fw.of(cs:List D):fw:=(⟨(cs.getD 0 .dead).toInt,(cs.getD 1 .dead).toInt,(cs.getD 2 .dead).toInt,(cs.getD 3 .dead).toInt,(cs.getD 4 .dead).toInt,(cs.getD 5 .dead).toInt,(cs.getD 6 .dead).toInt,(cs.getD 7 .dead).toStr⟩:fw)
def gw.cells(x:gw):List D:=[.int .u32 x.Frame,.int .u32 x.F7,.bool x.D3,.int .u32 x.D4,.bool x.C3,.int .u32 x.F8]
def gw.of(cs:List D):gw:=(⟨(cs.getD 0 .dead).toInt,(cs.getD 1 .dead).toInt,(cs.getD 2 .dead).toBool,(cs.getD 3 .dead).toInt,(cs.getD 4 .dead).toBool,(cs.getD 5 .dead).toInt⟩:gw)
def gm.cells(x:gm):List D:=[.int .u32 x.A2,.int .u32 x.D0]
def gm.of(cs:List D):gm:=(⟨(cs.getD 0 .dead).toInt,(cs.getD 1 .dead).toInt⟩:gm)
def bb.cj(x:bb)(s0:D):List D:=[.int .u32 x.B2.X.a0,.int .u32 x.B2.X.a1,.int .u32 x.B2.X.a2,.int .u32 x.B2.X.a3,.int .u32 x.B2.X.a4,.int .u32 x.B2.X.a5,.int .u32 x.B2.X.a6,.int .u32 x.B2.X.a7,.int .u32 x.B2.X.a8,.int .u32 x.B2.X.a9,.int .u32 x.B2.X.kr,.int .u32 x.B2.X.ku,.int .u32 x.B2.X.a12,.int .u32 x.B2.X.kv,.int .u32 x.B2.X.ky,.int .u32 x.B2.X.kz,.int .u32 x.B2.Pc,.int .u32 x.B2.C2.a0,.int .u32 x.B2.C2.a1,.int .u32 x.B2.C2.a2,.int .u32 x.B2.C2.a3,.int .u32 x.B2.C2.a4,.int .u32 x.B2.C2.a5,.int .u32 x.B2.C2.a6,.int .u32 x.B2.C2.a7,s0,.str x.B3.D9,.bool x.B8.F0,.int .u32 x.B8.D2,.bool x.B8.D8,.int .u32 x.B5.ab,.int .u32 x.B5.C9,.int .u32 x.B5.Frame,.int .i64 x.B5.C8,.int .i64 x.B5.F5,.int .u32 x.B5.C5,.int .u32 x.B5.C6,.str x.B5.C7,.int .u32 x.D1.Frame,.int .u32 x.D1.F7,.bool x.D1.D3,.int .u32 x.D1.D4,.bool x.D1.C3,.int .u32 x.D1.F8,.int .u32 x.A6.A2,.int .u32 x.A6.D0,.int .u64 x.B7,.bool x.B4,.bool x.B6]
def bb.cells(x:bb):List D:=bb.cj x (.sl 1 (.ints .u32 x.Mem) false)
def bb.iE(cs:List D)(s0:List Int):bb:=(⟨(⟨(⟨(cs.getD 0 .dead).toInt,(cs.getD 1 .dead).toInt,(cs.getD 2 .dead).toInt,(cs.getD 3 .dead).toInt,(cs.getD 4 .dead).toInt,(cs.getD 5 .dead).toInt,(cs.getD 6 .dead).toInt,(cs.getD 7 .dead).toInt,(cs.getD 8 .dead).toInt,(cs.getD 9 .dead).toInt,(cs.getD 10 .dead).toInt,(cs.getD 11 .dead).toInt,(cs.getD 12 .dead).toInt,(cs.getD 13 .dead).toInt,(cs.getD 14 .dead).toInt,(cs.getD 15 .dead).toInt⟩:(iu Int)),(cs.getD 16 .dead).toInt,(⟨(cs.getD 17 .dead).toInt,(cs.getD 18 .dead).toInt,(cs.getD 19 .dead).toInt,(cs.getD 20 .dead).toInt,(cs.getD 21 .dead).toInt,(cs.getD 22 .dead).toInt,(cs.getD 23 .dead).toInt,(cs.getD 24 .dead).toInt⟩:(A8 Int))⟩:bq),s0,(⟨(cs.getD 26 .dead).toStr⟩:iH),(⟨(cs.getD 27 .dead).toBool,(cs.getD 28 .dead).toInt,(cs.getD 29 .dead).toBool⟩:iW),(⟨(cs.getD 30 .dead).toInt,(cs.getD 31 .dead).toInt,(cs.getD 32 .dead).toInt,(cs.getD 33 .dead).toInt,(cs.getD 34 .dead).toInt,(cs.getD 35 .dead).toInt,(cs.getD 36 .dead).toInt,(cs.getD 37 .dead).toStr⟩:fw),(⟨(cs.getD 38 .dead).toInt,(cs.getD 39 .dead).toInt,(cs.getD 40 .dead).toBool,(cs.getD 41 .dead).toInt,(cs.getD 42 .dead).toBool,(cs.getD 43 .dead).toInt⟩:gw),(⟨(cs.getD 44 .dead).toInt,(cs.getD 45 .dead).toInt⟩:gm),(cs.getD 46 .dead).toInt,(cs.getD 47 .dead).toBool,(cs.getD 48 .dead).toBool⟩:bb)
def bb.of(cs:List D):bb:=bb.iE cs (bw .u32 (cs.getD 25 .dead))
def gg.cj(x:gg)(s0:D):List D:=[s0,.int .i64 x.B9,.int .i64 x.D6]
def gg.cells(x:gg):List D:=gg.cj x (.sl 1 (.ag x.B0) false)
def gg.iE(cs:List D)(s0:List Bool):gg:=(⟨s0,(cs.getD 1 .dead).toInt,(cs.getD 2 .dead).toInt⟩:gg)
def gg.of(cs:List D):gg:=gg.iE cs (ey (cs.getD 0 .dead))
def ij.cj(x:ij)(s0 s1 s2 s3:D):List D:=[.int .i64 x.A4,.int .u32 x.A0.B2.X.a0,.int .u32 x.A0.B2.X.a1,.int .u32 x.A0.B2.X.a2,.int .u32 x.A0.B2.X.a3,.int .u32 x.A0.B2.X.a4,.int .u32 x.A0.B2.X.a5,.int .u32 x.A0.B2.X.a6,.int .u32 x.A0.B2.X.a7,.int .u32 x.A0.B2.X.a8,.int .u32 x.A0.B2.X.a9,.int .u32 x.A0.B2.X.kr,.int .u32 x.A0.B2.X.ku,.int .u32 x.A0.B2.X.a12,.int .u32 x.A0.B2.X.kv,.int .u32 x.A0.B2.X.ky,.int .u32 x.A0.B2.X.kz,.int .u32 x.A0.B2.Pc,.int .u32 x.A0.B2.C2.a0,.int .u32 x.A0.B2.C2.a1,.int .u32 x.A0.B2.C2.a2,.int .u32 x.A0.B2.C2.a3,.int .u32 x.A0.B2.C2.a4,.int .u32 x.A0.B2.C2.a5,.int .u32 x.A0.B2.C2.a6,.int .u32 x.A0.B2.C2.a7,s0,.str x.A0.B3.D9,.bool x.A0.B8.F0,.int .u32 x.A0.B8.D2,.bool x.A0.B8.D8,.int .u32 x.A0.B5.ab,.int .u32 x.A0.B5.C9,.int .u32 x.A0.B5.Frame,.int .i64 x.A0.B5.C8,.int .i64 x.A0.B5.F5,.int .u32 x.A0.B5.C5,.int .u32 x.A0.B5.C6,.str x.A0.B5.C7,.int .u32 x.A0.D1.Frame,.int .u32 x.A0.D1.F7,.bool x.A0.D1.D3,.int .u32 x.A0.D1.D4,.bool x.A0.D1.C3,.int .u32 x.A0.D1.F8,.int .u32 x.A0.A6.A2,.int .u32 x.A0.A6.D0,.int .u64 x.A0.B7,.bool x.A0.B4,.bool x.A0.B6,s1,.int .i64 x.B1.B9,.int .i64 x.B1.D6,s2,s3,.int .u64 x.D5]
def ij.cells(x:ij):List D:=ij.cj x (.sl 1 (.ints .u32 x.A0.Mem) false) (.sl 1 (.ag x.B1.B0) false) (.sl 1 (.ints .i64 x.A3) false) (.sl 1 (.ints .i64 x.C0) false)
def ij.iE(cs:List D)(s0:List Int)(s1:List Bool)(s2 s3:List Int):ij:=(⟨(cs.getD 0 .dead).toInt,(⟨(⟨(⟨(cs.getD 1 .dead).toInt,(cs.getD 2 .dead).toInt,(cs.getD 3 .dead).toInt,(cs.getD 4 .dead).toInt,(cs.getD 5 .dead).toInt,(cs.getD 6 .dead).toInt,(cs.getD 7 .dead).toInt,(cs.getD 8 .dead).toInt,(cs.getD 9 .dead).toInt,(cs.getD 10 .dead).toInt,(cs.getD 11 .dead).toInt,(cs.getD 12 .dead).toInt,(cs.getD 13 .dead).toInt,(cs.getD 14 .dead).toInt,(cs.getD 15 .dead).toInt,(cs.getD 16 .dead).toInt⟩:(iu Int)),(cs.getD 17 .dead).toInt,(⟨(cs.getD 18 .dead).toInt,(cs.getD 19 .dead).toInt,(cs.getD 20 .dead).toInt,(cs.getD 21 .dead).toInt,(cs.getD 22 .dead).toInt,(cs.getD 23 .dead).toInt,(cs.getD 24 .dead).toInt,(cs.getD 25 .dead).toInt⟩:(A8 Int))⟩:bq),s0,(⟨(cs.getD 27 .dead).toStr⟩:iH),(⟨(cs.getD 28 .dead).toBool,(cs.getD 29 .dead).toInt,(cs.getD 30 .dead).toBool⟩:iW),(⟨(cs.getD 31 .dead).toInt,(cs.getD 32 .dead).toInt,(cs.getD 33 .dead).toInt,(cs.getD 34 .dead).toInt,(cs.getD 35 .dead).toInt,(cs.getD 36 .dead).toInt,(cs.getD 37 .dead).toInt,(cs.getD 38 .dead).toStr⟩:fw),(⟨(cs.getD 39 .dead).toInt,(cs.getD 40 .dead).toInt,(cs.getD 41 .dead).toBool,(cs.getD 42 .dead).toInt,(cs.getD 43 .dead).toBool,(cs.getD 44 .dead).toInt⟩:gw),(⟨(cs.getD 45 .dead).toInt,(cs.getD 46 .dead).toInt⟩:gm),(cs.getD 47 .dead).toInt,(cs.getD 48 .dead).toBool,(cs.getD 49 .dead).toBool⟩:bb),(⟨s1,(cs.getD 51 .dead).toInt,(cs.getD 52 .dead).toInt⟩:gg),s2,s3,(cs.getD 55 .dead).toInt⟩:ij)
def ij.of(cs:List D):ij:=ij.iE cs (bw .u32 (cs.getD 26 .dead)) (ey (cs.getD 50 .dead)) (bw .i64 (cs.getD 53 .dead)) (bw .i64 (cs.getD 54 .dead))
def iP.cj(x:iP)(s0:D):List D:=[s0,.int .u64 x.D5,.int .i64 x.D7]
def iP.cells(x:iP):List D:=iP.cj x (.sl 1 (.ah .str x.ab) false)
def iP.iE(cs:List D)(s0:List (List UInt8)):iP:=(⟨s0,(cs.getD 1 .dead).toInt,(cs.getD 2 .dead).toInt⟩:iP)
def iP.of(cs:List D):iP:=iP.iE cs (iQ .str (cs.getD 0 .dead))
def fj.cj(x:fj)(s0 s1:D):List D:=[.int .i64 x.C4,.int .i64 x.B9,.int .i64 x.Frame,.str x.F1,.int .u32 x.A0.B2.X.a0,.int .u32 x.A0.B2.X.a1,.int .u32 x.A0.B2.X.a2,.int .u32 x.A0.B2.X.a3,.int .u32 x.A0.B2.X.a4,.int .u32 x.A0.B2.X.a5,.int .u32 x.A0.B2.X.a6,.int .u32 x.A0.B2.X.a7,.int .u32 x.A0.B2.X.a8,.int .u32 x.A0.B2.X.a9,.int .u32 x.A0.B2.X.kr,.int .u32 x.A0.B2.X.ku,.int .u32 x.A0.B2.X.a12,.int .u32 x.A0.B2.X.kv,.int .u32 x.A0.B2.X.ky,.int .u32 x.A0.B2.X.kz,.int .u32 x.A0.B2.Pc,.int .u32 x.A0.B2.C2.a0,.int .u32 x.A0.B2.C2.a1,.int .u32 x.A0.B2.C2.a2,.int .u32 x.A0.B2.C2.a3,.int .u32 x.A0.B2.C2.a4,.int .u32 x.A0.B2.C2.a5,.int .u32 x.A0.B2.C2.a6,.int .u32 x.A0.B2.C2.a7,s0,.str x.A0.B3.D9,.bool x.A0.B8.F0,.int .u32 x.A0.B8.D2,.bool x.A0.B8.D8,.int .u32 x.A0.B5.ab,.int .u32 x.A0.B5.C9,.int .u32 x.A0.B5.Frame,.int .i64 x.A0.B5.C8,.int .i64 x.A0.B5.F5,.int .u32 x.A0.B5.C5,.int .u32 x.A0.B5.C6,.str x.A0.B5.C7,.int .u32 x.A0.D1.Frame,.int .u32 x.A0.D1.F7,.bool x.A0.D1.D3,.int .u32 x.A0.D1.D4,.bool x.A0.D1.C3,.int .u32 x.A0.D1.F8,.int .u32 x.A0.A6.A2,.int .u32 x.A0.A6.D0,.int .u64 x.A0.B7,.bool x.A0.B4,.bool x.A0.B6,s1]
def fj.cells(x:fj):List D:=fj.cj x (.sl 1 (.ints .u32 x.A0.Mem) false) (.sl 1 (.ints .i64 x.A3) false)
def fj.iE(cs:List D)(s0 s1:List Int):fj:=(⟨(cs.getD 0 .dead).toInt,(cs.getD 1 .dead).toInt,(cs.getD 2 .dead).toInt,(cs.getD 3 .dead).toStr,(⟨(⟨(⟨(cs.getD 4 .dead).toInt,(cs.getD 5 .dead).toInt,(cs.getD 6 .dead).toInt,(cs.getD 7 .dead).toInt,(cs.getD 8 .dead).toInt,(cs.getD 9 .dead).toInt,(cs.getD 10 .dead).toInt,(cs.getD 11 .dead).toInt,(cs.getD 12 .dead).toInt,(cs.getD 13 .dead).toInt,(cs.getD 14 .dead).toInt,(cs.getD 15 .dead).toInt,(cs.getD 16 .dead).toInt,(cs.getD 17 .dead).toInt,(cs.getD 18 .dead).toInt,(cs.getD 19 .dead).toInt⟩:(iu Int)),(cs.getD 20 .dead).toInt,(⟨(cs.getD 21 .dead).toInt,(cs.getD 22 .dead).toInt,(cs.getD 23 .dead).toInt,(cs.getD 24 .dead).toInt,(cs.getD 25 .dead).toInt,(cs.getD 26 .dead).toInt,(cs.getD 27 .dead).toInt,(cs.getD 28 .dead).toInt⟩:(A8 Int))⟩:bq),s0,(⟨(cs.getD 30 .dead).toStr⟩:iH),(⟨(cs.getD 31 .dead).toBool,(cs.getD 32 .dead).toInt,(cs.getD 33 .dead).toBool⟩:iW),(⟨(cs.getD 34 .dead).toInt,(cs.getD 35 .dead).toInt,(cs.getD 36 .dead).toInt,(cs.getD 37 .dead).toInt,(cs.getD 38 .dead).toInt,(cs.getD 39 .dead).toInt,(cs.getD 40 .dead).toInt,(cs.getD 41 .dead).toStr⟩:fw),(⟨(cs.getD 42 .dead).toInt,(cs.getD 43 .dead).toInt,(cs.getD 44 .dead).toBool,(cs.getD 45 .dead).toInt,(cs.getD 46 .dead).toBool,(cs.getD 47 .dead).toInt⟩:gw),(⟨(cs.getD 48 .dead).toInt,(cs.getD 49 .dead).toInt⟩:gm),(cs.getD 50 .dead).toInt,(cs.getD 51 .dead).toBool,(cs.getD 52 .dead).toBool⟩:bb),s1⟩:fj)
def fj.of(cs:List D):fj:=fj.iE cs (bw .u32 (cs.getD 29 .dead)) (bw .i64 (cs.getD 53 .dead))
def dv.cj(x:dv)(s0 s1 s2 s3 s4 s5 s6 s7 s8 s9 Bv:D):List D:=[.int .i64 x.A1.A4,.int .u32 x.A1.A0.B2.X.a0,.int .u32 x.A1.A0.B2.X.a1,.int .u32 x.A1.A0.B2.X.a2,.int .u32 x.A1.A0.B2.X.a3,.int .u32 x.A1.A0.B2.X.a4,.int .u32 x.A1.A0.B2.X.a5,.int .u32 x.A1.A0.B2.X.a6,.int .u32 x.A1.A0.B2.X.a7,.int .u32 x.A1.A0.B2.X.a8,.int .u32 x.A1.A0.B2.X.a9,.int .u32 x.A1.A0.B2.X.kr,.int .u32 x.A1.A0.B2.X.ku,.int .u32 x.A1.A0.B2.X.a12,.int .u32 x.A1.A0.B2.X.kv,.int .u32 x.A1.A0.B2.X.ky,.int .u32 x.A1.A0.B2.X.kz,.int .u32 x.A1.A0.B2.Pc,.int .u32 x.A1.A0.B2.C2.a0,.int .u32 x.A1.A0.B2.C2.a1,.int .u32 x.A1.A0.B2.C2.a2,.int .u32 x.A1.A0.B2.C2.a3,.int .u32 x.A1.A0.B2.C2.a4,.int .u32 x.A1.A0.B2.C2.a5,.int .u32 x.A1.A0.B2.C2.a6,.int .u32 x.A1.A0.B2.C2.a7,s0,.str x.A1.A0.B3.D9,.bool x.A1.A0.B8.F0,.int .u32 x.A1.A0.B8.D2,.bool x.A1.A0.B8.D8,.int .u32 x.A1.A0.B5.ab,.int .u32 x.A1.A0.B5.C9,.int .u32 x.A1.A0.B5.Frame,.int .i64 x.A1.A0.B5.C8,.int .i64 x.A1.A0.B5.F5,.int .u32 x.A1.A0.B5.C5,.int .u32 x.A1.A0.B5.C6,.str x.A1.A0.B5.C7,.int .u32 x.A1.A0.D1.Frame,.int .u32 x.A1.A0.D1.F7,.bool x.A1.A0.D1.D3,.int .u32 x.A1.A0.D1.D4,.bool x.A1.A0.D1.C3,.int .u32 x.A1.A0.D1.F8,.int .u32 x.A1.A0.A6.A2,.int .u32 x.A1.A0.A6.D0,.int .u64 x.A1.A0.B7,.bool x.A1.A0.B4,.bool x.A1.A0.B6,s1,.int .i64 x.A1.B1.B9,.int .i64 x.A1.B1.D6,s2,s3,.int .u64 x.A1.D5,.int .i64 x.A2.A4,.int .u32 x.A2.A0.B2.X.a0,.int .u32 x.A2.A0.B2.X.a1,.int .u32 x.A2.A0.B2.X.a2,.int .u32 x.A2.A0.B2.X.a3,.int .u32 x.A2.A0.B2.X.a4,.int .u32 x.A2.A0.B2.X.a5,.int .u32 x.A2.A0.B2.X.a6,.int .u32 x.A2.A0.B2.X.a7,.int .u32 x.A2.A0.B2.X.a8,.int .u32 x.A2.A0.B2.X.a9,.int .u32 x.A2.A0.B2.X.kr,.int .u32 x.A2.A0.B2.X.ku,.int .u32 x.A2.A0.B2.X.a12,.int .u32 x.A2.A0.B2.X.kv,.int .u32 x.A2.A0.B2.X.ky,.int .u32 x.A2.A0.B2.X.kz,.int .u32 x.A2.A0.B2.Pc,.int .u32 x.A2.A0.B2.C2.a0,.int .u32 x.A2.A0.B2.C2.a1,.int .u32 x.A2.A0.B2.C2.a2,.int .u32 x.A2.A0.B2.C2.a3,.int .u32 x.A2.A0.B2.C2.a4,.int .u32 x.A2.A0.B2.C2.a5,.int .u32 x.A2.A0.B2.C2.a6,.int .u32 x.A2.A0.B2.C2.a7,s4,.str x.A2.A0.B3.D9,.bool x.A2.A0.B8.F0,.int .u32 x.A2.A0.B8.D2,.bool x.A2.A0.B8.D8,.int .u32 x.A2.A0.B5.ab,.int .u32 x.A2.A0.B5.C9,.int .u32 x.A2.A0.B5.Frame,.int .i64 x.A2.A0.B5.C8,.int .i64 x.A2.A0.B5.F5,.int .u32 x.A2.A0.B5.C5,.int .u32 x.A2.A0.B5.C6,.str x.A2.A0.B5.C7,.int .u32 x.A2.A0.D1.Frame,.int .u32 x.A2.A0.D1.F7,.bool x.A2.A0.D1.D3,.int .u32 x.A2.A0.D1.D4,.bool x.A2.A0.D1.C3,.int .u32 x.A2.A0.D1.F8,.int .u32 x.A2.A0.A6.A2,.int .u32 x.A2.A0.A6.D0,.int .u64 x.A2.A0.B7,.bool x.A2.A0.B4,.bool x.A2.A0.B6,s5,.int .i64 x.A2.B1.B9,.int .i64 x.A2.B1.D6,s6,s7,.int .u64 x.A2.D5,s8,s9,Bv,.int .u64 x.A9.D5,.int .i64 x.A9.D7]
def dv.cells(x:dv):List D:=dv.cj x (.sl 1 (.ints .u32 x.A1.A0.Mem) false) (.sl 1 (.ag x.A1.B1.B0) false) (.sl 1 (.ints .i64 x.A1.A3) false) (.sl 1 (.ints .i64 x.A1.C0) false) (.sl 1 (.ints .u32 x.A2.A0.Mem) false) (.sl 1 (.ag x.A2.B1.B0) false) (.sl 1 (.ints .i64 x.A2.A3) false) (.sl 1 (.ints .i64 x.A2.C0) false) (.sl 54 (.ah .aa x.A7) false) (.sl 54 (.ah .aa x.C1) false) (.sl 1 (.ah .str x.A9.ab) false)
def dv.iE(cs:List D)(s0:List Int)(s1:List Bool)(s2 s3 s4:List Int)(s5:List Bool)(s6 s7:List Int)(s8 s9:List fj)(Bv:List (List UInt8)):dv:=(⟨(⟨(cs.getD 0 .dead).toInt,(⟨(⟨(⟨(cs.getD 1 .dead).toInt,(cs.getD 2 .dead).toInt,(cs.getD 3 .dead).toInt,(cs.getD 4 .dead).toInt,(cs.getD 5 .dead).toInt,(cs.getD 6 .dead).toInt,(cs.getD 7 .dead).toInt,(cs.getD 8 .dead).toInt,(cs.getD 9 .dead).toInt,(cs.getD 10 .dead).toInt,(cs.getD 11 .dead).toInt,(cs.getD 12 .dead).toInt,(cs.getD 13 .dead).toInt,(cs.getD 14 .dead).toInt,(cs.getD 15 .dead).toInt,(cs.getD 16 .dead).toInt⟩:(iu Int)),(cs.getD 17 .dead).toInt,(⟨(cs.getD 18 .dead).toInt,(cs.getD 19 .dead).toInt,(cs.getD 20 .dead).toInt,(cs.getD 21 .dead).toInt,(cs.getD 22 .dead).toInt,(cs.getD 23 .dead).toInt,(cs.getD 24 .dead).toInt,(cs.getD 25 .dead).toInt⟩:(A8 Int))⟩:bq),s0,(⟨(cs.getD 27 .dead).toStr⟩:iH),(⟨(cs.getD 28 .dead).toBool,(cs.getD 29 .dead).toInt,(cs.getD 30 .dead).toBool⟩:iW),(⟨(cs.getD 31 .dead).toInt,(cs.getD 32 .dead).toInt,(cs.getD 33 .dead).toInt,(cs.getD 34 .dead).toInt,(cs.getD 35 .dead).toInt,(cs.getD 36 .dead).toInt,(cs.getD 37 .dead).toInt,(cs.getD 38 .dead).toStr⟩:fw),(⟨(cs.getD 39 .dead).toInt,(cs.getD 40 .dead).toInt,(cs.getD 41 .dead).toBool,(cs.getD 42 .dead).toInt,(cs.getD 43 .dead).toBool,(cs.getD 44 .dead).toInt⟩:gw),(⟨(cs.getD 45 .dead).toInt,(cs.getD 46 .dead).toInt⟩:gm),(cs.getD 47 .dead).toInt,(cs.getD 48 .dead).toBool,(cs.getD 49 .dead).toBool⟩:bb),(⟨s1,(cs.getD 51 .dead).toInt,(cs.getD 52 .dead).toInt⟩:gg),s2,s3,(cs.getD 55 .dead).toInt⟩:ij),(⟨(cs.getD 56 .dead).toInt,(⟨(⟨(⟨(cs.getD 57 .dead).toInt,(cs.getD 58 .dead).toInt,(cs.getD 59 .dead).toInt,(cs.getD 60 .dead).toInt,(cs.getD 61 .dead).toInt,(cs.getD 62 .dead).toInt,(cs.getD 63 .dead).toInt,(cs.getD 64 .dead).toInt,(cs.getD 65 .dead).toInt,(cs.getD 66 .dead).toInt,(cs.getD 67 .dead).toInt,(cs.getD 68 .dead).toInt,(cs.getD 69 .dead).toInt,(cs.getD 70 .dead).toInt,(cs.getD 71 .dead).toInt,(cs.getD 72 .dead).toInt⟩:(iu Int)),(cs.getD 73 .dead).toInt,(⟨(cs.getD 74 .dead).toInt,(cs.getD 75 .dead).toInt,(cs.getD 76 .dead).toInt,(cs.getD 77 .dead).toInt,(cs.getD 78 .dead).toInt,(cs.getD 79 .dead).toInt,(cs.getD 80 .dead).toInt,(cs.getD 81 .dead).toInt⟩:(A8 Int))⟩:bq),s4,(⟨(cs.getD 83 .dead).toStr⟩:iH),(⟨(cs.getD 84 .dead).toBool,(cs.getD 85 .dead).toInt,(cs.getD 86 .dead).toBool⟩:iW),(⟨(cs.getD 87 .dead).toInt,(cs.getD 88 .dead).toInt,(cs.getD 89 .dead).toInt,(cs.getD 90 .dead).toInt,(cs.getD 91 .dead).toInt,(cs.getD 92 .dead).toInt,(cs.getD 93 .dead).toInt,(cs.getD 94 .dead).toStr⟩:fw),(⟨(cs.getD 95 .dead).toInt,(cs.getD 96 .dead).toInt,(cs.getD 97 .dead).toBool,(cs.getD 98 .dead).toInt,(cs.getD 99 .dead).toBool,(cs.getD 100 .dead).toInt⟩:gw),(⟨(cs.getD 101 .dead).toInt,(cs.getD 102 .dead).toInt⟩:gm),(cs.getD 103 .dead).toInt,(cs.getD 104 .dead).toBool,(cs.getD 105 .dead).toBool⟩:bb),(⟨s5,(cs.getD 107 .dead).toInt,(cs.getD 108 .dead).toInt⟩:gg),s6,s7,(cs.getD 111 .dead).toInt⟩:ij),s8,s9,(⟨Bv,(cs.getD 115 .dead).toInt,(cs.getD 116 .dead).toInt⟩:iP)⟩:dv)
def dv.of(cs:List D):dv:=dv.iE cs (bw .u32 (cs.getD 26 .dead)) (ey (cs.getD 50 .dead)) (bw .i64 (cs.getD 53 .dead)) (bw .i64 (cs.getD 54 .dead)) (bw .u32 (cs.getD 82 .dead)) (ey (cs.getD 106 .dead)) (bw .i64 (cs.getD 109 .dead)) (bw .i64 (cs.getD 110 .dead)) (iQ .aa (cs.getD 112 .dead)) (iQ .aa (cs.getD 113 .dead)) (iQ .str (cs.getD 114 .dead))
def kG.cells(x:kG):List D:=[.int .i64 x.C4,.int .i64 x.N,.bool x.C1,.int .u32 x.F6]
def kG.of(cs:List D):kG:=(⟨(cs.getD 0 .dead).toInt,(cs.getD 1 .dead).toInt,(cs.getD 2 .dead).toBool,(cs.getD 3 .dead).toInt⟩:kG)
def de.cj(x:de)(s0 s1 s2 s3 s4 s5 s6 s7 s8 s9 Bv:D):List D:=[.int .i64 x.A1.A4,.int .u32 x.A1.A0.B2.X.a0,.int .u32 x.A1.A0.B2.X.a1,.int .u32 x.A1.A0.B2.X.a2,.int .u32 x.A1.A0.B2.X.a3,.int .u32 x.A1.A0.B2.X.a4,.int .u32 x.A1.A0.B2.X.a5,.int .u32 x.A1.A0.B2.X.a6,.int .u32 x.A1.A0.B2.X.a7,.int .u32 x.A1.A0.B2.X.a8,.int .u32 x.A1.A0.B2.X.a9,.int .u32 x.A1.A0.B2.X.kr,.int .u32 x.A1.A0.B2.X.ku,.int .u32 x.A1.A0.B2.X.a12,.int .u32 x.A1.A0.B2.X.kv,.int .u32 x.A1.A0.B2.X.ky,.int .u32 x.A1.A0.B2.X.kz,.int .u32 x.A1.A0.B2.Pc,.int .u32 x.A1.A0.B2.C2.a0,.int .u32 x.A1.A0.B2.C2.a1,.int .u32 x.A1.A0.B2.C2.a2,.int .u32 x.A1.A0.B2.C2.a3,.int .u32 x.A1.A0.B2.C2.a4,.int .u32 x.A1.A0.B2.C2.a5,.int .u32 x.A1.A0.B2.C2.a6,.int .u32 x.A1.A0.B2.C2.a7,s0,.str x.A1.A0.B3.D9,.bool x.A1.A0.B8.F0,.int .u32 x.A1.A0.B8.D2,.bool x.A1.A0.B8.D8,.int .u32 x.A1.A0.B5.ab,.int .u32 x.A1.A0.B5.C9,.int .u32 x.A1.A0.B5.Frame,.int .i64 x.A1.A0.B5.C8,.int .i64 x.A1.A0.B5.F5,.int .u32 x.A1.A0.B5.C5,.int .u32 x.A1.A0.B5.C6,.str x.A1.A0.B5.C7,.int .u32 x.A1.A0.D1.Frame,.int .u32 x.A1.A0.D1.F7,.bool x.A1.A0.D1.D3,.int .u32 x.A1.A0.D1.D4,.bool x.A1.A0.D1.C3,.int .u32 x.A1.A0.D1.F8,.int .u32 x.A1.A0.A6.A2,.int .u32 x.A1.A0.A6.D0,.int .u64 x.A1.A0.B7,.bool x.A1.A0.B4,.bool x.A1.A0.B6,s1,.int .i64 x.A1.B1.B9,.int .i64 x.A1.B1.D6,s2,s3,.int .u64 x.A1.D5,.int .i64 x.A2.A4,.int .u32 x.A2.A0.B2.X.a0,.int .u32 x.A2.A0.B2.X.a1,.int .u32 x.A2.A0.B2.X.a2,.int .u32 x.A2.A0.B2.X.a3,.int .u32 x.A2.A0.B2.X.a4,.int .u32 x.A2.A0.B2.X.a5,.int .u32 x.A2.A0.B2.X.a6,.int .u32 x.A2.A0.B2.X.a7,.int .u32 x.A2.A0.B2.X.a8,.int .u32 x.A2.A0.B2.X.a9,.int .u32 x.A2.A0.B2.X.kr,.int .u32 x.A2.A0.B2.X.ku,.int .u32 x.A2.A0.B2.X.a12,.int .u32 x.A2.A0.B2.X.kv,.int .u32 x.A2.A0.B2.X.ky,.int .u32 x.A2.A0.B2.X.kz,.int .u32 x.A2.A0.B2.Pc,.int .u32 x.A2.A0.B2.C2.a0,.int .u32 x.A2.A0.B2.C2.a1,.int .u32 x.A2.A0.B2.C2.a2,.int .u32 x.A2.A0.B2.C2.a3,.int .u32 x.A2.A0.B2.C2.a4,.int .u32 x.A2.A0.B2.C2.a5,.int .u32 x.A2.A0.B2.C2.a6,.int .u32 x.A2.A0.B2.C2.a7,s4,.str x.A2.A0.B3.D9,.bool x.A2.A0.B8.F0,.int .u32 x.A2.A0.B8.D2,.bool x.A2.A0.B8.D8,.int .u32 x.A2.A0.B5.ab,.int .u32 x.A2.A0.B5.C9,.int .u32 x.A2.A0.B5.Frame,.int .i64 x.A2.A0.B5.C8,.int .i64 x.A2.A0.B5.F5,.int .u32 x.A2.A0.B5.C5,.int .u32 x.A2.A0.B5.C6,.str x.A2.A0.B5.C7,.int .u32 x.A2.A0.D1.Frame,.int .u32 x.A2.A0.D1.F7,.bool x.A2.A0.D1.D3,.int .u32 x.A2.A0.D1.D4,.bool x.A2.A0.D1.C3,.int .u32 x.A2.A0.D1.F8,.int .u32 x.A2.A0.A6.A2,.int .u32 x.A2.A0.A6.D0,.int .u64 x.A2.A0.B7,.bool x.A2.A0.B4,.bool x.A2.A0.B6,s5,.int .i64 x.A2.B1.B9,.int .i64 x.A2.B1.D6,s6,s7,.int .u64 x.A2.D5,s8,s9,Bv,.int .u64 x.A9.D5,.int .i64 x.A9.D7]
def de.cells(x:de):List D:=de.cj x (.sl 1 (.ints .u32 x.A1.A0.Mem) false) (.sl 1 (.ag x.A1.B1.B0) false) (.sl 1 (.ints .i64 x.A1.A3) false) (.sl 1 (.ints .i64 x.A1.C0) false) (.sl 1 (.ints .u32 x.A2.A0.Mem) false) (.sl 1 (.ag x.A2.B1.B0) false) (.sl 1 (.ints .i64 x.A2.A3) false) (.sl 1 (.ints .i64 x.A2.C0) false) (.sl 54 (.ah .aa x.A7) false) (.sl 54 (.ah .aa x.C1) false) (.sl 1 (.ah .str x.A9.ab) false)
def de.iE(cs:List D)(s0:List Int)(s1:List Bool)(s2 s3 s4:List Int)(s5:List Bool)(s6 s7:List Int)(s8 s9:List fj)(Bv:List (List UInt8)):de:=(⟨(⟨(cs.getD 0 .dead).toInt,(⟨(⟨(⟨(cs.getD 1 .dead).toInt,(cs.getD 2 .dead).toInt,(cs.getD 3 .dead).toInt,(cs.getD 4 .dead).toInt,(cs.getD 5 .dead).toInt,(cs.getD 6 .dead).toInt,(cs.getD 7 .dead).toInt,(cs.getD 8 .dead).toInt,(cs.getD 9 .dead).toInt,(cs.getD 10 .dead).toInt,(cs.getD 11 .dead).toInt,(cs.getD 12 .dead).toInt,(cs.getD 13 .dead).toInt,(cs.getD 14 .dead).toInt,(cs.getD 15 .dead).toInt,(cs.getD 16 .dead).toInt⟩:(iu Int)),(cs.getD 17 .dead).toInt,(⟨(cs.getD 18 .dead).toInt,(cs.getD 19 .dead).toInt,(cs.getD 20 .dead).toInt,(cs.getD 21 .dead).toInt,(cs.getD 22 .dead).toInt,(cs.getD 23 .dead).toInt,(cs.getD 24 .dead).toInt,(cs.getD 25 .dead).toInt⟩:(A8 Int))⟩:bq),s0,(⟨(cs.getD 27 .dead).toStr⟩:iH),(⟨(cs.getD 28 .dead).toBool,(cs.getD 29 .dead).toInt,(cs.getD 30 .dead).toBool⟩:iW),(⟨(cs.getD 31 .dead).toInt,(cs.getD 32 .dead).toInt,(cs.getD 33 .dead).toInt,(cs.getD 34 .dead).toInt,(cs.getD 35 .dead).toInt,(cs.getD 36 .dead).toInt,(cs.getD 37 .dead).toInt,(cs.getD 38 .dead).toStr⟩:fw),(⟨(cs.getD 39 .dead).toInt,(cs.getD 40 .dead).toInt,(cs.getD 41 .dead).toBool,(cs.getD 42 .dead).toInt,(cs.getD 43 .dead).toBool,(cs.getD 44 .dead).toInt⟩:gw),(⟨(cs.getD 45 .dead).toInt,(cs.getD 46 .dead).toInt⟩:gm),(cs.getD 47 .dead).toInt,(cs.getD 48 .dead).toBool,(cs.getD 49 .dead).toBool⟩:bb),(⟨s1,(cs.getD 51 .dead).toInt,(cs.getD 52 .dead).toInt⟩:gg),s2,s3,(cs.getD 55 .dead).toInt⟩:ij),(⟨(cs.getD 56 .dead).toInt,(⟨(⟨(⟨(cs.getD 57 .dead).toInt,(cs.getD 58 .dead).toInt,(cs.getD 59 .dead).toInt,(cs.getD 60 .dead).toInt,(cs.getD 61 .dead).toInt,(cs.getD 62 .dead).toInt,(cs.getD 63 .dead).toInt,(cs.getD 64 .dead).toInt,(cs.getD 65 .dead).toInt,(cs.getD 66 .dead).toInt,(cs.getD 67 .dead).toInt,(cs.getD 68 .dead).toInt,(cs.getD 69 .dead).toInt,(cs.getD 70 .dead).toInt,(cs.getD 71 .dead).toInt,(cs.getD 72 .dead).toInt⟩:(iu Int)),(cs.getD 73 .dead).toInt,(⟨(cs.getD 74 .dead).toInt,(cs.getD 75 .dead).toInt,(cs.getD 76 .dead).toInt,(cs.getD 77 .dead).toInt,(cs.getD 78 .dead).toInt,(cs.getD 79 .dead).toInt,(cs.getD 80 .dead).toInt,(cs.getD 81 .dead).toInt⟩:(A8 Int))⟩:bq),s4,(⟨(cs.getD 83 .dead).toStr⟩:iH),(⟨(cs.getD 84 .dead).toBool,(cs.getD 85 .dead).toInt,(cs.getD 86 .dead).toBool⟩:iW),(⟨(cs.getD 87 .dead).toInt,(cs.getD 88 .dead).toInt,(cs.getD 89 .dead).toInt,(cs.getD 90 .dead).toInt,(cs.getD 91 .dead).toInt,(cs.getD 92 .dead).toInt,(cs.getD 93 .dead).toInt,(cs.getD 94 .dead).toStr⟩:fw),(⟨(cs.getD 95 .dead).toInt,(cs.getD 96 .dead).toInt,(cs.getD 97 .dead).toBool,(cs.getD 98 .dead).toInt,(cs.getD 99 .dead).toBool,(cs.getD 100 .dead).toInt⟩:gw),(⟨(cs.getD 101 .dead).toInt,(cs.getD 102 .dead).toInt⟩:gm),(cs.getD 103 .dead).toInt,(cs.getD 104 .dead).toBool,(cs.getD 105 .dead).toBool⟩:bb),(⟨s5,(cs.getD 107 .dead).toInt,(cs.getD 108 .dead).toInt⟩:gg),s6,s7,(cs.getD 111 .dead).toInt⟩:ij),s8,s9,(⟨Bv,(cs.getD 115 .dead).toInt,(cs.getD 116 .dead).toInt⟩:iP)⟩:de)
def de.of(cs:List D):de:=de.iE cs (bw .u32 (cs.getD 26 .dead)) (ey (cs.getD 50 .dead)) (bw .i64 (cs.getD 53 .dead)) (bw .i64 (cs.getD 54 .dead)) (bw .u32 (cs.getD 82 .dead)) (ey (cs.getD 106 .dead)) (bw .i64 (cs.getD 109 .dead)) (bw .i64 (cs.getD 110 .dead)) (iQ .aa (cs.getD 112 .dead)) (iQ .aa (cs.getD 113 .dead)) (iQ .str (cs.getD 114 .dead))
def tq.cells(x:tq):List D:=[.int .i64 x.wY,.int .i64 x.ny]
def tq.of(cs:List D):tq:=(⟨(cs.getD 0 .dead).toInt,(cs.getD 1 .dead).toInt⟩:tq)
def kY.cells(x:kY):List D:=[.int .i64 x.Frame,.str x.F1]
def kY.of(cs:List D):kY:=(⟨(cs.getD 0 .dead).toInt,(cs.getD 1 .dead).toStr⟩:kY)
def lz.cells(x:lz):List D:=[.int .i64 x.C4,.int .i64 x.E0,.int .i64 x.F9,.int .u32 x.Value]
def lz.of(cs:List D):lz:=(⟨(cs.getD 0 .dead).toInt,(cs.getD 1 .dead).toInt,(cs.getD 2 .dead).toInt,(cs.getD 3 .dead).toInt⟩:lz)
def nz.cells(x:nz):List D:=[.int .i64 x.kA,.int .i64 x.num,.str x.label]
def nz.of(cs:List D):nz:=(⟨(cs.getD 0 .dead).toInt,(cs.getD 1 .dead).toInt,(cs.getD 2 .dead).toStr⟩:nz)
def ki.cj(x:ki)(s0:D):List D:=[.str x.ea,.int .i64 x.op,s0,.int .i64 x.F3,.int .i64 x.at_,.int .i64 x.size]
def ki.cells(x:ki):List D:=ki.cj x (.sl 3 (.ah .aw x.l) false)
def ki.iE(cs:List D)(s0:List nz):ki:=(⟨(cs.getD 0 .dead).toStr,(cs.getD 1 .dead).toInt,s0,(cs.getD 3 .dead).toInt,(cs.getD 4 .dead).toInt,(cs.getD 5 .dead).toInt⟩:ki)
def ki.of(cs:List D):ki:=ki.iE cs (iQ .aw (cs.getD 2 .dead))
def ia.cells(x:ia):List D:=[.int .i64 x.Op,.int .i64 x.A,.int .i64 x.B,.int .i64 x.C,.int .i32 x.cf]
def ia.of(cs:List D):ia:=(⟨(cs.getD 0 .dead).toInt,(cs.getD 1 .dead).toInt,(cs.getD 2 .dead).toInt,(cs.getD 3 .dead).toInt,(cs.getD 4 .dead).toInt⟩:ia)
def uX.cells(x:uX):List D:=[.int .i64 x.C4,.int .u32 x.N,.str x.F1]
def uX.of(cs:List D):uX:=(⟨(cs.getD 0 .dead).toInt,(cs.getD 1 .dead).toInt,(cs.getD 2 .dead).toStr⟩:uX)
def pE.cells(x:pE):List D:=[.int .u64 x.At,.int .i64 x.Event.C4,.int .u32 x.Event.N,.str x.Event.F1]
def pE.of(cs:List D):pE:=(⟨(cs.getD 0 .dead).toInt,(⟨(cs.getD 1 .dead).toInt,(cs.getD 2 .dead).toInt,(cs.getD 3 .dead).toStr⟩:uX)⟩:pE)
def ir.cells(x:ir):List D:=[.int .i64 x.C4,.int .u64 x.At,.int .u32 x.C9,.str x.F1]
def ir.of(cs:List D):ir:=(⟨(cs.getD 0 .dead).toInt,(cs.getD 1 .dead).toInt,(cs.getD 2 .dead).toInt,(cs.getD 3 .dead).toStr⟩:ir)
def nZ.cells(x:nZ):List D:=[.str x.Name,.int .u32 x.Addr]
def nZ.of(cs:List D):nZ:=(⟨(cs.getD 0 .dead).toStr,(cs.getD 1 .dead).toInt⟩:nZ)
def rB.cells(x:rB):List D:=[.int .u32 x.Addr,.int .u32 x.G1,.int .i64 x.G0]
def rB.of(cs:List D):rB:=(⟨(cs.getD 0 .dead).toInt,(cs.getD 1 .dead).toInt,(cs.getD 2 .dead).toInt⟩:rB)
def kZ.cells(x:kZ):List D:=[.int .i64 x.kind,.str x.F2,.bool x.wZ]
def kZ.of(cs:List D):kZ:=(⟨(cs.getD 0 .dead).toInt,(cs.getD 1 .dead).toStr,(cs.getD 2 .dead).toBool⟩:kZ)
def w4.cells(x:w4):List D:=[.bool x.a,.bool x.b,.bool x.c,.int .i32 x.low,.int .i32 x.F4]
def w4.of(cs:List D):w4:=(⟨(cs.getD 0 .dead).toBool,(cs.getD 1 .dead).toBool,(cs.getD 2 .dead).toBool,(cs.getD 3 .dead).toInt,(cs.getD 4 .dead).toInt⟩:w4)
def RK.size:RK->Nat
 |.bz=>4
 |.aa=>54
 |.str=>1
 |.bu=>4
 |.bn=>2
 |.dm=>2
 |.ak=>6
 |.aw=>3
 |.fg=>4
 |.av=>3
def Dr:CT->D->D
 |.int k,d=>.int k d.toInt
 |.bool,d=>.bool d.toBool
 |.str,d=>.str d.toStr
 |.ints k,d=>.sl 1 (.ints k (bw k d)) false
 |.ag,d=>.sl 1 (.ag (ey d)) false
 |.ah k,d=>.sl k.size (.ah k (iQ k d)) false
 |.row i,_=>.all i
 |.nil,_=>.sl 0 (.gen []) false
 |.HN,_=>.c9
 |.self i,_=>.gh i
 |.pt i o f,_=>.ptr i o f
 |.gl f cs,_=>.gl f cs
def uY:List CT->List D->Nat->List D
 |[],_,_=>[]
 |t::ts,cs,j=>Dr t (cs.getD j .dead)::uY ts cs (j+1)
def bq.sig:List CT:=[.int .u32,.int .u32,.int .u32,.int .u32,.int .u32,.int .u32,.int .u32,.int .u32,.int .u32,.int .u32,.int .u32,.int .u32,.int .u32,.int .u32,.int .u32,.int .u32,.int .u32,.int .u32,.int .u32,.int .u32,.int .u32,.int .u32,.int .u32,.int .u32,.int .u32]
def iH.sig:List CT:=[.str]
def iW.sig:List CT:=[.bool,.int .u32,.bool]
def fw.sig:List CT:=[.int .u32,.int .u32,.int .u32,.int .i64,.int .i64,.int .u32,.int .u32,.str]
def gw.sig:List CT:=[.int .u32,.int .u32,.bool,.int .u32,.bool,.int .u32]
def gm.sig:List CT:=[.int .u32,.int .u32]
def bb.ik(s0:CT):List CT:=[.int .u32,.int .u32,.int .u32,.int .u32,.int .u32,.int .u32,.int .u32,.int .u32,.int .u32,.int .u32,.int .u32,.int .u32,.int .u32,.int .u32,.int .u32,.int .u32,.int .u32,.int .u32,.int .u32,.int .u32,.int .u32,.int .u32,.int .u32,.int .u32,.int .u32,s0,.str,.bool,.int .u32,.bool,.int .u32,.int .u32,.int .u32,.int .i64,.int .i64,.int .u32,.int .u32,.str,.int .u32,.int .u32,.bool,.int .u32,.bool,.int .u32,.int .u32,.int .u32,.int .u64,.bool,.bool]
def bb.sig:List CT:=bb.ik (.ints .u32)
def gg.ik(s0:CT):List CT:=[s0,.int .i64,.int .i64]
def gg.sig:List CT:=gg.ik (.ag)
def ij.ik(s0 s1 s2 s3:CT):List CT:=[.int .i64,.int .u32,.int .u32,.int .u32,.int .u32,.int .u32,.int .u32,.int .u32,.int .u32,.int .u32,.int .u32,.int .u32,.int .u32,.int .u32,.int .u32,.int .u32,.int .u32,.int .u32,.int .u32,.int .u32,.int .u32,.int .u32,.int .u32,.int .u32,.int .u32,.int .u32,s0,.str,.bool,.int .u32,.bool,.int .u32,.int .u32,.int .u32,.int .i64,.int .i64,.int .u32,.int .u32,.str,.int .u32,.int .u32,.bool,.int .u32,.bool,.int .u32,.int .u32,.int .u32,.int .u64,.bool,.bool,s1,.int .i64,.int .i64,s2,s3,.int .u64]
def ij.sig:List CT:=ij.ik (.ints .u32) (.ag) (.ints .i64) (.ints .i64)
def iP.ik(s0:CT):List CT:=[s0,.int .u64,.int .i64]
def iP.sig:List CT:=iP.ik (.ah .str)
def fj.ik(s0 s1:CT):List CT:=[.int .i64,.int .i64,.int .i64,.str,.int .u32,.int .u32,.int .u32,.int .u32,.int .u32,.int .u32,.int .u32,.int .u32,.int .u32,.int .u32,.int .u32,.int .u32,.int .u32,.int .u32,.int .u32,.int .u32,.int .u32,.int .u32,.int .u32,.int .u32,.int .u32,.int .u32,.int .u32,.int .u32,.int .u32,s0,.str,.bool,.int .u32,.bool,.int .u32,.int .u32,.int .u32,.int .i64,.int .i64,.int .u32,.int .u32,.str,.int .u32,.int .u32,.bool,.int .u32,.bool,.int .u32,.int .u32,.int .u32,.int .u64,.bool,.bool,s1]
def fj.sig:List CT:=fj.ik (.ints .u32) (.ints .i64)
def dv.ik(s0 s1 s2 s3 s4 s5 s6 s7 s8 s9 Bv:CT):List CT:=[.int .i64,.int .u32,.int .u32,.int .u32,.int .u32,.int .u32,.int .u32,.int .u32,.int .u32,.int .u32,.int .u32,.int .u32,.int .u32,.int .u32,.int .u32,.int .u32,.int .u32,.int .u32,.int .u32,.int .u32,.int .u32,.int .u32,.int .u32,.int .u32,.int .u32,.int .u32,s0,.str,.bool,.int .u32,.bool,.int .u32,.int .u32,.int .u32,.int .i64,.int .i64,.int .u32,.int .u32,.str,.int .u32,.int .u32,.bool,.int .u32,.bool,.int .u32,.int .u32,.int .u32,.int .u64,.bool,.bool,s1,.int .i64,.int .i64,s2,s3,.int .u64,.int .i64,.int .u32,.int .u32,.int .u32,.int .u32,.int .u32,.int .u32,.int .u32,.int .u32,.int .u32,.int .u32,.int .u32,.int .u32,.int .u32,.int .u32,.int .u32,.int .u32,.int .u32,.int .u32,.int .u32,.int .u32,.int .u32,.int .u32,.int .u32,.int .u32,.int .u32,s4,.str,.bool,.int .u32,.bool,.int .u32,.int .u32,.int .u32,.int .i64,.int .i64,.int .u32,.int .u32,.str,.int .u32,.int .u32,.bool,.int .u32,.bool,.int .u32,.int .u32,.int .u32,.int .u64,.bool,.bool,s5,.int .i64,.int .i64,s6,s7,.int .u64,s8,s9,Bv,.int .u64,.int .i64]
def dv.sig:List CT:=dv.ik (.ints .u32) (.ag) (.ints .i64) (.ints .i64) (.ints .u32) (.ag) (.ints .i64) (.ints .i64) (.ah .aa) (.ah .aa) (.ah .str)
def kG.sig:List CT:=[.int .i64,.int .i64,.bool,.int .u32]
def de.ik(s0 s1 s2 s3 s4 s5 s6 s7 s8 s9 Bv:CT):List CT:=[.int .i64,.int .u32,.int .u32,.int .u32,.int .u32,.int .u32,.int .u32,.int .u32,.int .u32,.int .u32,.int .u32,.int .u32,.int .u32,.int .u32,.int .u32,.int .u32,.int .u32,.int .u32,.int .u32,.int .u32,.int .u32,.int .u32,.int .u32,.int .u32,.int .u32,.int .u32,s0,.str,.bool,.int .u32,.bool,.int .u32,.int .u32,.int .u32,.int .i64,.int .i64,.int .u32,.int .u32,.str,.int .u32,.int .u32,.bool,.int .u32,.bool,.int .u32,.int .u32,.int .u32,.int .u64,.bool,.bool,s1,.int .i64,.int .i64,s2,s3,.int .u64,.int .i64,.int .u32,.int .u32,.int .u32,.int .u32,.int .u32,.int .u32,.int .u32,.int .u32,.int .u32,.int .u32,.int .u32,.int .u32,.int .u32,.int .u32,.int .u32,.int .u32,.int .u32,.int .u32,.int .u32,.int .u32,.int .u32,.int .u32,.int .u32,.int .u32,.int .u32,s4,.str,.bool,.int .u32,.bool,.int .u32,.int .u32,.int .u32,.int .i64,.int .i64,.int .u32,.int .u32,.str,.int .u32,.int .u32,.bool,.int .u32,.bool,.int .u32,.int .u32,.int .u32,.int .u64,.bool,.bool,s5,.int .i64,.int .i64,s6,s7,.int .u64,s8,s9,Bv,.int .u64,.int .i64]
def de.sig:List CT:=de.ik (.ints .u32) (.ag) (.ints .i64) (.ints .i64) (.ints .u32) (.ag) (.ints .i64) (.ints .i64) (.ah .aa) (.ah .aa) (.ah .str)
def tq.sig:List CT:=[.int .i64,.int .i64]
def kY.sig:List CT:=[.int .i64,.str]
def lz.sig:List CT:=[.int .i64,.int .i64,.int .i64,.int .u32]
def nz.sig:List CT:=[.int .i64,.int .i64,.str]
def ki.ik(s0:CT):List CT:=[.str,.int .i64,s0,.int .i64,.int .i64,.int .i64]
def ki.sig:List CT:=ki.ik (.ah .aw)
def ia.sig:List CT:=[.int .i64,.int .i64,.int .i64,.int .i64,.int .i32]
def uX.sig:List CT:=[.int .i64,.int .u32,.str]
def pE.sig:List CT:=[.int .u64,.int .i64,.int .u32,.str]
def ir.sig:List CT:=[.int .i64,.int .u64,.int .u32,.str]
def nZ.sig:List CT:=[.str,.int .u32]
def rB.sig:List CT:=[.int .u32,.int .u32,.int .i64]
def kZ.sig:List CT:=[.int .i64,.str,.bool]
def w4.sig:List CT:=[.bool,.bool,.bool,.int .i32,.int .i32]
def RK.sig:RK->List CT
 |.bz=>kG.sig
 |.aa=>fj.sig
 |.str=>[.str]
 |.bu=>ir.sig
 |.bn=>kY.sig
 |.dm=>nZ.sig
 |.ak=>ki.sig
 |.aw=>nz.sig
 |.fg=>pE.sig
 |.av=>kZ.sig
def RK.cells:(k:RK)->RK.T k->List D
 |.bz,x=>kG.cells x
 |.aa,x=>fj.cells x
 |.str,x=>[.str x]
 |.bu,x=>ir.cells x
 |.bn,x=>kY.cells x
 |.dm,x=>nZ.cells x
 |.ak,x=>ki.cells x
 |.aw,x=>nz.cells x
 |.fg,x=>pE.cells x
 |.av,x=>kZ.cells x
def RK.of:(k:RK)->List D->RK.T k
 |.bz,cs=>kG.of cs
 |.aa,cs=>fj.of cs
 |.str,cs=>(cs.getD 0 .dead).toStr
 |.bu,cs=>ir.of cs
 |.bn,cs=>kY.of cs
 |.dm,cs=>nZ.of cs
 |.ak,cs=>ki.of cs
 |.aw,cs=>nz.of cs
 |.fg,cs=>pE.of cs
 |.av,cs=>kZ.of cs
theorem RK.Bw(k:RK)(cs:List D):k.cells (k.of cs)=uY k.sig cs 0:=by cases k<;>kernel_rfl
theorem RK.oa(k:RK)(x:RK.T k):uY k.sig (k.cells x) 0=k.cells x:=by cases k<;>kernel_rfl
theorem RK.tO(k:RK):k.sig.length=k.size:=by cases k<;>rfl
