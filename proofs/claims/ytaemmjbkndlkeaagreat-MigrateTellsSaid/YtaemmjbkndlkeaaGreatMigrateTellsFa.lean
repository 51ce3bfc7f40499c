import Derived.WalkKit
import Derived.KernelRfl
set_option linter.all false
namespace Go.GD
variable {m n:Nat}{p:Prop}
theorem oY{p:Prop}[Decidable p](h:decide p=true):p:=of_decide_eq_true h
theorem oN[Decidable p](h:decide p=false):¬p:=of_decide_eq_false h
theorem dY[Decidable p](h:p):decide p=true:=decide_eq_true h
theorem dN[Decidable p](h:¬p):decide p=false:=decide_eq_false h
theorem bE(h:Nat.beq n m=true):n=m:=Nat.eq_of_beq_eq_true h
theorem lE(h:Nat.ble n m=true):n<=m:=Nat.le_of_ble_eq_true h
theorem aE(a b:Bool):((a&&b)=true)=(a=true/\b=true):=Bool.and_eq_true a b
theorem lA{α:Type}{a b:List α}:(a++b).length=a.length+b.length:=List.length_append
structure A5(α:Type) where
 (a0 a1 a2 a3 a4:α)
 deriving DecidableEq,Inhabited
def A5.l{α:Type}(x:A5 α):List α:=[x.a0,x.a1,x.a2,x.a3,x.a4]
def A5.of{α:Type}(z:α)(l:List α):A5 α:=⟨l.getD 0 z,l.getD 1 z,l.getD 2 z,l.getD 3 z,l.getD 4 z⟩
structure A8(α:Type) where
 (a0 a1 a2 a3 a4 a5 a6 a7:α)
 deriving DecidableEq,Inhabited
def A8.l{α:Type}(x:A8 α):List α:=[x.a0,x.a1,x.a2,x.a3,x.a4,x.a5,x.a6,x.a7]
def A8.of{α:Type}(z:α)(l:List α):A8 α:=⟨l.getD 0 z,l.getD 1 z,l.getD 2 z,l.getD 3 z,l.getD 4 z,l.getD 5 z,l.getD 6 z,l.getD 7 z⟩
structure jg(α:Type) where
 (a0 a1 a2 a3 a4 a5 a6 a7 a8 a9 ug uh a12 ui uj uk:α)
 deriving DecidableEq,Inhabited
def jg.l{α:Type}(x:jg α):List α:=[x.a0,x.a1,x.a2,x.a3,x.a4,x.a5,x.a6,x.a7,x.a8,x.a9,x.ug,x.uh,x.a12,x.ui,x.uj,x.uk]
def jg.of{α:Type}(z:α)(l:List α):jg α:=⟨l.getD 0 z,l.getD 1 z,l.getD 2 z,l.getD 3 z,l.getD 4 z,l.getD 5 z,l.getD 6 z,l.getD 7 z,l.getD 8 z,l.getD 9 z,l.getD 10 z,l.getD 11 z,l.getD 12 z,l.getD 13 z,l.getD 14 z,l.getD 15 z⟩
structure cq where
 X:(jg Int)
 Pc:Int
 C4:(A8 Int)
 deriving DecidableEq,Inhabited
structure jn where
 D9:(List UInt8)
 deriving DecidableEq,Inhabited
structure jx where
 E0:Bool
 D0:Int
 D8:Bool
 deriving DecidableEq,Inhabited
structure gk where
 ab:Int
 C8:Int
 Frame:Int
 C9:Int
 F5:Int
 C5:Int
 C6:Int
 C7:(List UInt8)
 deriving DecidableEq,Inhabited
structure iq where
 Frame:Int
 F7:Int
 D2:Bool
 D5:Int
 C3:Bool
 F8:Int
 deriving DecidableEq,Inhabited
structure ie where
 A2:Int
 D1:Int
 deriving DecidableEq,Inhabited
structure bj where
 B2:cq
 Mem:(List Int)
 B3:jn
 C1:jx
 B6:gk
 D4:iq
 B0:ie
 B9:Int
 B4:Bool
 B8:Bool
 deriving DecidableEq,Inhabited
structure fc where
 A6:(List Bool)
 B5:Int
 D6:Int
 deriving DecidableEq,Inhabited
structure fu where
 A4:Int
 A0:bj
 B1:fc
 A3:(List Int)
 B7:(List Int)
 D3:Int
 deriving DecidableEq,Inhabited
structure gu where
 ab:(List (List UInt8))
 D3:Int
 D7:Int
 deriving DecidableEq,Inhabited
structure ep where
 C2:Int
 B5:Int
 Frame:Int
 F0:(List UInt8)
 A0:bj
 A3:(List Int)
 deriving DecidableEq,Inhabited
structure cj where
 A1:fu
 A2:fu
 A7:(List ep)
 C0:(List ep)
 A9:gu
 deriving DecidableEq,Inhabited
structure jd where
 C2:Int
 N:Int
 C0:Bool
 F2:Int
 deriving DecidableEq,Inhabited
structure fm where
 A1:fu
 A2:fu
 A7:(List ep)
 C0:(List ep)
 A9:gu
 deriving DecidableEq,Inhabited
structure um where
 AO:Int
 od:Int
 deriving DecidableEq,Inhabited
structure kz where
 Frame:Int
 F0:(List UInt8)
 deriving DecidableEq,Inhabited
structure ma where
 C2:Int
 F1:Int
 F9:Int
 Value:Int
 deriving DecidableEq,Inhabited
structure oe where
 kT:Int
 num:Int
 label:(List UInt8)
 deriving DecidableEq,Inhabited
structure kQ where
 eh:(List UInt8)
 op:Int
 l:(List oe)
 F4:Int
 at_:Int
 size:Int
 deriving DecidableEq,Inhabited
structure ig where
 Op:Int
 A:Int
 B:Int
 C:Int
 cv:Int
 deriving DecidableEq,Inhabited
structure wU where
 C2:Int
 N:Int
 F0:(List UInt8)
 deriving DecidableEq,Inhabited
structure rB where
 At:Int
 Event:wU
 deriving DecidableEq,Inhabited
structure ir where
 C2:Int
 At:Int
 C8:Int
 F0:(List UInt8)
 deriving DecidableEq,Inhabited
structure oL where
 Name:(List UInt8)
 Addr:Int
 deriving DecidableEq,Inhabited
structure sq where
 Addr:Int
 G1:Int
 G0:Int
 deriving DecidableEq,Inhabited
structure lQ where
 kind:Int
 F3:(List UInt8)
 AP:Bool
 deriving DecidableEq,Inhabited
structure AQ where
 a:Bool
 b:Bool
 c:Bool
 low:Int
 F6:Int
 deriving DecidableEq,Inhabited
inductive RK where
 |ba|ae|str|cu|bh|dq|ak|ay|fj|ax
 deriving DecidableEq
@[reducible] def RK.T:RK->Type
 |.ba=>jd
 |.ae=>ep
 |.str=>(List UInt8)
 |.cu=>ir
 |.bh=>kz
 |.dq=>oL
 |.ak=>kQ
 |.ay=>oe
 |.fj=>rB
 |.ax=>lQ
def RK.dk:(k:RK)->RK.T k
 |.ba=>(default:jd)
 |.ae=>(default:ep)
 |.str=>(default:List UInt8)
 |.cu=>(default:ir)
 |.bh=>(default:kz)
 |.dq=>(default:oL)
 |.ak=>(default:kQ)
 |.ay=>(default:oe)
 |.fj=>(default:rB)
 |.ax=>(default:lQ)
def RK.Oz:Nat->Option RK
 |61=>some .ba
 |80=>some .ae
 |9=>some .str
 |232=>some .cu
 |146=>some .bh
 |243=>some .dq
 |177=>some .ak
 |179=>some .ay
 |193=>some .fj
 |290=>some .ax
 |_=>none
end Go.GD
namespace Go.GD
open Go
instance (k:RK):Inhabited (RK.T k):=⟨RK.dk k⟩
mutual
inductive D where
 |bool (b:Bool)
 |int (k:IntKind) (n:Int)
 |str (s:List UInt8)
 |sl (sz:Nat) (es:ag) (fr:Bool)
 |all (r:Nat)
 |own (r o n:Nat)
 |ptr (r i off:Nat)
 |pa (r i off len:Nat) (k:Option IntKind) (n:Nat)
 |iu (sz:Nat) (es:ag) (i off:Nat)
 |iQ
 |c8
 |emp
 |nA (es:ag)
 |dead
 |gv (f:Nat) (cs:List iS)
 |gw (r:Nat)
 |j4
 |agg (cs:List D)
 |dw (ds:List D)
inductive ag where
 |gen (es:List (List D))
 |ints (k:IntKind) (l:List Int)
 |ah (l:List Bool)
 |ao (k:RK) (l:List (RK.T k))
inductive iS where
 |ptr (r i off:Nat)
 |int (k:IntKind) (n:Int)
 |arr (r:Nat)
 |sl (sz:Nat) (es:ag) (fr:Bool)
 |fn (f:Nat) (ps:List (Nat×Nat×Nat))
end
instance:Inhabited D:=⟨.dead⟩
instance:Inhabited ag:=⟨.gen []⟩
def Ja(p:Nat×Nat×Nat):iS:=.ptr p.1 p.2.1 p.2.2
def iS.d:iS->D|.ptr r i off=>.ptr r i off|.int k n=>.int k n|.arr r=>.all r|.sl a b c=>.sl a b c|.fn f ps=>.gv f (ps.map Ja)
def D.isInt(k:IntKind):D->Bool|.int j _=>decide (j=k)|_=>false
def D.toInt:D->Int|.int _ n=>n|_=>0
def D.isBool:D->Bool|.bool _=>true|_=>false
def D.toBool:D->Bool|.bool b=>b|_=>false
def D.isStr:D->Bool|.str _=>true|_=>false
def D.toStr:D->List UInt8|.str s=>s|_=>[]
def Ha(k k':RK)(l:List (RK.T k)):Option (List (RK.T k')):=if h:k=k' then some (h▸l)else none
theorem Yr(k:RK)(l:List (RK.T k)):Ha k k l=some l:=by simp[Ha]
theorem Ys{k k':RK}{l:List (RK.T k)}{m:List (RK.T k')}(h:Ha k k' l=some m):∃e:k=k',e▸l=m:=by
 unfold Ha at h
 split at h
 ·rename_i e;cases h;exact⟨e,rfl⟩
 ·cases h
def ag.toI(k:IntKind):ag->Option (List Int)
 |.ints k' l=>match decide (k'=k)with|true=>some l|false=>none
 |.gen []=>some []
 |_=>none
def ag.toB:ag->Option (List Bool)
 |.ah l=>some l
 |.gen []=>some []
 |_=>none
def ag.toR(k:RK):ag->Option (List (RK.T k))
 |.ao k' l=>Ha k' k l
 |.gen []=>some []
 |_=>none
inductive CT where|int(k:IntKind)|bool|str|ints(k:IntKind)|ah|ao(k:RK)|row(i:Nat)|nil|Jb|self(i:Nat)|pt(i o f:Nat)|gv(f:Nat)(cs:List iS)
def iv(k:IntKind):D->List Int|.sl _ E _=>(match E.toI k with|some l=>l|none=>[])|_=>[]
def mb:D->List Bool|.sl _ E _=>(match E.toB with|some l=>l|none=>[])|_=>[]
def nN(k:RK):D->List (RK.T k)|.sl _ E _=>(match E.toR k with|some l=>l|none=>[])|_=>[]
def cq.cells(x:cq):List D:=[.int .u32 x.X.a0,.int .u32 x.X.a1,.int .u32 x.X.a2,.int .u32 x.X.a3,.int .u32 x.X.a4,.int .u32 x.X.a5,.int .u32 x.X.a6,.int .u32 x.X.a7,.int .u32 x.X.a8,.int .u32 x.X.a9,.int .u32 x.X.ug,.int .u32 x.X.uh,.int .u32 x.X.a12,.int .u32 x.X.ui,.int .u32 x.X.uj,.int .u32 x.X.uk,.int .u32 x.Pc,.int .u32 x.C4.a0,.int .u32 x.C4.a1,.int .u32 x.C4.a2,.int .u32 x.C4.a3,.int .u32 x.C4.a4,.int .u32 x.C4.a5,.int .u32 x.C4.a6,.int .u32 x.C4.a7]
def bb(c:List D)(i:Nat):Int:=(c.getD i .dead).toInt
def jQ(c:List D)(i:Nat):Bool:=(c.getD i .dead).toBool
def nO(c:List D)(i:Nat):List UInt8:=(c.getD i .dead).toStr
def cq.of(cs:List D):cq:=(⟨(⟨bb cs 0,bb cs 1,bb cs 2,bb cs 3,bb cs 4,bb cs 5,bb cs 6,bb cs 7,bb cs 8,bb cs 9,bb cs 10,bb cs 11,bb cs 12,bb cs 13,bb cs 14,bb cs 15⟩:(jg Int)),bb cs 16,(⟨bb cs 17,bb cs 18,bb cs 19,bb cs 20,bb cs 21,bb cs 22,bb cs 23,bb cs 24⟩:(A8 Int))⟩:cq)
def jn.cells(x:jn):List D:=[.str x.D9]
def jn.of(cs:List D):jn:=(⟨nO cs 0⟩:jn)
def jx.cells(x:jx):List D:=[.bool x.E0,.int .u32 x.D0,.bool x.D8]
def jx.of(cs:List D):jx:=(⟨jQ cs 0,bb cs 1,jQ cs 2⟩:jx)
def gk.cells(x:gk):List D:=[.int .u32 x.ab,.int .u32 x.C8,.int .u32 x.Frame,.int .i64 x.C9,.int .i64 x.F5,.int .u32 x.C5,.int .u32 x.C6,.str x.C7]
def gk.of(cs:List D):gk:=(⟨bb cs 0,bb cs 1,bb cs 2,bb cs 3,bb cs 4,bb cs 5,bb cs 6,nO cs 7⟩:gk)
def iq.cells(x:iq):List D:=[.int .u32 x.Frame,.int .u32 x.F7,.bool x.D2,.int .u32 x.D5,.bool x.C3,.int .u32 x.F8]
def iq.of(cs:List D):iq:=(⟨bb cs 0,bb cs 1,jQ cs 2,bb cs 3,jQ cs 4,bb cs 5⟩:iq)
def ie.cells(x:ie):List D:=[.int .u32 x.A2,.int .u32 x.D1]
def ie.of(cs:List D):ie:=(⟨bb cs 0,bb cs 1⟩:ie)
def bj.cg(x:bj)(s0:D):List D:=List.append (cq.cells x.B2) (s0::.str x.B3.D9::List.append (jx.cells x.C1) (List.append (gk.cells x.B6) (List.append (iq.cells x.D4) (.int .u32 x.B0.A2::.int .u32 x.B0.D1::.int .u64 x.B9::.bool x.B4::[.bool x.B8]))))
def bj.cells(x:bj):List D:=bj.cg x (.sl 1 (.ints .u32 x.Mem) false)
def bj.og(cs:List D)(s0:List Int):bj:=(⟨(⟨(⟨bb cs 0,bb cs 1,bb cs 2,bb cs 3,bb cs 4,bb cs 5,bb cs 6,bb cs 7,bb cs 8,bb cs 9,bb cs 10,bb cs 11,bb cs 12,bb cs 13,bb cs 14,bb cs 15⟩:(jg Int)),bb cs 16,(⟨bb cs 17,bb cs 18,bb cs 19,bb cs 20,bb cs 21,bb cs 22,bb cs 23,bb cs 24⟩:(A8 Int))⟩:cq),s0,(⟨nO cs 26⟩:jn),(⟨jQ cs 27,bb cs 28,jQ cs 29⟩:jx),(⟨bb cs 30,bb cs 31,bb cs 32,bb cs 33,bb cs 34,bb cs 35,bb cs 36,nO cs 37⟩:gk),(⟨bb cs 38,bb cs 39,jQ cs 40,bb cs 41,jQ cs 42,bb cs 43⟩:iq),(⟨bb cs 44,bb cs 45⟩:ie),bb cs 46,jQ cs 47,jQ cs 48⟩:bj)
def bj.of(cs:List D):bj:=bj.og cs (iv .u32 (cs.getD 25 .dead))
def fc.cg(x:fc)(s0:D):List D:=[s0,.int .i64 x.B5,.int .i64 x.D6]
def fc.cells(x:fc):List D:=fc.cg x (.sl 1 (.ah x.A6) false)
def fc.og(cs:List D)(s0:List Bool):fc:=(⟨s0,bb cs 1,bb cs 2⟩:fc)
def fc.of(cs:List D):fc:=fc.og cs (mb (cs.getD 0 .dead))
def fu.cg(x:fu)(s0 s1 s2 s3:D):List D:=.int .i64 x.A4::List.append (bj.cg x.A0 s0) (List.append (fc.cg x.B1 s1) (s2::s3::[.int .u64 x.D3]))
def fu.cells(x:fu):List D:=fu.cg x (.sl 1 (.ints .u32 x.A0.Mem) false) (.sl 1 (.ah x.B1.A6) false) (.sl 1 (.ints .i64 x.A3) false) (.sl 1 (.ints .i64 x.B7) false)
def fu.og(cs:List D)(s0:List Int)(s1:List Bool)(s2 s3:List Int):fu:=(⟨bb cs 0,(⟨(⟨(⟨bb cs 1,bb cs 2,bb cs 3,bb cs 4,bb cs 5,bb cs 6,bb cs 7,bb cs 8,bb cs 9,bb cs 10,bb cs 11,bb cs 12,bb cs 13,bb cs 14,bb cs 15,bb cs 16⟩:(jg Int)),bb cs 17,(⟨bb cs 18,bb cs 19,bb cs 20,bb cs 21,bb cs 22,bb cs 23,bb cs 24,bb cs 25⟩:(A8 Int))⟩:cq),s0,(⟨nO cs 27⟩:jn),(⟨jQ cs 28,bb cs 29,jQ cs 30⟩:jx),(⟨bb cs 31,bb cs 32,bb cs 33,bb cs 34,bb cs 35,bb cs 36,bb cs 37,nO cs 38⟩:gk),(⟨bb cs 39,bb cs 40,jQ cs 41,bb cs 42,jQ cs 43,bb cs 44⟩:iq),(⟨bb cs 45,bb cs 46⟩:ie),bb cs 47,jQ cs 48,jQ cs 49⟩:bj),(⟨s1,bb cs 51,bb cs 52⟩:fc),s2,s3,bb cs 55⟩:fu)
def fu.of(cs:List D):fu:=fu.og cs (iv .u32 (cs.getD 26 .dead)) (mb (cs.getD 50 .dead)) (iv .i64 (cs.getD 53 .dead)) (iv .i64 (cs.getD 54 .dead))
def gu.cg(x:gu)(s0:D):List D:=[s0,.int .u64 x.D3,.int .i64 x.D7]
def gu.cells(x:gu):List D:=gu.cg x (.sl 1 (.ao .str x.ab) false)
def gu.og(cs:List D)(s0:List (List UInt8)):gu:=(⟨s0,bb cs 1,bb cs 2⟩:gu)
def gu.of(cs:List D):gu:=gu.og cs (nN .str (cs.getD 0 .dead))
def ep.cg(x:ep)(s0 s1:D):List D:=.int .i64 x.C2::.int .i64 x.B5::.int .i64 x.Frame::.str x.F0::List.append (bj.cg x.A0 s0) ([s1])
def ep.cells(x:ep):List D:=ep.cg x (.sl 1 (.ints .u32 x.A0.Mem) false) (.sl 1 (.ints .i64 x.A3) false)
def ep.og(cs:List D)(s0 s1:List Int):ep:=(⟨bb cs 0,bb cs 1,bb cs 2,nO cs 3,(⟨(⟨(⟨bb cs 4,bb cs 5,bb cs 6,bb cs 7,bb cs 8,bb cs 9,bb cs 10,bb cs 11,bb cs 12,bb cs 13,bb cs 14,bb cs 15,bb cs 16,bb cs 17,bb cs 18,bb cs 19⟩:(jg Int)),bb cs 20,(⟨bb cs 21,bb cs 22,bb cs 23,bb cs 24,bb cs 25,bb cs 26,bb cs 27,bb cs 28⟩:(A8 Int))⟩:cq),s0,(⟨nO cs 30⟩:jn),(⟨jQ cs 31,bb cs 32,jQ cs 33⟩:jx),(⟨bb cs 34,bb cs 35,bb cs 36,bb cs 37,bb cs 38,bb cs 39,bb cs 40,nO cs 41⟩:gk),(⟨bb cs 42,bb cs 43,jQ cs 44,bb cs 45,jQ cs 46,bb cs 47⟩:iq),(⟨bb cs 48,bb cs 49⟩:ie),bb cs 50,jQ cs 51,jQ cs 52⟩:bj),s1⟩:ep)
def ep.of(cs:List D):ep:=ep.og cs (iv .u32 (cs.getD 29 .dead)) (iv .i64 (cs.getD 53 .dead))
def cj.cg(x:cj)(s0 s1 s2 s3 s4 s5 s6 s7 s8 s9 Cw:D):List D:=List.append (fu.cg x.A1 s0 s1 s2 s3) (List.append (fu.cg x.A2 s4 s5 s6 s7) (s8::s9::gu.cg x.A9 Cw))
def cj.cells(x:cj):List D:=cj.cg x (.sl 1 (.ints .u32 x.A1.A0.Mem) false) (.sl 1 (.ah x.A1.B1.A6) false) (.sl 1 (.ints .i64 x.A1.A3) false) (.sl 1 (.ints .i64 x.A1.B7) false) (.sl 1 (.ints .u32 x.A2.A0.Mem) false) (.sl 1 (.ah x.A2.B1.A6) false) (.sl 1 (.ints .i64 x.A2.A3) false) (.sl 1 (.ints .i64 x.A2.B7) false) (.sl 54 (.ao .ae x.A7) false) (.sl 54 (.ao .ae x.C0) false) (.sl 1 (.ao .str x.A9.ab) false)
def cj.og(cs:List D)(s0:List Int)(s1:List Bool)(s2 s3 s4:List Int)(s5:List Bool)(s6 s7:List Int)(s8 s9:List ep)(Cw:List (List UInt8)):cj:=(⟨(⟨bb cs 0,(⟨(⟨(⟨bb cs 1,bb cs 2,bb cs 3,bb cs 4,bb cs 5,bb cs 6,bb cs 7,bb cs 8,bb cs 9,bb cs 10,bb cs 11,bb cs 12,bb cs 13,bb cs 14,bb cs 15,bb cs 16⟩:(jg Int)),bb cs 17,(⟨bb cs 18,bb cs 19,bb cs 20,bb cs 21,bb cs 22,bb cs 23,bb cs 24,bb cs 25⟩:(A8 Int))⟩:cq),s0,(⟨nO cs 27⟩:jn),(⟨jQ cs 28,bb cs 29,jQ cs 30⟩:jx),(⟨bb cs 31,bb cs 32,bb cs 33,bb cs 34,bb cs 35,bb cs 36,bb cs 37,nO cs 38⟩:gk),(⟨bb cs 39,bb cs 40,jQ cs 41,bb cs 42,jQ cs 43,bb cs 44⟩:iq),(⟨bb cs 45,bb cs 46⟩:ie),bb cs 47,jQ cs 48,jQ cs 49⟩:bj),(⟨s1,bb cs 51,bb cs 52⟩:fc),s2,s3,bb cs 55⟩:fu),(⟨bb cs 56,(⟨(⟨(⟨bb cs 57,bb cs 58,bb cs 59,bb cs 60,bb cs 61,bb cs 62,bb cs 63,bb cs 64,bb cs 65,bb cs 66,bb cs 67,bb cs 68,bb cs 69,bb cs 70,bb cs 71,bb cs 72⟩:(jg Int)),bb cs 73,(⟨bb cs 74,bb cs 75,bb cs 76,bb cs 77,bb cs 78,bb cs 79,bb cs 80,bb cs 81⟩:(A8 Int))⟩:cq),s4,(⟨nO cs 83⟩:jn),(⟨jQ cs 84,bb cs 85,jQ cs 86⟩:jx),(⟨bb cs 87,bb cs 88,bb cs 89,bb cs 90,bb cs 91,bb cs 92,bb cs 93,nO cs 94⟩:gk),(⟨bb cs 95,bb cs 96,jQ cs 97,bb cs 98,jQ cs 99,bb cs 100⟩:iq),(⟨bb cs 101,bb cs 102⟩:ie),bb cs 103,jQ cs 104,jQ cs 105⟩:bj),(⟨s5,bb cs 107,bb cs 108⟩:fc),s6,s7,bb cs 111⟩:fu),s8,s9,(⟨Cw,bb cs 115,bb cs 116⟩:gu)⟩:cj)
def cj.of(cs:List D):cj:=cj.og cs (iv .u32 (cs.getD 26 .dead)) (mb (cs.getD 50 .dead)) (iv .i64 (cs.getD 53 .dead)) (iv .i64 (cs.getD 54 .dead)) (iv .u32 (cs.getD 82 .dead)) (mb (cs.getD 106 .dead)) (iv .i64 (cs.getD 109 .dead)) (iv .i64 (cs.getD 110 .dead)) (nN .ae (cs.getD 112 .dead)) (nN .ae (cs.getD 113 .dead)) (nN .str (cs.getD 114 .dead))
def jd.cells(x:jd):List D:=[.int .i64 x.C2,.int .i64 x.N,.bool x.C0,.int .u32 x.F2]
def jd.of(cs:List D):jd:=(⟨bb cs 0,bb cs 1,jQ cs 2,bb cs 3⟩:jd)
def fm.cg(x:fm)(s0 s1 s2 s3 s4 s5 s6 s7 s8 s9 Cw:D):List D:=List.append (fu.cg x.A1 s0 s1 s2 s3) (List.append (fu.cg x.A2 s4 s5 s6 s7) (s8::s9::gu.cg x.A9 Cw))
def fm.cells(x:fm):List D:=fm.cg x (.sl 1 (.ints .u32 x.A1.A0.Mem) false) (.sl 1 (.ah x.A1.B1.A6) false) (.sl 1 (.ints .i64 x.A1.A3) false) (.sl 1 (.ints .i64 x.A1.B7) false) (.sl 1 (.ints .u32 x.A2.A0.Mem) false) (.sl 1 (.ah x.A2.B1.A6) false) (.sl 1 (.ints .i64 x.A2.A3) false) (.sl 1 (.ints .i64 x.A2.B7) false) (.sl 54 (.ao .ae x.A7) false) (.sl 54 (.ao .ae x.C0) false) (.sl 1 (.ao .str x.A9.ab) false)
def fm.og(cs:List D)(s0:List Int)(s1:List Bool)(s2 s3 s4:List Int)(s5:List Bool)(s6 s7:List Int)(s8 s9:List ep)(Cw:List (List UInt8)):fm:=(⟨(⟨bb cs 0,(⟨(⟨(⟨bb cs 1,bb cs 2,bb cs 3,bb cs 4,bb cs 5,bb cs 6,bb cs 7,bb cs 8,bb cs 9,bb cs 10,bb cs 11,bb cs 12,bb cs 13,bb cs 14,bb cs 15,bb cs 16⟩:(jg Int)),bb cs 17,(⟨bb cs 18,bb cs 19,bb cs 20,bb cs 21,bb cs 22,bb cs 23,bb cs 24,bb cs 25⟩:(A8 Int))⟩:cq),s0,(⟨nO cs 27⟩:jn),(⟨jQ cs 28,bb cs 29,jQ cs 30⟩:jx),(⟨bb cs 31,bb cs 32,bb cs 33,bb cs 34,bb cs 35,bb cs 36,bb cs 37,nO cs 38⟩:gk),(⟨bb cs 39,bb cs 40,jQ cs 41,bb cs 42,jQ cs 43,bb cs 44⟩:iq),(⟨bb cs 45,bb cs 46⟩:ie),bb cs 47,jQ cs 48,jQ cs 49⟩:bj),(⟨s1,bb cs 51,bb cs 52⟩:fc),s2,s3,bb cs 55⟩:fu),(⟨bb cs 56,(⟨(⟨(⟨bb cs 57,bb cs 58,bb cs 59,bb cs 60,bb cs 61,bb cs 62,bb cs 63,bb cs 64,bb cs 65,bb cs 66,bb cs 67,bb cs 68,bb cs 69,bb cs 70,bb cs 71,bb cs 72⟩:(jg Int)),bb cs 73,(⟨bb cs 74,bb cs 75,bb cs 76,bb cs 77,bb cs 78,bb cs 79,bb cs 80,bb cs 81⟩:(A8 Int))⟩:cq),s4,(⟨nO cs 83⟩:jn),(⟨jQ cs 84,bb cs 85,jQ cs 86⟩:jx),(⟨bb cs 87,bb cs 88,bb cs 89,bb cs 90,bb cs 91,bb cs 92,bb cs 93,nO cs 94⟩:gk),(⟨bb cs 95,bb cs 96,jQ cs 97,bb cs 98,jQ cs 99,bb cs 100⟩:iq),(⟨bb cs 101,bb cs 102⟩:ie),bb cs 103,jQ cs 104,jQ cs 105⟩:bj),(⟨s5,bb cs 107,bb cs 108⟩:fc),s6,s7,bb cs 111⟩:fu),s8,s9,(⟨Cw,bb cs 115,bb cs 116⟩:gu)⟩:fm)
def fm.of(cs:List D):fm:=fm.og cs (iv .u32 (cs.getD 26 .dead)) (mb (cs.getD 50 .dead)) (iv .i64 (cs.getD 53 .dead)) (iv .i64 (cs.getD 54 .dead)) (iv .u32 (cs.getD 82 .dead)) (mb (cs.getD 106 .dead)) (iv .i64 (cs.getD 109 .dead)) (iv .i64 (cs.getD 110 .dead)) (nN .ae (cs.getD 112 .dead)) (nN .ae (cs.getD 113 .dead)) (nN .str (cs.getD 114 .dead))
def um.cells(x:um):List D:=[.int .i64 x.AO,.int .i64 x.od]
def um.of(cs:List D):um:=(⟨bb cs 0,bb cs 1⟩:um)
def kz.cells(x:kz):List D:=[.int .i64 x.Frame,.str x.F0]
def kz.of(cs:List D):kz:=(⟨bb cs 0,nO cs 1⟩:kz)
def ma.cells(x:ma):List D:=[.int .i64 x.C2,.int .i64 x.F1,.int .i64 x.F9,.int .u32 x.Value]
def ma.of(cs:List D):ma:=(⟨bb cs 0,bb cs 1,bb cs 2,bb cs 3⟩:ma)
def oe.cells(x:oe):List D:=[.int .i64 x.kT,.int .i64 x.num,.str x.label]
def oe.of(cs:List D):oe:=(⟨bb cs 0,bb cs 1,nO cs 2⟩:oe)
def kQ.cg(x:kQ)(s0:D):List D:=[.str x.eh,.int .i64 x.op,s0,.int .i64 x.F4,.int .i64 x.at_,.int .i64 x.size]
def kQ.cells(x:kQ):List D:=kQ.cg x (.sl 3 (.ao .ay x.l) false)
def kQ.og(cs:List D)(s0:List oe):kQ:=(⟨nO cs 0,bb cs 1,s0,bb cs 3,bb cs 4,bb cs 5⟩:kQ)
def kQ.of(cs:List D):kQ:=kQ.og cs (nN .ay (cs.getD 2 .dead))
def ig.cells(x:ig):List D:=[.int .i64 x.Op,.int .i64 x.A,.int .i64 x.B,.int .i64 x.C,.int .i32 x.cv]
def ig.of(cs:List D):ig:=(⟨bb cs 0,bb cs 1,bb cs 2,bb cs 3,bb cs 4⟩:ig)
def wU.cells(x:wU):List D:=[.int .i64 x.C2,.int .u32 x.N,.str x.F0]
def wU.of(cs:List D):wU:=(⟨bb cs 0,bb cs 1,nO cs 2⟩:wU)
def rB.cells(x:rB):List D:=[.int .u64 x.At,.int .i64 x.Event.C2,.int .u32 x.Event.N,.str x.Event.F0]
def rB.of(cs:List D):rB:=(⟨bb cs 0,(⟨bb cs 1,bb cs 2,nO cs 3⟩:wU)⟩:rB)
def ir.cells(x:ir):List D:=[.int .i64 x.C2,.int .u64 x.At,.int .u32 x.C8,.str x.F0]
def ir.of(cs:List D):ir:=(⟨bb cs 0,bb cs 1,bb cs 2,nO cs 3⟩:ir)
def oL.cells(x:oL):List D:=[.str x.Name,.int .u32 x.Addr]
def oL.of(cs:List D):oL:=(⟨nO cs 0,bb cs 1⟩:oL)
def sq.cells(x:sq):List D:=[.int .u32 x.Addr,.int .u32 x.G1,.int .i64 x.G0]
def sq.of(cs:List D):sq:=(⟨bb cs 0,bb cs 1,bb cs 2⟩:sq)
def lQ.cells(x:lQ):List D:=[.int .i64 x.kind,.str x.F3,.bool x.AP]
def lQ.of(cs:List D):lQ:=(⟨bb cs 0,nO cs 1,jQ cs 2⟩:lQ)
def AQ.cells(x:AQ):List D:=[.bool x.a,.bool x.b,.bool x.c,.int .i32 x.low,.int .i32 x.F6]
def AQ.of(cs:List D):AQ:=(⟨jQ cs 0,jQ cs 1,jQ cs 2,bb cs 3,bb cs 4⟩:AQ)
def RK.size:RK->Nat
 |.ba=>4
 |.ae=>54
 |.str=>1
 |.cu=>4
 |.bh=>2
 |.dq=>2
 |.ak=>6
 |.ay=>3
 |.fj=>4
 |.ax=>3
def Ey:CT->D->D
 |.int k,d=>.int k d.toInt
 |.bool,d=>.bool d.toBool
 |.str,d=>.str d.toStr
 |.ints k,d=>.sl 1 (.ints k (iv k d)) false
 |.ah,d=>.sl 1 (.ah (mb d)) false
 |.ao k,d=>.sl k.size (.ao k (nN k d)) false
 |.row i,_=>.all i
 |.nil,_=>.sl 0 (.gen []) false
 |.Jb,_=>.c8
 |.self i,_=>.gw i
 |.pt i o f,_=>.ptr i o f
 |.gv f cs,_=>.gv f cs
def wV:List CT->List D->Nat->List D
 |[],_,_=>[]
 |t::ts,cs,j=>Ey t (cs.getD j .dead)::wV ts cs (j+1)
def oz:Nat->List CT->List CT
 |0,l=>l
 |n+1,l=>.int .u32::oz n l
def cq.sig:List CT:=oz 25 []
def jn.sig:List CT:=[.str]
def jx.sig:List CT:=[.bool,.int .u32,.bool]
def gk.sig:List CT:=oz 3 (.int .i64::.int .i64::.int .u32::.int .u32::[.str])
def iq.sig:List CT:=[.int .u32,.int .u32,.bool,.int .u32,.bool,.int .u32]
def ie.sig:List CT:=[.int .u32,.int .u32]
def bj.kA(s0:CT):List CT:=oz 25 (s0::.str::.bool::.int .u32::.bool::oz 3 (.int .i64::.int .i64::.int .u32::.int .u32::.str::.int .u32::.int .u32::.bool::.int .u32::.bool::oz 3 (.int .u64::.bool::[.bool])))
def bj.sig:List CT:=bj.kA (.ints .u32)
def fc.kA(s0:CT):List CT:=[s0,.int .i64,.int .i64]
def fc.sig:List CT:=fc.kA (.ah)
def fu.kA(s0 s1 s2 s3:CT):List CT:=.int .i64::oz 25 (s0::.str::.bool::.int .u32::.bool::oz 3 (.int .i64::.int .i64::.int .u32::.int .u32::.str::.int .u32::.int .u32::.bool::.int .u32::.bool::oz 3 (.int .u64::.bool::.bool::s1::.int .i64::.int .i64::s2::s3::[.int .u64])))
def fu.sig:List CT:=fu.kA (.ints .u32) (.ah) (.ints .i64) (.ints .i64)
def gu.kA(s0:CT):List CT:=[s0,.int .u64,.int .i64]
def gu.sig:List CT:=gu.kA (.ao .str)
def ep.kA(s0 s1:CT):List CT:=.int .i64::.int .i64::.int .i64::.str::oz 25 (s0::.str::.bool::.int .u32::.bool::oz 3 (.int .i64::.int .i64::.int .u32::.int .u32::.str::.int .u32::.int .u32::.bool::.int .u32::.bool::oz 3 (.int .u64::.bool::.bool::[s1])))
def ep.sig:List CT:=ep.kA (.ints .u32) (.ints .i64)
def cj.kA(s0 s1 s2 s3 s4 s5 s6 s7 s8 s9 Cw:CT):List CT:=.int .i64::oz 25 (s0::.str::.bool::.int .u32::.bool::oz 3 (.int .i64::.int .i64::.int .u32::.int .u32::.str::.int .u32::.int .u32::.bool::.int .u32::.bool::oz 3 (.int .u64::.bool::.bool::s1::.int .i64::.int .i64::s2::s3::.int .u64::.int .i64::oz 25 (s4::.str::.bool::.int .u32::.bool::oz 3 (.int .i64::.int .i64::.int .u32::.int .u32::.str::.int .u32::.int .u32::.bool::.int .u32::.bool::oz 3 (.int .u64::.bool::.bool::s5::.int .i64::.int .i64::s6::s7::.int .u64::s8::s9::Cw::.int .u64::[.int .i64]))))))
def cj.sig:List CT:=cj.kA (.ints .u32) (.ah) (.ints .i64) (.ints .i64) (.ints .u32) (.ah) (.ints .i64) (.ints .i64) (.ao .ae) (.ao .ae) (.ao .str)
def jd.sig:List CT:=[.int .i64,.int .i64,.bool,.int .u32]
def fm.kA(s0 s1 s2 s3 s4 s5 s6 s7 s8 s9 Cw:CT):List CT:=.int .i64::oz 25 (s0::.str::.bool::.int .u32::.bool::oz 3 (.int .i64::.int .i64::.int .u32::.int .u32::.str::.int .u32::.int .u32::.bool::.int .u32::.bool::oz 3 (.int .u64::.bool::.bool::s1::.int .i64::.int .i64::s2::s3::.int .u64::.int .i64::oz 25 (s4::.str::.bool::.int .u32::.bool::oz 3 (.int .i64::.int .i64::.int .u32::.int .u32::.str::.int .u32::.int .u32::.bool::.int .u32::.bool::oz 3 (.int .u64::.bool::.bool::s5::.int .i64::.int .i64::s6::s7::.int .u64::s8::s9::Cw::.int .u64::[.int .i64]))))))
def fm.sig:List CT:=fm.kA (.ints .u32) (.ah) (.ints .i64) (.ints .i64) (.ints .u32) (.ah) (.ints .i64) (.ints .i64) (.ao .ae) (.ao .ae) (.ao .str)
def um.sig:List CT:=[.int .i64,.int .i64]
def kz.sig:List CT:=[.int .i64,.str]
def ma.sig:List CT:=[.int .i64,.int .i64,.int .i64,.int .u32]
def oe.sig:List CT:=[.int .i64,.int .i64,.str]
def kQ.kA(s0:CT):List CT:=[.str,.int .i64,s0,.int .i64,.int .i64,.int .i64]
def kQ.sig:List CT:=kQ.kA (.ao .ay)
def ig.sig:List CT:=[.int .i64,.int .i64,.int .i64,.int .i64,.int .i32]
def wU.sig:List CT:=[.int .i64,.int .u32,.str]
def rB.sig:List CT:=[.int .u64,.int .i64,.int .u32,.str]
def ir.sig:List CT:=[.int .i64,.int .u64,.int .u32,.str]
def oL.sig:List CT:=[.str,.int .u32]
def sq.sig:List CT:=[.int .u32,.int .u32,.int .i64]
def lQ.sig:List CT:=[.int .i64,.str,.bool]
def AQ.sig:List CT:=[.bool,.bool,.bool,.int .i32,.int .i32]
def RK.sig:RK->List CT
 |.ba=>jd.sig
 |.ae=>ep.sig
 |.str=>[.str]
 |.cu=>ir.sig
 |.bh=>kz.sig
 |.dq=>oL.sig
 |.ak=>kQ.sig
 |.ay=>oe.sig
 |.fj=>rB.sig
 |.ax=>lQ.sig
def RK.cells:(k:RK)->RK.T k->List D
 |.ba,x=>jd.cells x
 |.ae,x=>ep.cells x
 |.str,x=>[.str x]
 |.cu,x=>ir.cells x
 |.bh,x=>kz.cells x
 |.dq,x=>oL.cells x
 |.ak,x=>kQ.cells x
 |.ay,x=>oe.cells x
 |.fj,x=>rB.cells x
 |.ax,x=>lQ.cells x
def RK.of:(k:RK)->List D->RK.T k
 |.ba,cs=>jd.of cs
 |.ae,cs=>ep.of cs
 |.str,cs=>nO cs 0
 |.cu,cs=>ir.of cs
 |.bh,cs=>kz.of cs
 |.dq,cs=>oL.of cs
 |.ak,cs=>kQ.of cs
 |.ay,cs=>oe.of cs
 |.fj,cs=>rB.of cs
 |.ax,cs=>lQ.of cs
theorem RK.Cx(k:RK)(cs:List D):k.cells (k.of cs)=wV k.sig cs 0:=by cases k<;>kernel_rfl
theorem RK.oM(k:RK)(x:RK.T k):wV k.sig (k.cells x) 0=k.cells x:=by cases k<;>kernel_rfl
theorem RK.uM(k:RK):k.sig.length=k.size:=by cases k<;>rfl
