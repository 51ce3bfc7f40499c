import Derived.WalkKit
import Derived.KernelRfl
set_option linter.all false
namespace Go.GD
theorem oY{p:Prop}[Decidable p](h:decide p=true):p:=of_decide_eq_true h
theorem oN{p:Prop}[Decidable p](h:decide p=false):¬p:=of_decide_eq_false h
theorem dY{p:Prop}[Decidable p](h:p):decide p=true:=decide_eq_true h
theorem dN{p:Prop}[Decidable p](h:¬p):decide p=false:=decide_eq_false h
theorem bE{n m:Nat}(h:Nat.beq n m=true):n=m:=Nat.eq_of_beq_eq_true h
theorem lE{n m:Nat}(h:Nat.ble n m=true):n<=m:=Nat.le_of_ble_eq_true h
theorem aE(a b:Bool):((a&&b)=true)=(a=true/\b=true):=Bool.and_eq_true a b
theorem lA{α:Type}{a b:List α}:(a++b).length=a.length+b.length:=List.length_append
structure A5(α:Type) where
 (a0 a1 a2 a3 a4:α)
 deriving DecidableEq,Inhabited
def A5.l{α:Type}(x:A5 α):List α:=[x.a0,x.a1,x.a2,x.a3,x.a4]
def A5.of{α:Type}(z:α)(l:List α):A5 α:=⟨l.getD 0 z,l.getD 1 z,l.getD 2 z,l.getD 3 z,l.getD 4 z⟩
structure A8(α:Type) where
 (a0 a1 a2 a3 a4 a5 a6 a7:α)
 deriving DecidableEq,Inhabited
def A8.l{α:Type}(x:A8 α):List α:=[x.a0,x.a1,x.a2,x.a3,x.a4,x.a5,x.a6,x.a7]
def A8.of{α:Type}(z:α)(l:List α):A8 α:=⟨l.getD 0 z,l.getD 1 z,l.getD 2 z,l.getD 3 z,l.getD 4 z,l.getD 5 z,l.getD 6 z,l.getD 7 z⟩
structure iU(α:Type) where
 (a0 a1 a2 a3 a4 a5 a6 a7 a8 a9 kq kr a12 ku kv ky:α)
 deriving DecidableEq,Inhabited
def iU.l{α:Type}(x:iU α):List α:=[x.a0,x.a1,x.a2,x.a3,x.a4,x.a5,x.a6,x.a7,x.a8,x.a9,x.kq,x.kr,x.a12,x.ku,x.kv,x.ky]
def iU.of{α:Type}(z:α)(l:List α):iU α:=⟨l.getD 0 z,l.getD 1 z,l.getD 2 z,l.getD 3 z,l.getD 4 z,l.getD 5 z,l.getD 6 z,l.getD 7 z,l.getD 8 z,l.getD 9 z,l.getD 10 z,l.getD 11 z,l.getD 12 z,l.getD 13 z,l.getD 14 z,l.getD 15 z⟩
structure SB(α:Type) where
 (a0 a1 a2 a3 a4 a5 a6 a7 a8 a9 kq kr a12 ku kv ky Nh Ni Nj Nk:α)
 deriving DecidableEq,Inhabited
def SB.l{α:Type}(x:SB α):List α:=[x.a0,x.a1,x.a2,x.a3,x.a4,x.a5,x.a6,x.a7,x.a8,x.a9,x.kq,x.kr,x.a12,x.ku,x.kv,x.ky,x.Nh,x.Ni,x.Nj,x.Nk]
def SB.of{α:Type}(z:α)(l:List α):SB α:=⟨l.getD 0 z,l.getD 1 z,l.getD 2 z,l.getD 3 z,l.getD 4 z,l.getD 5 z,l.getD 6 z,l.getD 7 z,l.getD 8 z,l.getD 9 z,l.getD 10 z,l.getD 11 z,l.getD 12 z,l.getD 13 z,l.getD 14 z,l.getD 15 z,l.getD 16 z,l.getD 17 z,l.getD 18 z,l.getD 19 z⟩
structure SC(α:Type) where
 (a0 a1 a2 a3 a4 a5 a6 a7 a8 a9 kq kr a12 ku kv ky Nh Ni Nj Nk a20 a21 a22 Wq:α)
 deriving DecidableEq,Inhabited
def SC.l{α:Type}(x:SC α):List α:=[x.a0,x.a1,x.a2,x.a3,x.a4,x.a5,x.a6,x.a7,x.a8,x.a9,x.kq,x.kr,x.a12,x.ku,x.kv,x.ky,x.Nh,x.Ni,x.Nj,x.Nk,x.a20,x.a21,x.a22,x.Wq]
def SC.of{α:Type}(z:α)(l:List α):SC α:=⟨l.getD 0 z,l.getD 1 z,l.getD 2 z,l.getD 3 z,l.getD 4 z,l.getD 5 z,l.getD 6 z,l.getD 7 z,l.getD 8 z,l.getD 9 z,l.getD 10 z,l.getD 11 z,l.getD 12 z,l.getD 13 z,l.getD 14 z,l.getD 15 z,l.getD 16 z,l.getD 17 z,l.getD 18 z,l.getD 19 z,l.getD 20 z,l.getD 21 z,l.getD 22 z,l.getD 23 z⟩
structure SD(α:Type) where
 (a0 a1 a2 a3 a4 a5 a6 a7 a8 a9 kq kr a12 ku kv ky Nh Ni Nj Nk a20 a21 a22 Wq a24 a25 a26 a27 a28 a29 a30 a31:α)
 deriving DecidableEq,Inhabited
def SD.l{α:Type}(x:SD α):List α:=[x.a0,x.a1,x.a2,x.a3,x.a4,x.a5,x.a6,x.a7,x.a8,x.a9,x.kq,x.kr,x.a12,x.ku,x.kv,x.ky,x.Nh,x.Ni,x.Nj,x.Nk,x.a20,x.a21,x.a22,x.Wq,x.a24,x.a25,x.a26,x.a27,x.a28,x.a29,x.a30,x.a31]
def SD.of{α:Type}(z:α)(l:List α):SD α:=⟨l.getD 0 z,l.getD 1 z,l.getD 2 z,l.getD 3 z,l.getD 4 z,l.getD 5 z,l.getD 6 z,l.getD 7 z,l.getD 8 z,l.getD 9 z,l.getD 10 z,l.getD 11 z,l.getD 12 z,l.getD 13 z,l.getD 14 z,l.getD 15 z,l.getD 16 z,l.getD 17 z,l.getD 18 z,l.getD 19 z,l.getD 20 z,l.getD 21 z,l.getD 22 z,l.getD 23 z,l.getD 24 z,l.getD 25 z,l.getD 26 z,l.getD 27 z,l.getD 28 z,l.getD 29 z,l.getD 30 z,l.getD 31 z⟩
structure bh where
 X:(iU Int)
 Pc:Int
 B4:(A8 Int)
 deriving DecidableEq,Inhabited
structure iV where
 D1:(List UInt8)
 deriving DecidableEq,Inhabited
structure iW where
 D3:Bool
 C4:Int
 D2:Bool
 deriving DecidableEq,Inhabited
structure fp where
 ae:Int
 C1:Int
 Frame:Int
 B7:Int
 D6:Int
 B6:Int
 B2:Int
 B8:(List UInt8)
 deriving DecidableEq,Inhabited
structure ia where
 Frame:Int
 E0:Int
 C5:Bool
 C0:Int
 B5:Bool
 F1:Int
 deriving DecidableEq,Inhabited
structure gv where
 C7:Int
 C2:Int
 deriving DecidableEq,Inhabited
structure au where
 B1:bh
 Mem:(List Int)
 A3:iV
 A9:iW
 A7:fp
 C3:ia
 A2:gv
 A1:Int
 A4:Bool
 A6:Bool
 deriving DecidableEq,Inhabited
structure Q3 where
 A0:au
 EG:(List Bool)
 Wr:Int
 Ij:Int
 deriving DecidableEq,Inhabited
structure Kz where
 Frame:Int
 C9:(List UInt8)
 deriving DecidableEq,Inhabited
structure gx where
 B9:Int
 N:Int
 C9:(List UInt8)
 deriving DecidableEq,Inhabited
structure jN where
 Good:Bool
 D5:Int
 At:Int
 deriving DecidableEq,Inhabited
structure gg where
 At:Int
 D4:Int
 deriving DecidableEq,Inhabited
structure ei where
 At:Int
 C6:gx
 deriving DecidableEq,Inhabited
structure tA where
 Al:Int
 nC:Int
 deriving DecidableEq,Inhabited
structure kJ where
 B9:Int
 D0:Int
 D9:Int
 Value:Int
 deriving DecidableEq,Inhabited
structure dx where
 B9:Int
 At:Int
 C1:Int
 C9:(List UInt8)
 deriving DecidableEq,Inhabited
structure cy where
 A0:au
 B3:Int
 C8:(List ei)
 B0:(List gx)
 deriving DecidableEq,Inhabited
structure nD where
 kF:Int
 num:Int
 label:(List UInt8)
 deriving DecidableEq,Inhabited
structure kz where
 ee:(List UInt8)
 op:Int
 l:(List nD)
 D8:Int
 at_:Int
 size:Int
 deriving DecidableEq,Inhabited
structure gu where
 Op:Int
 A:Int
 B:Int
 C:Int
 bn:Int
 deriving DecidableEq,Inhabited
structure ob where
 Name:(List UInt8)
 Addr:Int
 deriving DecidableEq,Inhabited
structure rM where
 Addr:Int
 F3:Int
 F0:Int
 deriving DecidableEq,Inhabited
structure Am where
 a:Bool
 b:Bool
 c:Bool
 low:Int
 D7:Int
 deriving DecidableEq,Inhabited
structure ly where
 kind:Int
 text:(List UInt8)
 An:Bool
 deriving DecidableEq,Inhabited
inductive RK where
 |ay|ab|ag|bd|dk|ai|bb|str|ax
 deriving DecidableEq
@[reducible] def RK.T:RK->Type
 |.ay=>dx
 |.ab=>ei
 |.ag=>gg
 |.bd=>gx
 |.dk=>ob
 |.ai=>kz
 |.bb=>nD
 |.str=>(List UInt8)
 |.ax=>ly
def RK.cj:(k:RK)->RK.T k
 |.ay=>(default:dx)
 |.ab=>(default:ei)
 |.ag=>(default:gg)
 |.bd=>(default:gx)
 |.dk=>(default:ob)
 |.ai=>(default:kz)
 |.bb=>(default:nD)
 |.str=>(default:List UInt8)
 |.ax=>(default:ly)
def RK.Nl:Nat->Option RK
 |137=>some .ay
 |103=>some .ab
 |100=>some .ag
 |72=>some .bd
 |238=>some .dk
 |175=>some .ai
 |177=>some .bb
 |9=>some .str
 |303=>some .ax
 |_=>none
end Go.GD
namespace Go.GD
open Go
instance (k:RK):Inhabited (RK.T k):=⟨RK.cj k⟩
mutual
inductive D where
 |bool (b:Bool)
 |int (k:IntKind) (n:Int)
 |str (s:List UInt8)
 |sl (sz:Nat) (es:ao) (fr:Bool)
 |all (r:Nat)
 |own (r o n:Nat)
 |ptr (r i off:Nat)
 |pa (r i off len:Nat) (k:Option IntKind) (n:Nat)
 |iu (sz:Nat) (es:ao) (i off:Nat)
 |iM
 |du
 |emp
 |pY (es:ao)
 |dead
 |gq (f:Nat) (cs:List iv)
 |c8 (r:Nat)
 |jJ
 |agg (cs:List D)
 |dt (ds:List D)
inductive ao where
 |gen (es:List (List D))
 |ints (k:IntKind) (l:List Int)
 |bo (l:List Bool)
 |av (k:RK) (l:List (RK.T k))
inductive iv where
 |ptr (r i off:Nat)
 |int (k:IntKind) (n:Int)
 |arr (r:Nat)
 |sl (sz:Nat) (es:ao) (fr:Bool)
 |fn (f:Nat) (ps:List (Nat×Nat×Nat))
end
instance:Inhabited D:=⟨.dead⟩
instance:Inhabited ao:=⟨.gen []⟩
def Ik(p:Nat×Nat×Nat):iv:=.ptr p.1 p.2.1 p.2.2
def iv.d:iv->D|.ptr r i off=>.ptr r i off|.int k n=>.int k n|.arr r=>.all r|.sl a b c=>.sl a b c|.fn f ps=>.gq f (ps.map Ik)
def D.isInt(k:IntKind):D->Bool|.int j _=>decide (j=k)|_=>false
def D.toInt:D->Int|.int _ n=>n|_=>0
def D.isBool:D->Bool|.bool _=>true|_=>false
def D.toBool:D->Bool|.bool b=>b|_=>false
def D.isStr:D->Bool|.str _=>true|_=>false
def D.toStr:D->List UInt8|.str s=>s|_=>[]
def Gd(k k':RK)(l:List (RK.T k)):Option (List (RK.T k')):=if h:k=k' then some (h▸l)else none
theorem Zae(k:RK)(l:List (RK.T k)):Gd k k l=some l:=by simp[Gd]
theorem Ws{k k':RK}{l:List (RK.T k)}{m:List (RK.T k')}(h:Gd k k' l=some m):∃e:k=k',e▸l=m:=by
 unfold Gd at h
 split at h
 ·rename_i e;cases h;exact⟨e,rfl⟩
 ·cases h
def ao.toI(k:IntKind):ao->Option (List Int)
 |.ints k' l=>match decide (k'=k)with|true=>some l|false=>none
 |.gen []=>some []
 |_=>none
def ao.toB:ao->Option (List Bool)
 |.bo l=>some l
 |.gen []=>some []
 |_=>none
def ao.toR(k:RK):ao->Option (List (RK.T k))
 |.av k' l=>Gd k' k l
 |.gen []=>some []
 |_=>none
inductive CT where|int(k:IntKind)|bool|str|ints(k:IntKind)|bo|av(k:RK)|row(i:Nat)|nil|Il|self(i:Nat)|pt(i o f:Nat)|gq(f:Nat)(cs:List iv)
def nE(k:IntKind):D->List Int|.sl _ E _=>(match E.toI k with|some l=>l|none=>[])|_=>[]
def SE:D->List Bool|.sl _ E _=>(match E.toB with|some l=>l|none=>[])|_=>[]
def tB(k:RK):D->List (RK.T k)|.sl _ E _=>(match E.toR k with|some l=>l|none=>[])|_=>[]
def bh.cells(x:bh):List D:=[.int .u32 x.X.a0,.int .u32 x.X.a1,.int .u32 x.X.a2,.int .u32 x.X.a3,.int .u32 x.X.a4,.int .u32 x.X.a5,.int .u32 x.X.a6,.int .u32 x.X.a7,.int .u32 x.X.a8,.int .u32 x.X.a9,.int .u32 x.X.kq,.int .u32 x.X.kr,.int .u32 x.X.a12,.int .u32 x.X.ku,.int .u32 x.X.kv,.int .u32 x.X.ky,.int .u32 x.Pc,.int .u32 x.B4.a0,.int .u32 x.B4.a1,.int .u32 x.B4.a2,.int .u32 x.B4.a3,.int .u32 x.B4.a4,.int .u32 x.B4.a5,.int .u32 x.B4.a6,.int .u32 x.B4.a7]
def bh.of(cs:List D):bh:=(⟨(⟨(cs.getD 0 .dead).toInt,(cs.getD 1 .dead).toInt,(cs.getD 2 .dead).toInt,(cs.getD 3 .dead).toInt,(cs.getD 4 .dead).toInt,(cs.getD 5 .dead).toInt,(cs.getD 6 .dead).toInt,(cs.getD 7 .dead).toInt,(cs.getD 8 .dead).toInt,(cs.getD 9 .dead).toInt,(cs.getD 10 .dead).toInt,(cs.getD 11 .dead).toInt,(cs.getD 12 .dead).toInt,(cs.getD 13 .dead).toInt,(cs.getD 14 .dead).toInt,(cs.getD 15 .dead).toInt⟩:(iU Int)),(cs.getD 16 .dead).toInt,(⟨(cs.getD 17 .dead).toInt,(cs.getD 18 .dead).toInt,(cs.getD 19 .dead).toInt,(cs.getD 20 .dead).toInt,(cs.getD 21 .dead).toInt,(cs.getD 22 .dead).toInt,(cs.getD 23 .dead).toInt,(cs.getD 24 .dead).toInt⟩:(A8 Int))⟩:bh)
def iV.cells(x:iV):List D:=[.str x.D1]
def iV.of(cs:List D):iV:=(⟨(cs.getD 0 .dead).toStr⟩:iV)
def iW.cells(x:iW):List D:=[.bool x.D3,.int .u32 x.C4,.bool x.D2]
def iW.of(cs:List D):iW:=(⟨(cs.getD 0 .dead).toBool,(cs.getD 1 .dead).toInt,(cs.getD 2 .dead).toBool⟩:iW)
def fp.cells(x:fp):List D:=[.int .u32 x.ae,.int .u32 x.C1,.int .u32 x.Frame,.int .i64 x.B7,.int .i64 x.D6,.int .u32 x.B6,.int .u32 x.B2,.str x.B8]
def fp.of(cs:List D):fp:=(⟨(cs.getD 0 .dead).toInt,(cs.getD 1 .dead).toInt,(cs.getD 2 .dead).toInt,(cs.getD 3 .dead).toInt,(cs.getD 4 .dead).toInt,(cs.getD 5 .dead).toInt,(cs.getD 6 .dead).toInt,(cs.getD 7 .dead).toStr⟩:fp)
def ia.cells(x:ia):List D:=[.int .u32 x.Frame,.int .u32 x.E0,.bool x.C5,.int .u32 x.C0,.bool x.B5,.int .u32 x.F1]
def ia.of(cs:List D):ia:=(⟨(cs.getD 0 .dead).toInt,(cs.getD 1 .dead).toInt,(cs.getD 2 .dead).toBool,(cs.getD 3 .dead).toInt,(cs.getD 4 .dead).toBool,(cs.getD 5 .dead).toInt⟩:ia)
def gv.cells(x:gv):List D:=[.int .u32 x.C7,.int .u32 x.C2]
def gv.of(cs:List D):gv:=(⟨(cs.getD 0 .dead).toInt,(cs.getD 1 .dead).toInt⟩:gv)
def au.fe(x:au)(s0:D):List D:=[.int .u32 x.B1.X.a0,.int .u32 x.B1.X.a1,.int .u32 x.B1.X.a2,.int .u32 x.B1.X.a3,.int .u32 x.B1.X.a4,.int .u32 x.B1.X.a5,.int .u32 x.B1.X.a6,.int .u32 x.B1.X.a7,.int .u32 x.B1.X.a8,.int .u32 x.B1.X.a9,.int .u32 x.B1.X.kq,.int .u32 x.B1.X.kr,.int .u32 x.B1.X.a12,.int .u32 x.B1.X.ku,.int .u32 x.B1.X.kv,.int .u32 x.B1.X.ky,.int .u32 x.B1.Pc,.int .u32 x.B1.B4.a0,.int .u32 x.B1.B4.a1,.int .u32 x.B1.B4.a2,.int .u32 x.B1.B4.a3,.int .u32 x.B1.B4.a4,.int .u32 x.B1.B4.a5,.int .u32 x.B1.B4.a6,.int .u32 x.B1.B4.a7,s0,.str x.A3.D1,.bool x.A9.D3,.int .u32 x.A9.C4,.bool x.A9.D2,.int .u32 x.A7.ae,.int .u32 x.A7.C1,.int .u32 x.A7.Frame,.int .i64 x.A7.B7,.int .i64 x.A7.D6,.int .u32 x.A7.B6,.int .u32 x.A7.B2,.str x.A7.B8,.int .u32 x.C3.Frame,.int .u32 x.C3.E0,.bool x.C3.C5,.int .u32 x.C3.C0,.bool x.C3.B5,.int .u32 x.C3.F1,.int .u32 x.A2.C7,.int .u32 x.A2.C2,.int .u64 x.A1,.bool x.A4,.bool x.A6]
def au.cells(x:au):List D:=au.fe x (.sl 1 (.ints .u32 x.Mem) false)
def au.pZ(cs:List D)(s0:List Int):au:=(⟨(⟨(⟨(cs.getD 0 .dead).toInt,(cs.getD 1 .dead).toInt,(cs.getD 2 .dead).toInt,(cs.getD 3 .dead).toInt,(cs.getD 4 .dead).toInt,(cs.getD 5 .dead).toInt,(cs.getD 6 .dead).toInt,(cs.getD 7 .dead).toInt,(cs.getD 8 .dead).toInt,(cs.getD 9 .dead).toInt,(cs.getD 10 .dead).toInt,(cs.getD 11 .dead).toInt,(cs.getD 12 .dead).toInt,(cs.getD 13 .dead).toInt,(cs.getD 14 .dead).toInt,(cs.getD 15 .dead).toInt⟩:(iU Int)),(cs.getD 16 .dead).toInt,(⟨(cs.getD 17 .dead).toInt,(cs.getD 18 .dead).toInt,(cs.getD 19 .dead).toInt,(cs.getD 20 .dead).toInt,(cs.getD 21 .dead).toInt,(cs.getD 22 .dead).toInt,(cs.getD 23 .dead).toInt,(cs.getD 24 .dead).toInt⟩:(A8 Int))⟩:bh),s0,(⟨(cs.getD 26 .dead).toStr⟩:iV),(⟨(cs.getD 27 .dead).toBool,(cs.getD 28 .dead).toInt,(cs.getD 29 .dead).toBool⟩:iW),(⟨(cs.getD 30 .dead).toInt,(cs.getD 31 .dead).toInt,(cs.getD 32 .dead).toInt,(cs.getD 33 .dead).toInt,(cs.getD 34 .dead).toInt,(cs.getD 35 .dead).toInt,(cs.getD 36 .dead).toInt,(cs.getD 37 .dead).toStr⟩:fp),(⟨(cs.getD 38 .dead).toInt,(cs.getD 39 .dead).toInt,(cs.getD 40 .dead).toBool,(cs.getD 41 .dead).toInt,(cs.getD 42 .dead).toBool,(cs.getD 43 .dead).toInt⟩:ia),(⟨(cs.getD 44 .dead).toInt,(cs.getD 45 .dead).toInt⟩:gv),(cs.getD 46 .dead).toInt,(cs.getD 47 .dead).toBool,(cs.getD 48 .dead).toBool⟩:au)
def au.of(cs:List D):au:=au.pZ cs (nE .u32 (cs.getD 25 .dead))
def Q3.fe(x:Q3)(s0 s1:D):List D:=[.int .u32 x.A0.B1.X.a0,.int .u32 x.A0.B1.X.a1,.int .u32 x.A0.B1.X.a2,.int .u32 x.A0.B1.X.a3,.int .u32 x.A0.B1.X.a4,.int .u32 x.A0.B1.X.a5,.int .u32 x.A0.B1.X.a6,.int .u32 x.A0.B1.X.a7,.int .u32 x.A0.B1.X.a8,.int .u32 x.A0.B1.X.a9,.int .u32 x.A0.B1.X.kq,.int .u32 x.A0.B1.X.kr,.int .u32 x.A0.B1.X.a12,.int .u32 x.A0.B1.X.ku,.int .u32 x.A0.B1.X.kv,.int .u32 x.A0.B1.X.ky,.int .u32 x.A0.B1.Pc,.int .u32 x.A0.B1.B4.a0,.int .u32 x.A0.B1.B4.a1,.int .u32 x.A0.B1.B4.a2,.int .u32 x.A0.B1.B4.a3,.int .u32 x.A0.B1.B4.a4,.int .u32 x.A0.B1.B4.a5,.int .u32 x.A0.B1.B4.a6,.int .u32 x.A0.B1.B4.a7,s0,.str x.A0.A3.D1,.bool x.A0.A9.D3,.int .u32 x.A0.A9.C4,.bool x.A0.A9.D2,.int .u32 x.A0.A7.ae,.int .u32 x.A0.A7.C1,.int .u32 x.A0.A7.Frame,.int .i64 x.A0.A7.B7,.int .i64 x.A0.A7.D6,.int .u32 x.A0.A7.B6,.int .u32 x.A0.A7.B2,.str x.A0.A7.B8,.int .u32 x.A0.C3.Frame,.int .u32 x.A0.C3.E0,.bool x.A0.C3.C5,.int .u32 x.A0.C3.C0,.bool x.A0.C3.B5,.int .u32 x.A0.C3.F1,.int .u32 x.A0.A2.C7,.int .u32 x.A0.A2.C2,.int .u64 x.A0.A1,.bool x.A0.A4,.bool x.A0.A6,s1,.int .i64 x.Wr,.int .i64 x.Ij]
def Q3.cells(x:Q3):List D:=Q3.fe x (.sl 1 (.ints .u32 x.A0.Mem) false) (.sl 1 (.bo x.EG) false)
def Q3.pZ(cs:List D)(s0:List Int)(s1:List Bool):Q3:=(⟨(⟨(⟨(⟨(cs.getD 0 .dead).toInt,(cs.getD 1 .dead).toInt,(cs.getD 2 .dead).toInt,(cs.getD 3 .dead).toInt,(cs.getD 4 .dead).toInt,(cs.getD 5 .dead).toInt,(cs.getD 6 .dead).toInt,(cs.getD 7 .dead).toInt,(cs.getD 8 .dead).toInt,(cs.getD 9 .dead).toInt,(cs.getD 10 .dead).toInt,(cs.getD 11 .dead).toInt,(cs.getD 12 .dead).toInt,(cs.getD 13 .dead).toInt,(cs.getD 14 .dead).toInt,(cs.getD 15 .dead).toInt⟩:(iU Int)),(cs.getD 16 .dead).toInt,(⟨(cs.getD 17 .dead).toInt,(cs.getD 18 .dead).toInt,(cs.getD 19 .dead).toInt,(cs.getD 20 .dead).toInt,(cs.getD 21 .dead).toInt,(cs.getD 22 .dead).toInt,(cs.getD 23 .dead).toInt,(cs.getD 24 .dead).toInt⟩:(A8 Int))⟩:bh),s0,(⟨(cs.getD 26 .dead).toStr⟩:iV),(⟨(cs.getD 27 .dead).toBool,(cs.getD 28 .dead).toInt,(cs.getD 29 .dead).toBool⟩:iW),(⟨(cs.getD 30 .dead).toInt,(cs.getD 31 .dead).toInt,(cs.getD 32 .dead).toInt,(cs.getD 33 .dead).toInt,(cs.getD 34 .dead).toInt,(cs.getD 35 .dead).toInt,(cs.getD 36 .dead).toInt,(cs.getD 37 .dead).toStr⟩:fp),(⟨(cs.getD 38 .dead).toInt,(cs.getD 39 .dead).toInt,(cs.getD 40 .dead).toBool,(cs.getD 41 .dead).toInt,(cs.getD 42 .dead).toBool,(cs.getD 43 .dead).toInt⟩:ia),(⟨(cs.getD 44 .dead).toInt,(cs.getD 45 .dead).toInt⟩:gv),(cs.getD 46 .dead).toInt,(cs.getD 47 .dead).toBool,(cs.getD 48 .dead).toBool⟩:au),s1,(cs.getD 50 .dead).toInt,(cs.getD 51 .dead).toInt⟩:Q3)
def Q3.of(cs:List D):Q3:=Q3.pZ cs (nE .u32 (cs.getD 25 .dead)) (SE (cs.getD 49 .dead))
def Kz.cells(x:Kz):List D:=[.int .i64 x.Frame,.str x.C9]
def Kz.of(cs:List D):Kz:=(⟨(cs.getD 0 .dead).toInt,(cs.getD 1 .dead).toStr⟩:Kz)
def gx.cells(x:gx):List D:=[.int .i64 x.B9,.int .u32 x.N,.str x.C9]
def gx.of(cs:List D):gx:=(⟨(cs.getD 0 .dead).toInt,(cs.getD 1 .dead).toInt,(cs.getD 2 .dead).toStr⟩:gx)
def jN.cells(x:jN):List D:=[.bool x.Good,.int .i64 x.D5,.int .u64 x.At]
def jN.of(cs:List D):jN:=(⟨(cs.getD 0 .dead).toBool,(cs.getD 1 .dead).toInt,(cs.getD 2 .dead).toInt⟩:jN)
def gg.cells(x:gg):List D:=[.int .u64 x.At,.int .u64 x.D4]
def gg.of(cs:List D):gg:=(⟨(cs.getD 0 .dead).toInt,(cs.getD 1 .dead).toInt⟩:gg)
def ei.cells(x:ei):List D:=[.int .u64 x.At,.int .i64 x.C6.B9,.int .u32 x.C6.N,.str x.C6.C9]
def ei.of(cs:List D):ei:=(⟨(cs.getD 0 .dead).toInt,(⟨(cs.getD 1 .dead).toInt,(cs.getD 2 .dead).toInt,(cs.getD 3 .dead).toStr⟩:gx)⟩:ei)
def tA.cells(x:tA):List D:=[.int .i64 x.Al,.int .i64 x.nC]
def tA.of(cs:List D):tA:=(⟨(cs.getD 0 .dead).toInt,(cs.getD 1 .dead).toInt⟩:tA)
def kJ.cells(x:kJ):List D:=[.int .i64 x.B9,.int .i64 x.D0,.int .i64 x.D9,.int .u32 x.Value]
def kJ.of(cs:List D):kJ:=(⟨(cs.getD 0 .dead).toInt,(cs.getD 1 .dead).toInt,(cs.getD 2 .dead).toInt,(cs.getD 3 .dead).toInt⟩:kJ)
def dx.cells(x:dx):List D:=[.int .i64 x.B9,.int .u64 x.At,.int .u32 x.C1,.str x.C9]
def dx.of(cs:List D):dx:=(⟨(cs.getD 0 .dead).toInt,(cs.getD 1 .dead).toInt,(cs.getD 2 .dead).toInt,(cs.getD 3 .dead).toStr⟩:dx)
def cy.fe(x:cy)(s0 s1 s2:D):List D:=[.int .u32 x.A0.B1.X.a0,.int .u32 x.A0.B1.X.a1,.int .u32 x.A0.B1.X.a2,.int .u32 x.A0.B1.X.a3,.int .u32 x.A0.B1.X.a4,.int .u32 x.A0.B1.X.a5,.int .u32 x.A0.B1.X.a6,.int .u32 x.A0.B1.X.a7,.int .u32 x.A0.B1.X.a8,.int .u32 x.A0.B1.X.a9,.int .u32 x.A0.B1.X.kq,.int .u32 x.A0.B1.X.kr,.int .u32 x.A0.B1.X.a12,.int .u32 x.A0.B1.X.ku,.int .u32 x.A0.B1.X.kv,.int .u32 x.A0.B1.X.ky,.int .u32 x.A0.B1.Pc,.int .u32 x.A0.B1.B4.a0,.int .u32 x.A0.B1.B4.a1,.int .u32 x.A0.B1.B4.a2,.int .u32 x.A0.B1.B4.a3,.int .u32 x.A0.B1.B4.a4,.int .u32 x.A0.B1.B4.a5,.int .u32 x.A0.B1.B4.a6,.int .u32 x.A0.B1.B4.a7,s0,.str x.A0.A3.D1,.bool x.A0.A9.D3,.int .u32 x.A0.A9.C4,.bool x.A0.A9.D2,.int .u32 x.A0.A7.ae,.int .u32 x.A0.A7.C1,.int .u32 x.A0.A7.Frame,.int .i64 x.A0.A7.B7,.int .i64 x.A0.A7.D6,.int .u32 x.A0.A7.B6,.int .u32 x.A0.A7.B2,.str x.A0.A7.B8,.int .u32 x.A0.C3.Frame,.int .u32 x.A0.C3.E0,.bool x.A0.C3.C5,.int .u32 x.A0.C3.C0,.bool x.A0.C3.B5,.int .u32 x.A0.C3.F1,.int .u32 x.A0.A2.C7,.int .u32 x.A0.A2.C2,.int .u64 x.A0.A1,.bool x.A0.A4,.bool x.A0.A6,.int .u32 x.B3,s1,s2]
def cy.cells(x:cy):List D:=cy.fe x (.sl 1 (.ints .u32 x.A0.Mem) false) (.sl 4 (.av .ab x.C8) false) (.sl 3 (.av .bd x.B0) false)
def cy.pZ(cs:List D)(s0:List Int)(s1:List ei)(s2:List gx):cy:=(⟨(⟨(⟨(⟨(cs.getD 0 .dead).toInt,(cs.getD 1 .dead).toInt,(cs.getD 2 .dead).toInt,(cs.getD 3 .dead).toInt,(cs.getD 4 .dead).toInt,(cs.getD 5 .dead).toInt,(cs.getD 6 .dead).toInt,(cs.getD 7 .dead).toInt,(cs.getD 8 .dead).toInt,(cs.getD 9 .dead).toInt,(cs.getD 10 .dead).toInt,(cs.getD 11 .dead).toInt,(cs.getD 12 .dead).toInt,(cs.getD 13 .dead).toInt,(cs.getD 14 .dead).toInt,(cs.getD 15 .dead).toInt⟩:(iU Int)),(cs.getD 16 .dead).toInt,(⟨(cs.getD 17 .dead).toInt,(cs.getD 18 .dead).toInt,(cs.getD 19 .dead).toInt,(cs.getD 20 .dead).toInt,(cs.getD 21 .dead).toInt,(cs.getD 22 .dead).toInt,(cs.getD 23 .dead).toInt,(cs.getD 24 .dead).toInt⟩:(A8 Int))⟩:bh),s0,(⟨(cs.getD 26 .dead).toStr⟩:iV),(⟨(cs.getD 27 .dead).toBool,(cs.getD 28 .dead).toInt,(cs.getD 29 .dead).toBool⟩:iW),(⟨(cs.getD 30 .dead).toInt,(cs.getD 31 .dead).toInt,(cs.getD 32 .dead).toInt,(cs.getD 33 .dead).toInt,(cs.getD 34 .dead).toInt,(cs.getD 35 .dead).toInt,(cs.getD 36 .dead).toInt,(cs.getD 37 .dead).toStr⟩:fp),(⟨(cs.getD 38 .dead).toInt,(cs.getD 39 .dead).toInt,(cs.getD 40 .dead).toBool,(cs.getD 41 .dead).toInt,(cs.getD 42 .dead).toBool,(cs.getD 43 .dead).toInt⟩:ia),(⟨(cs.getD 44 .dead).toInt,(cs.getD 45 .dead).toInt⟩:gv),(cs.getD 46 .dead).toInt,(cs.getD 47 .dead).toBool,(cs.getD 48 .dead).toBool⟩:au),(cs.getD 49 .dead).toInt,s1,s2⟩:cy)
def cy.of(cs:List D):cy:=cy.pZ cs (nE .u32 (cs.getD 25 .dead)) (tB .ab (cs.getD 50 .dead)) (tB .bd (cs.getD 51 .dead))
def nD.cells(x:nD):List D:=[.int .i64 x.kF,.int .i64 x.num,.str x.label]
def nD.of(cs:List D):nD:=(⟨(cs.getD 0 .dead).toInt,(cs.getD 1 .dead).toInt,(cs.getD 2 .dead).toStr⟩:nD)
def kz.fe(x:kz)(s0:D):List D:=[.str x.ee,.int .i64 x.op,s0,.int .i64 x.D8,.int .i64 x.at_,.int .i64 x.size]
def kz.cells(x:kz):List D:=kz.fe x (.sl 3 (.av .bb x.l) false)
def kz.pZ(cs:List D)(s0:List nD):kz:=(⟨(cs.getD 0 .dead).toStr,(cs.getD 1 .dead).toInt,s0,(cs.getD 3 .dead).toInt,(cs.getD 4 .dead).toInt,(cs.getD 5 .dead).toInt⟩:kz)
def kz.of(cs:List D):kz:=kz.pZ cs (tB .bb (cs.getD 2 .dead))
def gu.cells(x:gu):List D:=[.int .i64 x.Op,.int .i64 x.A,.int .i64 x.B,.int .i64 x.C,.int .i32 x.bn]
def gu.of(cs:List D):gu:=(⟨(cs.getD 0 .dead).toInt,(cs.getD 1 .dead).toInt,(cs.getD 2 .dead).toInt,(cs.getD 3 .dead).toInt,(cs.getD 4 .dead).toInt⟩:gu)
def ob.cells(x:ob):List D:=[.str x.Name,.int .u32 x.Addr]
def ob.of(cs:List D):ob:=(⟨(cs.getD 0 .dead).toStr,(cs.getD 1 .dead).toInt⟩:ob)
def rM.cells(x:rM):List D:=[.int .u32 x.Addr,.int .u32 x.F3,.int .i64 x.F0]
def rM.of(cs:List D):rM:=(⟨(cs.getD 0 .dead).toInt,(cs.getD 1 .dead).toInt,(cs.getD 2 .dead).toInt⟩:rM)
def Am.cells(x:Am):List D:=[.bool x.a,.bool x.b,.bool x.c,.int .i32 x.low,.int .i32 x.D7]
def Am.of(cs:List D):Am:=(⟨(cs.getD 0 .dead).toBool,(cs.getD 1 .dead).toBool,(cs.getD 2 .dead).toBool,(cs.getD 3 .dead).toInt,(cs.getD 4 .dead).toInt⟩:Am)
def ly.cells(x:ly):List D:=[.int .i64 x.kind,.str x.text,.bool x.An]
def ly.of(cs:List D):ly:=(⟨(cs.getD 0 .dead).toInt,(cs.getD 1 .dead).toStr,(cs.getD 2 .dead).toBool⟩:ly)
def RK.size:RK->Nat
 |.ay=>4
 |.ab=>4
 |.ag=>2
 |.bd=>3
 |.dk=>2
 |.ai=>6
 |.bb=>3
 |.str=>1
 |.ax=>3
def DG:CT->D->D
 |.int k,d=>.int k d.toInt
 |.bool,d=>.bool d.toBool
 |.str,d=>.str d.toStr
 |.ints k,d=>.sl 1 (.ints k (nE k d)) false
 |.bo,d=>.sl 1 (.bo (SE d)) false
 |.av k,d=>.sl k.size (.av k (tB k d)) false
 |.row i,_=>.all i
 |.nil,_=>.sl 0 (.gen []) false
 |.Il,_=>.du
 |.self i,_=>.c8 i
 |.pt i o f,_=>.ptr i o f
 |.gq f cs,_=>.gq f cs
def wg:List CT->List D->Nat->List D
 |[],_,_=>[]
 |t::ts,cs,j=>DG t (cs.getD j .dead)::wg ts cs (j+1)
def bh.sig:List CT:=[.int .u32,.int .u32,.int .u32,.int .u32,.int .u32,.int .u32,.int .u32,.int .u32,.int .u32,.int .u32,.int .u32,.int .u32,.int .u32,.int .u32,.int .u32,.int .u32,.int .u32,.int .u32,.int .u32,.int .u32,.int .u32,.int .u32,.int .u32,.int .u32,.int .u32]
def iV.sig:List CT:=[.str]
def iW.sig:List CT:=[.bool,.int .u32,.bool]
def fp.sig:List CT:=[.int .u32,.int .u32,.int .u32,.int .i64,.int .i64,.int .u32,.int .u32,.str]
def ia.sig:List CT:=[.int .u32,.int .u32,.bool,.int .u32,.bool,.int .u32]
def gv.sig:List CT:=[.int .u32,.int .u32]
def au.kO(s0:CT):List CT:=[.int .u32,.int .u32,.int .u32,.int .u32,.int .u32,.int .u32,.int .u32,.int .u32,.int .u32,.int .u32,.int .u32,.int .u32,.int .u32,.int .u32,.int .u32,.int .u32,.int .u32,.int .u32,.int .u32,.int .u32,.int .u32,.int .u32,.int .u32,.int .u32,.int .u32,s0,.str,.bool,.int .u32,.bool,.int .u32,.int .u32,.int .u32,.int .i64,.int .i64,.int .u32,.int .u32,.str,.int .u32,.int .u32,.bool,.int .u32,.bool,.int .u32,.int .u32,.int .u32,.int .u64,.bool,.bool]
def au.sig:List CT:=au.kO (.ints .u32)
def Q3.kO(s0 s1:CT):List CT:=[.int .u32,.int .u32,.int .u32,.int .u32,.int .u32,.int .u32,.int .u32,.int .u32,.int .u32,.int .u32,.int .u32,.int .u32,.int .u32,.int .u32,.int .u32,.int .u32,.int .u32,.int .u32,.int .u32,.int .u32,.int .u32,.int .u32,.int .u32,.int .u32,.int .u32,s0,.str,.bool,.int .u32,.bool,.int .u32,.int .u32,.int .u32,.int .i64,.int .i64,.int .u32,.int .u32,.str,.int .u32,.int .u32,.bool,.int .u32,.bool,.int .u32,.int .u32,.int .u32,.int .u64,.bool,.bool,s1,.int .i64,.int .i64]
def Q3.sig:List CT:=Q3.kO (.ints .u32) (.bo)
def Kz.sig:List CT:=[.int .i64,.str]
def gx.sig:List CT:=[.int .i64,.int .u32,.str]
def jN.sig:List CT:=[.bool,.int .i64,.int .u64]
def gg.sig:List CT:=[.int .u64,.int .u64]
def ei.sig:List CT:=[.int .u64,.int .i64,.int .u32,.str]
def tA.sig:List CT:=[.int .i64,.int .i64]
def kJ.sig:List CT:=[.int .i64,.int .i64,.int .i64,.int .u32]
def dx.sig:List CT:=[.int .i64,.int .u64,.int .u32,.str]
def cy.kO(s0 s1 s2:CT):List CT:=[.int .u32,.int .u32,.int .u32,.int .u32,.int .u32,.int .u32,.int .u32,.int .u32,.int .u32,.int .u32,.int .u32,.int .u32,.int .u32,.int .u32,.int .u32,.int .u32,.int .u32,.int .u32,.int .u32,.int .u32,.int .u32,.int .u32,.int .u32,.int .u32,.int .u32,s0,.str,.bool,.int .u32,.bool,.int .u32,.int .u32,.int .u32,.int .i64,.int .i64,.int .u32,.int .u32,.str,.int .u32,.int .u32,.bool,.int .u32,.bool,.int .u32,.int .u32,.int .u32,.int .u64,.bool,.bool,.int .u32,s1,s2]
def cy.sig:List CT:=cy.kO (.ints .u32) (.av .ab) (.av .bd)
def nD.sig:List CT:=[.int .i64,.int .i64,.str]
def kz.kO(s0:CT):List CT:=[.str,.int .i64,s0,.int .i64,.int .i64,.int .i64]
def kz.sig:List CT:=kz.kO (.av .bb)
def gu.sig:List CT:=[.int .i64,.int .i64,.int .i64,.int .i64,.int .i32]
def ob.sig:List CT:=[.str,.int .u32]
def rM.sig:List CT:=[.int .u32,.int .u32,.int .i64]
def Am.sig:List CT:=[.bool,.bool,.bool,.int .i32,.int .i32]
def ly.sig:List CT:=[.int .i64,.str,.bool]
def RK.sig:RK->List CT
 |.ay=>dx.sig
 |.ab=>ei.sig
 |.ag=>gg.sig
 |.bd=>gx.sig
 |.dk=>ob.sig
 |.ai=>kz.sig
 |.bb=>nD.sig
 |.str=>[.str]
 |.ax=>ly.sig
def RK.cells:(k:RK)->RK.T k->List D
 |.ay,x=>dx.cells x
 |.ab,x=>ei.cells x
 |.ag,x=>gg.cells x
 |.bd,x=>gx.cells x
 |.dk,x=>ob.cells x
 |.ai,x=>kz.cells x
 |.bb,x=>nD.cells x
 |.str,x=>[.str x]
 |.ax,x=>ly.cells x
def RK.of:(k:RK)->List D->RK.T k
 |.ay,cs=>dx.of cs
 |.ab,cs=>ei.of cs
 |.ag,cs=>gg.of cs
 |.bd,cs=>gx.of cs
 |.dk,cs=>ob.of cs
 |.ai,cs=>kz.of cs
 |.bb,cs=>nD.of cs
 |.str,cs=>(cs.getD 0 .dead).toStr
 |.ax,cs=>ly.of cs
theorem RK.BN(k:RK)(cs:List D):k.cells (k.of cs)=wg k.sig cs 0:=by cases k<;>kernel_rfl
theorem RK.oc(k:RK)(x:RK.T k):wg k.sig (k.cells x) 0=k.cells x:=by cases k<;>kernel_rfl
theorem RK.tV(k:RK):k.sig.length=k.size:=by cases k<;>rfl
