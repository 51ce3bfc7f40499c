import Derived.Test.YtmalmklaonainaaGreatReplayRefusesFa
import Derived.Test.YtmalmklaonainaaGreatProg
set_option linter.all false
namespace Go.GD
open Go
structure YK where
 ts:List Nat
 ps:Array Tmp
 assign:Code
 body:Code
 n:Nat
def YB:Nat:=1000000000
def Qgj:Code->Option (Array Tmp×Code×Code)
 | .seq a b=>match Qgj a with|some x=>some x|none=>Qgj b
 | .cond _ a b=>match Qgj a with|some x=>some x|none=>Qgj b
 | .block _ a=>Qgj a
 | .loop a=>Qgj a
 | .scope a=>Qgj a
 | .rangeFunc _ ps x y=>some (ps,x,y)
 |_=>none
def ykOf(ts:List Nat)(fn:Func):Option YK:=match fn.body with|some c=>(match Qgj c with|some (ps,x,y)=>some ⟨ts,ps,x,y,fn.ntmps⟩|none=>none)|none=>none
def YK.pos(y:YK):Option Nat:=
 match y.ps.toList,y.assign with
 |[p], .skip=>match Nat.blt p y.n&&y.ts.all λt=>!(Nat.beq t p)&&Nat.blt t y.n with|true=>some p|false=>none
 | [p], .region _ ops false=>match ops.toList with
   |[⟨some d, .assign (.tmp q),_,_,_,none⟩]=>match Nat.beq q p&&(Nat.blt p y.n&&Nat.blt d y.n)&&y.ts.all λt=>!(Nat.beq t p)&&!(Nat.beq t d)&&Nat.blt t y.n with|true=>some d|false=>none
   |_=>none
 |_,_=>none
def yTs(f:Nat):List Nat:=match Nat.beq f 1000000046 with|true=>[3,6]|false=>match Nat.beq f 1000000068 with|true=>[2]|false=>match Nat.beq f 1000000204 with|true=>[3]|false=>match Nat.beq f 1000000205 with|true=>[2]|false=>[]
noncomputable def yTab (f:Nat):Option YK:=match Nat.beq f 1000000046 with|true=>ykOf [3,6] Go.Proofs.Tryz.f46|false=>match Nat.beq f 1000000068 with|true=>ykOf [2] Go.Proofs.Tryz.f68|false=>match Nat.beq f 1000000204 with|true=>ykOf [3] Go.Proofs.Tryz.f204|false=>match Nat.beq f 1000000205 with|true=>ykOf [2] Go.Proofs.Tryz.f205|false=>none
noncomputable def yFn (f:Nat):Func:=match yTab f with
 | some y=>match y.pos with
   |some d=>{name:= "",origin:= "",params:=(d::y.ts).toArray,resultTypes:= #[],nfree:=YB,ntmps:=y.n,results:= #[],body:=some y.body,norace:=false,tmpNames:= #[]}
   |none=>{name:= "",origin:= "",params:=(y.ps.toList++y.ts).toArray,resultTypes:= #[],nfree:=YB+1,ntmps:=y.n,results:= #[],body:=some (.seq y.assign y.body),norace:=false,tmpNames:= #[]}
 |none=>default
