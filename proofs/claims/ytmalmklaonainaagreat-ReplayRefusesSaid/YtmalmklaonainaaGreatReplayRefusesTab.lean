import Derived.Test.YtmalmklaonainaaGreatReplayRefusesVc
set_option linter.all false
namespace Go.GD
open Go
def Q6e(P:Program):Nat->TypeId->List CTy
 |0,_=>[]
 | n+1,t=>match P.underlying t with
   |some (.int k)=>[.int k]
   |some .bool=>[.bool]
   |some .string=>[.str]
   |some (.slice e)=>[.sl (P.cellsOf e)]
   |some (.struct fs)=>fs.toList.flatMap λf=>Q6e P n f.type
   |some (.array m e)=>(List.replicate m (Q6e P n e)).flatten
   |_=>[.other]
def Qyr(P:Program)(t:TypeId):TK:=
 match P.underlying t with
 |some (.int k)=> .int k
 |some .bool=> .bool
 |some .string=> .string
 |some (.slice e)=> .slice e (P.cellsOf e)
 |some (.struct fs)=> .struct (fs.toList.map λf=>(f.offset,f.type,P.cellsOf f.type))
 |some (.array n e)=> .array n e (P.cellsOf e)
 |_=> .other
def Zks(P:Program)(g:TypeId->Bool)(l:TypeId->Nat):List Field->Nat->Bool
 |[],_=>true
 |f::fs,o=>f.name != "_" &&Nat.beq f.offset o&&Nat.beq (P.cellsOf f.type) (l f.type)&&Nat.blt 0 (l f.type)&&g f.type&&Zks P g l fs (o+l f.type)
def eqOf(P:Program):Nat->TypeId->Bool
 |0,_=>false
 | n+1,t=>match P.underlying t with
   |some (.int _)=>true
   |some .bool=>true
   |some .string=>true
   |some (.struct fs)=>!P.stoodInHeld t&&Zks P (eqOf P n) (λu=>(Q6e P n u).length) fs.toList 0
   |some (.array _ e)=>Nat.beq (P.cellsOf e) (Q6e P n e).length&&Nat.blt 0 (P.cellsOf e)&&eqOf P n e
   |_=>false
def tiOf(P:Program)(t:TypeId):Option TI:=
 match P.info? t with
 |some i=>if(Q6e P 8 t).length=i.size/\(P.underlying t).isSome=true then
     some ⟨Qyr P t,i.size,i.bytes,Q6e P 8 t,i.zero.bind λz=>Qnl z.cells.toList,!(P.eqGuardType P.depth t)&&eqOf P 8 t⟩ else none
 |none=>none
def Q52(P:Program)(T:Tab):Prop:=T.map (λx=>tiOf P x.1)=T.map (λx=>some x.2)
theorem Q52.get{P:Program}{T:Tab}(h:Q52 P T){t:TypeId}{i:TI}(hi:T.get t=some i):tiOf P t=some i:=by
 induction T with
 |nil=>simp [Tab.get]at hi
 | cons x l ih=>
   obtain⟨u,j⟩:=x
   simp only[Q52,List.map_cons,List.cons.injEq]at h
   simp only[Tab.get]at hi
   cases hb:Nat.beq u t with
   | true=>
     simp only[hb,Option.some.injEq]at hi
     have:=bE hb
     subst this;subst hi
     exact h.1
   |false=>simp only[hb]at hi;exact ih h.2 hi
