import Derived.Shelf.Strings.Builder1
import Derived.Test.YtjaifpiopmhmlaaGreatBareRunsBld
set_option linter.all false
namespace Go.GD
open Go Go.Proofs Go.Shelf Go.RowKit
variable {P:Program} {ρ:Ren}
set_option maxHeartbeats 1000000 in
set_option maxRecDepth 100000 in
theorem vC(L:Lays.n240 P ρ)(X:Builder.X72 P ρ){ty:TypeId}(hl:liesAt P P.depth ty (2/P.cellsOf ty) 0 (ρ.t 72) 1=true)(b:Nat)(w:World)(x:Value)(hh:w.heap[b]? =some (.cells #[.pointer none,x] ty (0,0))):
   Calls P (ρ.f 240) #[.pointer (some ⟨b,0,none⟩)] w λe w'=>e= .returned (.tuple #[])/\w'=w.setCell ⟨b,0,none⟩ (.pointer (some ⟨b,0,none⟩)):=by
 have h0:w.cell? ⟨b,0,none⟩=some (.pointer none):=by rw[Lib.cell_of_heap hh];rfl
 have hsh:w.shape? b=some (ty,2):=by simp [World.shape?,hh]
 have hfz:w.frozen? ⟨b,0,none⟩=false:=by simp [World.frozen?,hh]
 obtain⟨j,hj,hjs⟩:=Option.map_eq_some_iff.1 X.sizeBuilder
 have u72:=run_underlying L.t72
 have t70:=L.t70;have a70:=L.a70;have z70:=L.z70;have u70:=run_underlying L.t70
 go_enter L.f240,Body.n240_ntmps ρ
 go_wp2
 rw[Lib.run_to_unsafe w ⟨b,0,none⟩ L.t70 L.t164 hj (by rw[hjs];decide) hsh (Nat.zero_lt_succ 1)]
 simp only[Result.andThen]
 rw[Oper.upon_value]
 go_wp2
 rw[run_callFunc_extern L.f276 (by kernel_rfl) (by kernel_rfl) (by kernel_rfl) (e:=Extern.AbiNoEscape.same) (by kernel_rfl)]
 rw[Lib.run_noEscape]
 simp only[Result.andThen]
 rw[Oper.upon_value]
 go_wp2
 rw[Lib.run_from_unsafe w ⟨b,0,none⟩ L.t164 L.t70 hj hsh hl]
 simp only[Result.andThen]
 rw[Oper.upon_value]
 go_wp2
 go_end0
 exact⟨rfl,rfl⟩
theorem qZ(L:Lays.n240 P ρ)(X:Builder.X72 P ρ){ty:TypeId}(b:Nat)(w:World)(x:Value)(hh:w.heap[b]? =some (.cells #[.pointer (some ⟨b,0,none⟩),x] ty (0,0))):
   Calls P (ρ.f 240) #[.pointer (some ⟨b,0,none⟩)] w λe w'=>e= .returned (.tuple #[])/\w'=w:=
 Any.Builder_copyCheck_used L X b w (by rw[Lib.cell_of_heap hh];rfl)
theorem xZ(w:World):Qcb w none [] (.returned (.string ⟨#[]⟩)) w.drew:=
 ⟨rfl,rfl,rfl,rfl,Nat.le_refl _,λ_ _ _=>rfl,λk arr t fz e=>by cases e⟩
theorem zZ{w:World}{e:Ending}{w':World}(g:Nat)(h:Qcb w none [] e w')(hg: ∀arr t fz,w.heap[g]? =some (.cells arr t fz)->g<w.heap.size):Qcb w (some g) [] e w':=
 ⟨h.1,h.2.1,h.2.2.1,h.2.2.2.1,h.2.2.2.2.1,λk hk _=>h.2.2.2.2.2.1 k hk (by simp),λk arr t fz e ha=>by cases e;exact⟨fz,by rw[h.2.2.2.2.2.1 g (hg _ _ _ ha) (by simp)];exact ha⟩⟩
theorem qD(w:World)(o:Obj):Qcb w none [] (.returned (.string ⟨#[]⟩)) (w.drew.alloc o):=
 ⟨rfl,rfl,rfl,rfl,by show w.heap.size<=(w.heap.push o).size;simp,λk hk _=>by show(w.heap.push o)[k]? =w.heap[k]?;rw[Array.getElem?_push,if_neg (by omega)],λk arr t fz e=>by cases e⟩
theorem za(w:World)(g n:Nat)(s:List UInt8):Qcb w (some g) s (.returned (.string ⟨s.toArray⟩)) (w.drew.freeze ⟨g,0,none⟩ n):=by
 unfold World.freeze
 split
 . exact⟨rfl,rfl,rfl,rfl,Nat.le_refl _,λ_ _ _=>rfl,λk arr t fz e ha=>⟨fz,ha⟩⟩
 . refine⟨rfl,rfl,rfl,rfl,?_,λk hk hne=> ?_,λk arr t fz e ha=> ?_⟩
   . show w.heap.size<=(w.heap.modify g _).size;simp
   . show(w.heap.modify g _)[k]? =w.heap[k]?
     rw[Array.getElem?_modify,if_neg (λe=>hne (by rw[e]))]
   . cases e
     refine⟨if fz.1==fz.2 then(0,0+n) else(min fz.1 0,max fz.2 (0+n)),?_⟩
     show(w.heap.modify g _)[g]? =_
     rw[Array.getElem?_modify,if_pos rfl,ha];rfl
theorem Zfj{W:World}(ts:Array TypeId)(ty e:TypeId)(hp:P.underlying ty=some (.pointer e))(a:Addr)(n:Nat)(ha:a.block<W.heap.size):
    ∃q W',(Builtin.unsafeSliceData_ ts ty #[.slice (some a) n 0]).run P W= .ok (.pointer q) W'/\(W'=W\/ ∃o,W'=W.alloc o):=by
  have hdef:Builtin.unsafeSliceData_ ts ty #[.slice (some a) n 0]=
      (do
        if(0:Nat)≠0 then pure (.pointer (some a))
        else if(<-viewAt a.block).isSome then pure (.pointer (some a))
        else pure (.pointer (some ⟨<-newObj (.view a (<-elemOf ty)),0,none⟩))):=rfl
  rw[hdef]
  cases hsh:W.shape? a.block with
  |some sh=>exact⟨some ⟨W.heap.size,0,none⟩,W.alloc (.view a e),by simp [viewAt,hsh,elemOf,run_underlying hp], .inr ⟨_,rfl⟩⟩
  | none=>
    have hx:W.heap[a.block]? =some W.heap[a.block]:=Array.getElem?_eq_getElem ha
    cases ho:W.heap[a.block] with
    |cells c t f=>rw[ho]at hx;simp [World.shape?,hx]at hsh
    |view b t=>rw[ho]at hx;exact⟨some a,W,by simp [viewAt,hsh,hx,getObj,Sem.run], .inl rfl⟩
    |_=>rw[ho]at hx;exact⟨some ⟨W.heap.size,0,none⟩,W.alloc (.view a e),by simp [viewAt,hsh,hx,getObj,Sem.run,elemOf,run_underlying hp], .inr ⟨_,rfl⟩⟩
theorem Qwp{w:World}: ∀(l:List Int) (a:Addr) (acc:ByteArray),(∀j x,l[j]? =some x->w.cell? (a.add j)=some (.int .u8 x))->
    (loadBytes a acc l.length).run P w= .ok ⟨acc.data++(bytesOf l).toArray⟩ w
  |[],a,acc,_=>by simp [loadBytes,bytesOf]
  | x ::l,a,acc,h=>by
    have h0:w.cell? a=some (.int .u8 x):=by
      have:=h 0 x rfl
      simpa [Addr.add] using this
    have ih:=Qwp l (a.add 1) (acc.push (x.toNat.toUInt8)) (λj y hy=>by
      have:=h (j+1) y (by simpa using hy)
      have e:(a.add 1).add j=a.add (j+1):=by
        unfold Addr.add
        by_cases hj:j=0
        . subst hj;simp
        . simp [hj];omega
      rw[e];exact this)
    simp only[List.length_cons,loadBytes,Sem.run_bind,run_load,h0,Result.andThen]
    rw[ih]
    congr 1
    apply ByteArray.ext
    simp [ByteArray.push,bytesOf]
theorem Zma{w:World}(pt it ty e:TypeId)(hp:P.underlying pt=some (.pointer e))(hc:P.cellsOf e=1)(g cells:Nat)(hsh:w.shape? g=some (e,cells))(l:List Int)(h0:l≠[])(hn:l.length<=cells)(h63:l.length<=9223372036854775807)
    (hcell: ∀j x,l[j]? =some x->w.cell? ((⟨g,0,none⟩:Addr).add j)=some (.int .u8 x)):
    (Builtin.unsafeString_ #[pt,it] ty #[.pointer (some ⟨g,0,none⟩), .int .i64 l.length]).run P w= .ok (.string ⟨(bytesOf l).toArray⟩) (w.freeze ⟨g,0,none⟩ l.length):=by
  have hl:l.length≠0:=by simpa using h0
  have hlb:=Qwp (P:=P) l ⟨g,0,none⟩ .empty hcell
  have hlies:=Lib.liesAt_bytes (P:=P) hc (cells/P.cellsOf e) l.length (by rw[hc];simpa using hn)
  have h63': ¬(9223372036854775807:Int)<(l.length:Int):=by omega
  have hdef:Builtin.unsafeString_ #[pt,it] ty #[.pointer (some ⟨g,0,none⟩), .int .i64 l.length]=
      (do
        let n<-asInt (.int .i64 l.length)
        if n<0 then runtimePanic (.error "unsafe.String: len out of range")
        if n>IntKind.i64.max then unsupported (.unsafePointer "String: a length above the largest int")
        if n=0 then pure (.string .empty)
        else if<-variablesAt ⟨g,0,none⟩ (<-elemOf pt) n.toNat then do
          let s<-loadBytes ⟨g,0,none⟩ .empty n.toNat
          freeze ⟨g,0,none⟩ n.toNat
          pure (.string s)
        else unsupported (.unsafePointer "String: not so many bytes at ptr")):=rfl
  rw[hdef]
  have hmax:IntKind.i64.max=9223372036854775807:=rfl
  have hneg: ¬(l.length:Int)<0:=by omega
  simp [asInt,asIntOf,hmax,h63',hneg,hl,variablesAt,hsh,elemOf,run_underlying hp,hlies,hlb]
set_option maxHeartbeats 2000000 in
set_option maxRecDepth 100000 in
theorem ya(L:Lays.n169 P ρ)(X:Builder.Extra P ρ)(b:Nat)(w W1 W2:World)(a q:Option Addr)(n cap:Nat)(s:ByteArray)(c1:w.drew.cell? ⟨b,1,none⟩=some (.slice a n cap))(c2:W1.cell? ⟨b,1,none⟩=some (.slice a n cap))
   (hSD:(Builtin.unsafeSliceData_ #[(ρ.t 37)] (ρ.t 127) #[.slice a n cap]).run P w.drew= .ok (.pointer q) W1) (hUS:(Builtin.unsafeString_ #[(ρ.t 127),(ρ.t 3)] (ρ.t 9) #[.pointer q, .int .i64 n]).run P W1= .ok (.string s) W2):
   Calls P (ρ.f 169) #[.pointer (some ⟨b,0,none⟩)] w λe w'=>e= .returned (.string s)/\w'=W2:=by
 have mixed:=L.mixed
 have u72:=run_underlying L.t72
 have t37:=L.t37;have a37:=L.a37;have z37:=L.z37;have u37:=run_underlying L.t37
 go_enter L.f169,Body.n169_ntmps ρ
 go_wp2
 go_region_o
 all_goals(go_wp2;go_ret;exact⟨rfl,rfl⟩)
theorem Z7t(L:Lays.n169 P ρ)(X:Builder.Extra P ρ){ty:TypeId}(b:Nat)(w W1:World)(p:Value)(a q:Option Addr)(cap:Nat)(hbk:w.heap[b]? =some (.cells #[p, .slice a 0 cap] ty (0,0)))
   (hSD:(Builtin.unsafeSliceData_ #[(ρ.t 37)] (ρ.t 127) #[.slice a 0 cap]).run P w.drew= .ok (.pointer q) W1) (hW:W1=w.drew\/ ∃o,W1=w.drew.alloc o):
   Calls P (ρ.f 169) #[.pointer (some ⟨b,0,none⟩)] w (Qcb w none []):=by
 have hlt:b<w.heap.size:=(Array.getElem?_eq_some_iff.1 hbk).1
 have c1:w.drew.cell? ⟨b,1,none⟩=some (.slice a 0 cap):=by
   have:w.drew.heap[b]? =some (.cells #[p, .slice a 0 cap] ty (0,0)):=hbk
   rw[Lib.cell_of_heap this];rfl
 have c2:W1.cell? ⟨b,1,none⟩=some (.slice a 0 cap):=by
   rcases hW with rfl|⟨o,rfl⟩
   . exact c1
   . have:(w.drew.alloc o).heap[b]? =_:=(Lib.alloc_old w.drew _ b hlt).trans hbk
     rw[Lib.cell_of_heap this];rfl
 refine(ya L X b w W1 W1 a q 0 cap .empty c1 c2 hSD (Any.unsafeString_none L X W1 q)).mono ?_
 rintro e w' ⟨rfl,rfl⟩
 rcases hW with rfl|⟨o,rfl⟩
 . exact xZ w
 . exact qD w o
theorem Zev(L:Lays.n169 P ρ)(X:Builder.Extra P ρ){ty:TypeId}(b:Nat)(w:World)(p:Value)(a:Option Addr)(ha:okA w.heap.size a)(hbk:w.heap[b]? =some (.cells #[p, .slice a 0 0] ty (0,0))):
   Calls P (ρ.f 169) #[.pointer (some ⟨b,0,none⟩)] w (Qcb w none []):=by
 cases a with
 |none=>exact Z7t L X b w w.drew p none none 0 hbk rfl (.inl rfl)
 | some a=>
   obtain⟨q,W,h1,h2⟩:=Zfj (P:=P) (W:=w.drew) #[(ρ.t 37)] (ρ.t 127) (ρ.t 5) L.t127 a 0 (ha a rfl)
   exact Z7t L X b w W p (some a) q 0 hbk h1 h2
theorem xD(L:Lays.n169 P ρ)(X:Builder.Extra P ρ){ty:TypeId}(b g:Nat)(w:World)(p:Value)(cur:Array Value)(l:List Int)(hl0:l≠[])(hbk:w.heap[b]? =some (.cells #[p, .slice (some ⟨g,0,none⟩) l.length cur.size] ty (0,0)))
   (hg:w.heap[g]? =some (.cells cur (ρ.t 5) (0,0))) (hn:l.length<=cur.size) (hm:cur.size<=maxLen) (hc: ∀(j:Nat) (x:Int),l[j]? =some x->cur[j]? =some (Value.int .u8 x)):
   Calls P (ρ.f 169) #[.pointer (some ⟨b,0,none⟩)] w (Qcb w (some g) (bytesOf l)):=by
 have hne:l.length≠0:=by simpa using hl0
 have hg':w.drew.heap[g]? =some (.cells cur (ρ.t 5) (0,0)):=hg
 have c1:w.drew.cell? ⟨b,1,none⟩=some (.slice (some ⟨g,0,none⟩) l.length cur.size):=by
   have:w.drew.heap[b]? =some (.cells #[p, .slice (some ⟨g,0,none⟩) l.length cur.size] ty (0,0)):=hbk
   rw[Lib.cell_of_heap this];rfl
 refine(ya L X b w w.drew _ _ _ _ _ _ c1 c1 (Lib.run_unsafeSliceData_row _ _ _ _ _ _ (by omega)) (Zma (ρ.t 127) (ρ.t 3) (ρ.t 9) (ρ.t 5) L.t127 X.cellsByte g cur.size (by simp [World.shape?,hg']) l hl0 hn (by unfold maxLen at hm;omega) λj x hx=> ?_)).mono ?_
 . rw[Addr.add_lit,Nat.zero_add,Lib.cell_of_heap hg']
   exact hc j x hx
 . rintro e w' ⟨rfl,rfl⟩
   exact za w g l.length (bytesOf l)
theorem yZ(L:Lays.n169 P ρ)(X:Builder.Extra P ρ){ty:TypeId}(b g:Nat)(w:World)(p:Value)(cur:Array Value)(l:List Int)(hbk:w.heap[b]? =some (.cells #[p, .slice (some ⟨g,0,none⟩) l.length cur.size] ty (0,0)))
   (hg:w.heap[g]? =some (.cells cur (ρ.t 5) (0,0))) (hn:l.length<=cur.size) (hm:cur.size<=maxLen) (hc: ∀(j:Nat) (x:Int),l[j]? =some x->cur[j]? =some (Value.int .u8 x)):
   Calls P (ρ.f 169) #[.pointer (some ⟨b,0,none⟩)] w (Qcb w (some g) (bytesOf l)):=by
 by_cases hl0:l=[]
 . subst hl0
   have hlt:g<w.heap.size:=(Array.getElem?_eq_some_iff.1 hg).1
   have hs: ∀e w',Qcb w none [] e w'->Qcb w (some g) (bytesOf []) e w':=λe w' h=>zZ g h λ_ _ _ _=>hlt
   by_cases h0:cur.size=0
   . rw[h0]at hbk
     exact(Zev L X b w p (some ⟨g,0,none⟩) (λx e=>by cases e;exact hlt) hbk).mono hs
   . exact(Z7t L X b w w.drew p (some ⟨g,0,none⟩) (some ⟨g,0,none⟩) cur.size hbk (Lib.run_unsafeSliceData_row _ _ _ _ _ _ h0) (.inl rfl)).mono hs
 . exact xD L X b g w p cur l hl0 hbk hg hn hm hc
theorem zD(L:Lays.n240 P ρ)(X:Builder.X72 P ρ){ty u:TypeId}(hl:liesAt P P.depth ty (2/P.cellsOf ty) 0 (ρ.t 72) 1=true)(E:Els):
   Q3w P (ρ.f 240) [.ptr 0 0 0] [⟨true,ty,2, .gen [[.selfp 0, .all 1]]⟩,⟨false,u,1,E⟩] (.tup []) [⟨true,ty,2, .gen [[.selfp 0, .all 1]]⟩,⟨false,u,1,E⟩]:=
 Zc5 (λb w x h=>vC L X hl b w x h) (λb w x h=>qZ L X b w x h) E
theorem qb(L:Lays.n169 P ρ)(X:Builder.Extra P ρ){ty:TypeId}(l:List Int):
   Q9i P (ρ.f 169) 1 [.ptr 0 0 0] [⟨true,ty,2, .gen [[.selfp 0, .all 1]]⟩,⟨false,ρ.t 5,1, .ints .u8 l⟩] (.str (bytesOf l)) [⟨true,ty,2, .gen [[.selfp 0, .sl 1 (.ints .u8 l) false]]⟩]:=
 xa (λb w p a ha h=>Zev L X b w p a ha h) (λb g w p cur l h1 h2 h3 h4 h5=>yZ L X b g w p cur l h1 h2 h3 h4 h5) l
end Go.GD
