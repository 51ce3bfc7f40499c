import Derived.Test.YtmalmklaonainaaGreatReplayRefusesEq
set_option linter.all false
namespace Go.GD
open Go
theorem Qe0: ∀{vs:List Value} {ds:List D},Qnl vs=some ds->ds.length=vs.length
 |[],ds,h=>by simp [Qnl]at h;subst h;rfl
 | v ::vs,ds,h=>by
   simp only[Qnl]at h
   split at h
   . rename_i d l h1 h2
     simp at h;subst h
     simp [Qe0 h2]
   . cases h
theorem Z8i{I:Blocks}{w:World}{z:List D}{zs:Array Value}{sz n m:Nat}(hz:z.length=sz)(hs:zs.size=sz)(hr: ∀j v,zs[j]? =some v->PRep I w (z.getD j .dead) v)(hm:n<=m):
   Q1r I w (List.replicate n z) (madeCells zs (m*sz)) 0 sz:=by
 rw[Q4y]
 intro i hi
 have hi':i<n:=by simpa using hi
 have he:(List.replicate n z).getD i []=z:=by simp [List.getD,hi']
 rw[he]
 refine⟨hz,?_⟩
 rw[Q42]
 intro j hj
 have hlt:i*sz+j<m*sz:=by
   have:=Nat.mul_le_mul_right sz (show i+1<=m by omega)
   rw[Nat.succ_mul]at this
   omega
 have hmod:(i*sz+j)%sz=j:=by rw[Nat.add_comm,Nat.add_mul_mod_self_right,Nat.mod_eq_of_lt (by omega)]
 have hj':j<zs.size:=by omega
 refine⟨zs[j],?_,hr j _ (Array.getElem?_eq_getElem hj')⟩
 have hrg:(Array.range (m*sz))[i*sz+j]? =some (i*sz+j):=by rw[Array.getElem?_range,if_pos hlt]
 simp only[madeCells,Nat.zero_add,Array.getElem?_map,hrg,Option.map_some,hs,hmod]
 simp [hj']
theorem Z8q{z:List D}{u:Value}(h:Qnl u.cells.toList=some z)(hp:z.all D.plain=true)(c:Ctx)(w:World): ∀j v,u.cells[j]? =some v->PRep c.I w (z.getD j .dead) v:=by
 intro j v hv
 have hr:=Qdh h c w
 have hl:=hr.length
 have h1:u.cells.toList[j]? =some v:=by simpa using hv
 have hlt:j<z.length:=by rw[hl];exact(List.getElem?_eq_some_iff.1 h1).1
 refine CRep.plain ?_ ((Qc0.1 hr).2 j v h1)
 have hm:z.getD j .dead∈z:=by
   simp only[List.getD,List.getElem?_eq_getElem hlt,Option.getD_some]
   exact List.getElem_mem _
 exact List.all_eq_true.1 hp _ hm
theorem Z9x{c:Ctx}{w:World}{k:Nat}{e:TypeId}{sz cap:Nat}{es:Els}{arr:Array Value}(h1:es.l.length<=cap)(h2:cap<=maxLen)(h3:cap*sz=arr.size):
   Rep (c.add k ⟨false,e,sz,es⟩ w.heap.size) (w.alloc (.cells arr e)) (.all k) (.slice (some ⟨w.heap.size,0,none⟩) es.l.length cap):=by
 refine⟨_,(Ctx.add_self _ _ _ _).1,rfl, .inr ⟨by simp [Ctx.add],cap,arr,?_,h1,h2,?_,h3⟩⟩
 . rw[(Ctx.add_self _ _ _ _).2]
 . rw[(Ctx.add_self _ _ _ _).2];exact Z0n w _
theorem qz{P:Program}{T:Tab}(hT:Q52 P T){t:TypeId}{kl kc:IntKind}{n m:Int}{R:Rows}{K:D->Rows->Prop}(h:makeVC T t n m R K):
    ∃row val,K val (R++[some row])/\ ∀c w,Zmc P (Instr.makeSlice t (.int kl n) (.int kc m)) w c R.length row val:=by
  unfold makeVC at h
  split at h
  . rename_i e _ _ _ _ _ _ ht
    have hk:=Q23 hT ht
    simp only at hk
    split at h
    . rename_i kk sz by' cs z q he
      simp only[Q08,aE,decide_eq_true_eq,Qu4]at h
      obtain⟨⟨⟨⟨h0,hz⟩,hp⟩,g0,g1,g2,g3⟩,h⟩:=h
      have h0:0<sz:=lE h0
      have hz:=bE hz
      obtain⟨i,u,hi,hu,hzz,hs,hb,hc,hzero⟩:=Qgk hT he
      refine⟨_,_,h,λc w=> ?_⟩
      have hr:=run_make (P:=P) w t e i u hk.1 hi hu kl kc n m g0 g1 (by rw[hb];omega) g2
      rw[hs]at hr
      have hus:u.cells.size=sz:=by have:=Qe0 hzz;simp at this;omega
      refine⟨_,_,hr,⟨h0,?_⟩,λ_ _=> ?_⟩
      . simp only[Bool.false_eq_true,if_false,Els.repT_l]
        exact Z8i (n:=n.toNat) (m:=m.toNat) hz hus (Z8q hzz hp c w) (by omega)
      . have:=Z9x (c:=c) (w:=w) (k:=R.length) (e:=e) (sz:=sz) (cap:=m.toNat) (es:=Els.repT e n.toNat z) (arr:=madeCells u.cells (m.toNat*sz)) (by rw[Els.repT_l];simp;omega) (by unfold maxLen;omega) (by simp [madeCells])
        rw[Els.repT_l]at this
        simpa using this
    . exact h.elim
  . exact h.elim
theorem xz{c:Ctx}{w:World}{d:D}{v:Value}(h:CRep c w d v):CRep c w d.unfr v:=by
 cases d with
 | sl sz es fr=>
   obtain⟨a,cap,hv,hc,h⟩:=h
   refine⟨a,cap,hv,hc,?_⟩
   rcases h with h|⟨b,off,arr,ty,fz,h1,h2,h3,h4⟩
   . exact .inl h
   . exact .inr ⟨b,off,arr,ty,fz,h1,h2,(λe=>by cases e),h4⟩
 |_=>exact h
theorem Z8o{c:Ctx}{w:World}: ∀{ds:List D} {vs:List Value},Q3v c w ds vs->Q3v c w (Zfz ds) vs
 |[],[],_=>trivial
 |d::ds,v::vs,h=>⟨xz h.1,Z8o h.2⟩
 |[],_::_,h=>h.elim
 |_::_,[],h=>h.elim
theorem Zdz{n len:Nat}(h0:0<n){ev:Operand->D}: ∀{parts:List (Nat×Operand)} {es:List (List D)} {K:List (List D)->Prop},es.length=len->Qy0 n len ev parts es K->
   ∃ es',K es'/\es'.length=len/\ ∀c w (ρ:Operand->Value) (cells:Array Value),cells.size=len*n->Q1r c.I w es cells 0 n->(∀p∈parts,Rep c w (ev p.2) (ρ p.2))->
     ∃cells',Instr.fill (λi=>some (i*n,n)) cells (parts.map λp=>(p.1,ρ p.2))=some cells'/\cells'.size=len*n/\Q1r c.I w es' cells' 0 n
 |[],es,K,hl,h=>⟨es,h,hl,λc w ρ cells hs he _=>⟨cells,rfl,hs,he⟩⟩
 | (i,x)::ps,es,K,hl,h=>by
   unfold Qy0 at h
   simp only[Q08,aE]at h
   obtain⟨⟨⟨⟨hv,hp⟩,hn⟩,hi⟩,h⟩:=h
   have hn:=bE hn
   have hi:i<len:=lE hi
   obtain⟨es',hK,hl',hr⟩:=Zdz h0 (by simpa using hl) h
   refine⟨es',hK,hl',λc w ρ cells hs he hps=> ?_⟩
   have hx:=Z8o (Rep.cells hv (hps (i,x) (by simp)))
   have hlen:(ρ x).cells.size=n:=by rw[<-hn,hx.length];simp
   have hroom:i*n+n<=cells.size:=by
     have:=Nat.mul_le_mul_right n (show i+1<=len by omega)
     rw[Nat.succ_mul]at this
     omega
   have hw:=Qyt (c:=c) (w:=w) (es:=es) (arr:=cells.toList) (off:=0) (i:=i) (by simpa using he) (by omega) (by omega) hx hp (by simpa using hroom)
   have hover:Q2i (es.getD i []) 0 (Zfz (ev x).cells)=Zfz (ev x).cells:=by
     have hel:=(Q4y.1 he i (by omega)).1
     apply List.ext_getElem?
     intro k
     rw[Qa4 (by omega)]
     by_cases hk:k<(Zfz (ev x).cells).length
     . rw[if_pos (by omega)];simp
     . rw[if_neg (by omega),List.getElem?_eq_none (by omega),List.getElem?_eq_none (by omega)]
   rw[hover]at hw
   have hcells:(Q44 cells.toList (i*n+0) (ρ x).cells.toList).toArray=(ρ x).cells.zipIdx.foldl (λcs (x:Value×Nat)=>cs.setIfInBounds (i*n+x.2) x.1) cells:=by
     rw[Nat.add_zero,<-Zfc (ρ x) (i*n) cells]
   rw[hcells]at hw
   obtain⟨cells',k1,k2,k3⟩:=hr c w ρ _ (by rw[<-hcells];simp [Qe6,hs]) hw (λp hp=>hps p (by simp [hp]))
   refine⟨cells',?_,k2,k3⟩
   simp only[List.map_cons,Instr.fill]
   rw[if_neg (by simp;omega)]
   exact k1
theorem Z6w{n len:Nat}{ev:Operand->D}: ∀{parts:List (Nat×Operand)} {es:List (List D)} {K:List (List D)->Prop},Qy0 n len ev parts es K->
   ∃es',K es'/\ ∀(ev2:Operand->D) (K2:List (List D)->Prop),(∀p∈parts,ev2 p.2=ev p.2)->K2 es'->Qy0 n len ev2 parts es K2
 |[],es,K,h=>⟨es,h,λev2 K2 _ h2=>h2⟩
 | (i,x)::ps,es,K,h=>by
   unfold Qy0 at h
   simp only[Q08]at h
   obtain⟨es',h1,h2⟩:=Z6w h.2
   refine⟨es',h1,λev2 K2 he hk=> ?_⟩
   unfold Qy0
   rw[he (i,x) (by simp)]
   simp only[Q08]
   exact⟨h.1,h2 ev2 K2 (λp hp=>he p (by simp [hp])) hk⟩
theorem Zjk{T:Tab}{t:TypeId}{len:Nat}{parts:List (Nat×Operand)}{ev:Operand->D}{R:Rows}{K:D->Rows->Prop}(h:Qm2 T t len parts ev R K):
   ∃val,K val R/\ ∀(ev2:Operand->D) (R2:Rows),(∀p∈parts,ev2 p.2=ev p.2)->Qm2 T t len parts ev2 R2 λd R'=>d=val/\R'=R2:=by
 unfold Qm2 at h⊢
 split at h
 . split at h
   . simp only[Q08]at h⊢
     obtain⟨h0,h⟩:=h
     obtain⟨es',hK,hd⟩:=Z6w h
     cases len with
     |zero=>exact⟨_,hK,λev2 R2 hev=>⟨h0,hd ev2 _ hev (by simp)⟩⟩
     |succ m=>exact⟨_,hK,λev2 R2 hev=>⟨h0,hd ev2 _ hev (by simp)⟩⟩
   . exact h.elim
 . exact h.elim
theorem Zos{P:Program}{T:Tab}(hT:Q52 P T){t:TypeId}{len:Nat}{parts:List (Nat×Operand)}{ev:Operand->D}{R:Rows}{K:D->Rows->Prop}(h:Qm2 T t len parts ev R K):
    ∃val,K val R/\ ∀c w (ρ:Operand->Value),c.base<=w.heap.size->(∀p∈parts,Rep c w (ev p.2) (ρ p.2))-> ∃u arr ty,(Instr.buildSlice t len (parts.map λp=>(p.1,ρ p.2)).toArray).run P w= .ok u (w.alloc (.cells arr ty))/\(Mem c w->Rep (c.imm w.heap.size) (w.alloc (.cells arr ty)) val u):=by
  unfold Qm2 at h
  split at h
  . rename_i e _ _ _ _ _ _ ht
    have hk:=Q23 hT ht
    simp only at hk
    split at h
    . rename_i kk sz by' cs z q he
      simp only[Q08,aE]at h
      obtain⟨⟨⟨⟨h0,hz⟩,hle⟩,hp⟩,h⟩:=h
      have h0:0<sz:=lE h0
      have hz:=bE hz
      have hle:=lE hle
      obtain⟨i,u,hi,hu,hzz,hs,hb,hc,hzero⟩:=Qgk hT he
      obtain⟨es',hK,hl',hr⟩:=Zdz h0 (by simp) h
      have hus:u.cells.size=sz:=by have:=Qe0 hzz;simp at this;omega
      have main: ∀c w (ρ:Operand->Value),(∀p∈parts,Rep c w (ev p.2) (ρ p.2))-> ∃cells',(Instr.buildSlice t len (parts.map λp=>(p.1,ρ p.2)).toArray).run P w= .ok (.slice (some ⟨w.heap.size,0,none⟩) len len) (w.alloc (.cells cells' e))/\Q1r c.I w es' cells' 0 sz:=by
        intro c w ρ hps
        have hel:=Z8i (I:=c.I) (w:=w) hz hus (Z8q hzz hp c w) (Nat.le_refl len)
        obtain⟨cells',k1,k2,k3⟩:=hr c w ρ (madeCells u.cells (len*sz)) (by simp [madeCells]) hel hps
        refine⟨cells',?_,k3⟩
        have hbig: ¬len*sz>2^24:=by omega
        have hcs:0<P.cellsOf e:=by omega
        unfold Instr.buildSlice
        simp only[Sem.run_bind,run_underlying hk.1,Result.andThen_ok,Qem hcs,hc,Sem.run_ite,hbig,if_false,Sem.run_pure]
        by_cases hz0:len*sz=0
        . have hk1:Instr.fill (λi=>some (i*sz,sz)) ((Array.range (len*sz)).map λx=>(#[]:Array Value)[x%(#[]:Array Value).size]!) (parts.map λp=>(p.1,ρ p.2))=some cells':=by
            rw[<-k1];congr 1
            rw[hz0];simp [madeCells]
          simp only[hz0,if_true]at hk1⊢
          rw[hk1]
          simp only[newRow,Sem.run_bind,run_newObj,Result.andThen_ok,Sem.run_pure]
          rfl
        . simp only[hz0,if_false,hzero,Result.andThen_ok]
          rw[show Instr.fill (λi=>some (i*sz,sz)) ((Array.range (len*sz)).map λx=>u.cells[x%u.cells.size]!) (parts.map λp=>(p.1,ρ p.2))=some cells' from k1]
          simp only[newRow,Sem.run_bind,run_newObj,Result.andThen_ok,Sem.run_pure]
          rfl
      cases len with
      | zero=>
        refine⟨_,hK,λc w ρ _ hps=> ?_⟩
        obtain⟨cells',h1,_⟩:=main c w ρ hps
        exact⟨_,cells',e,h1,λ_=>⟨_,rfl,λx hx=>by cases hx;exact Nat.lt_of_lt_of_le (Nat.lt_succ_self _) (Nat.le_max_right _ _)⟩⟩
      | succ m=>
        refine⟨_,hK,λc w ρ hbase hps=> ?_⟩
        obtain⟨cells',h1,h2⟩:=main c w ρ hps
        refine⟨_,cells',e,h1,λhm=> ?_⟩
        refine⟨some ⟨w.heap.size,0,none⟩,m+1,by rw[Els.ofT_l,hl'],by rw[Els.ofT_l,hl'];exact Nat.le_refl _, .inr ⟨w.heap.size,0,cells',e,(0,0),rfl, .inr rfl,λ_=>hbase,Z0n w _,?_⟩⟩
        rw[Els.ofT_l]
        exact Q1m (Z0z hm _).I _ _ _ _ h2
    . exact h.elim
  . exact h.elim
