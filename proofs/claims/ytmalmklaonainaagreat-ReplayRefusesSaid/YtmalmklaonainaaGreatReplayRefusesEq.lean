import Derived.Test.YtmalmklaonainaaGreatReplayRefusesStore
set_option linter.all false
namespace Go.GD
open Go
def sv:D->Value
 | .int k n=> .int k n
 | .bool b=> .bool b
 | .str s=> .string ⟨s.toArray⟩
 |_=>undef
def Seg(xs:Array Value)(o:Nat)(az:List D):Prop:= ∀j d,az[j]? =some d->xs[o+j]? =some (sv d)
theorem Qjc: ∀{t u:List CTy} {l:List D},fits (t++u) l=true-> ∃a b,l=a++b/\fits t a=true/\fits u b=true/\a.length=t.length
 |[],u,l,h=>⟨[],l,rfl,rfl,h,rfl⟩
 |c::t,u,[],h=>by cases c<;>simp [fits]at h
 | c ::t,u,d::l,h=>by
   cases c<;>simp only[List.cons_append,fits,aE,Bool.false_eq_true]at h
   all_goals
     obtain⟨a,b,h1,h2,h3,h4⟩:=Qjc h.2
     exact⟨d::a,b,by rw[h1];rfl,by simp [fits,h.1,h2],h3,by simp [h4]⟩
theorem Q2d: ∀{t:List CTy} {l:List D},fits t l=true->l.length=t.length
 |[],[],_=>rfl
 |[],_::_,h=>by simp [fits]at h
 |c::t,[],h=>by cases c<;>simp [fits]at h
 | c::t,d::l,h=>by
   cases c<;>simp only[fits,aE,Bool.false_eq_true]at h
   all_goals simp [Q2d h.2]
theorem Qwt: ∀{a b a' b':List D},a.length=b.length->eqs (a++a') (b++b')=(eqs a b&&eqs a' b')
 |[],[],_,_,_=>by simp [eqs]
 | x::a,y::b,a',b',h=>by
   simp only[List.cons_append,eqs]
   rw[Qwt (by simpa using h),Bool.and_assoc]
theorem Q6z{P:Program}{t:TypeId}{d:TypeDesc}(hd:P.underlying t=some d)(ha:Z47 d=false){xs:Array Value}{o:Nat}{v:Value}(hv:xs[o]? =some v)(w:World):(part t xs o).run P w= .ok v w:=by
 unfold part
 rw[Sem.run_bind,Z4k hd,Qi7 hd,ha,Result.andThen_ok]
 simp [hv]
theorem Qkl{P:Program}{t:TypeId}{d:TypeDesc}(hd:P.underlying t=some d)(ha:Z47 d=true)(h0:0<P.cellsOf t)(xs:Array Value)(o:Nat)(w:World):
   (part t xs o).run P w= .ok (.agg (xs.extract o (o+P.cellsOf t))) w:=by
 unfold part
 rw[Sem.run_bind,Z4k hd,Qi7 hd,ha,Result.andThen_ok]
 simp only[if_true,Sem.run_bind,Qem h0,Result.andThen_ok,Sem.run_pure]
theorem Seg.extract{xs:Array Value}{o:Nat}{az:List D}{n:Nat}(h:Seg xs o az)(hn:az.length<=n):Seg (xs.extract o (o+n)) 0 az:=by
 intro j d hj
 have hlt:=(List.getElem?_eq_some_iff.1 hj).1
 have:=h j d hj
 have hx:=(Array.getElem?_eq_some_iff.1 this).1
 simp only[Nat.zero_add,Array.getElem?_extract]
 rw[if_pos (by omega)]
 exact this
theorem Seg.left{xs:Array Value}{o:Nat}{a b:List D}(h:Seg xs o (a++b)):Seg xs o a:=λj d hj=>h j d (by rw[List.getElem?_append_left (List.getElem?_eq_some_iff.1 hj).1];exact hj)
theorem Seg.right{xs:Array Value}{o:Nat}{a b:List D}(h:Seg xs o (a++b)):Seg xs (o+a.length) b:=λj d hj=>by
 rw[Nat.add_assoc];exact h (a.length+j) d (by rw[List.getElem?_append_right (by omega)];simpa using hj)
def cmpT(t:TypeId)(m:Nat)(xs ys:Array Value)(o:Nat):Sem Bool:=do
 let a<-part t xs o
 let b<-part t ys o
 Op.equalIn m t a b
theorem Z7v{P:Program}{n m:Nat}(ih: ∀t,eqOf P n t=true->P.cellsOf t=(Q6e P n t).length->0<P.cellsOf t-> ∀(xs ys:Array Value) (o:Nat) (az bs:List D) (w:World),fits (Q6e P n t) az=true->fits (Q6e P n t) bs=true->Seg xs o az->Seg ys o bs->
      (cmpT t m xs ys o).run P w= .ok (eqs az bs) w):
    ∀ (fs:List Field) (o:Nat) (az bs:List D) (xs ys:Array Value) (w:World),Zks P (eqOf P n) (λu=>(Q6e P n u).length) fs o=true->fits (fs.flatMap λf=>Q6e P n f.type) az=true->fits (fs.flatMap λf=>Q6e P n f.type) bs=true->
      Seg xs o az->Seg ys o bs->(Op.eqFields m xs ys fs).run P w= .ok (eqs az bs) w
  | [],o,az,bs,xs,ys,w,_,ha,hb,_,_=>by
    have h1:=Q2d ha
    have h2:=Q2d hb
    simp at h1 h2
    subst h1;subst h2
    simp [Op.eqFields,eqs]
  | f ::fs,o,az,bs,xs,ys,w,ho,ha,hb,sa,sb=>by
    simp only[Zks,aE]at ho
    obtain⟨⟨⟨⟨⟨h1,h2⟩,h3⟩,h4⟩,h5⟩,h6⟩:=ho
    have h2:=bE h2
    have h3:=bE h3
    have h4:0<(Q6e P n f.type).length:=lE h4
    simp only[List.flatMap_cons]at ha hb
    obtain⟨a1,a2,rfl,fa1,fa2,la⟩:=Qjc ha
    obtain⟨b1,b2,rfl,fb1,fb2,lb⟩:=Qjc hb
    have hone:=ih f.type h5 h3 (by omega) xs ys o a1 b1 w fa1 fb1 sa.left sb.left
    have hrest:=Z7v ih fs (o+(Q6e P n f.type).length) a2 b2 xs ys w h6 fa2 fb2 (by rw[<-la];exact sa.right) (by rw[<-lb];exact sb.right)
    have hne:f.name≠ "_" :=by simpa using h1
    simp only[Op.eqFields,hne,ne_eq,not_false_eq_true,if_true,h2]
    unfold cmpT at hone
    rw[Qwt (by omega)]
    rw[Sem.run_bind]at hone⊢
    cases hp:(part f.type xs o).run P w with
    |halt x w1=>rw[hp]at hone;simp at hone
    | ok a w1=>
      rw[hp]at hone
      simp only[Result.andThen_ok,Sem.run_bind]at hone⊢
      cases hq:(part f.type ys o).run P w1 with
      |halt x w2=>rw[hq]at hone;simp at hone
      | ok b w2=>
        rw[hq]at hone
        simp only[Result.andThen_ok]at hone⊢
        rw[hone]
        simp only[Result.andThen_ok]
        cases he:eqs a1 b1 with
        |true=>simpa [he] using hrest
        |false=>simp
theorem Zeo{P:Program}{n m:Nat}{e:TypeId}{k:Nat}(hk:P.cellsOf e=k)(hl:(Q6e P n e).length=k)(ih: ∀(xs ys:Array Value) (o:Nat) (az bs:List D) (w:World),fits (Q6e P n e) az=true->fits (Q6e P n e) bs=true->Seg xs o az->Seg ys o bs->
      (cmpT e m xs ys o).run P w= .ok (eqs az bs) w):
    ∀ (len i:Nat) (az bs:List D) (xs ys:Array Value) (w:World),fits (List.replicate len (Q6e P n e)).flatten az=true->fits (List.replicate len (Q6e P n e)).flatten bs=true->Seg xs (i*k) az->Seg ys (i*k) bs->
      (do
        let r<-forIn (List.range' i len) ((none,()):Option Bool×Unit) λj _=>do
          let a<-part e xs (j*k)
          let b<-part e ys (j*k)
          let q<-Op.equalIn m e a b
          if(!q)=true then pure (ForInStep.done (some false,())) else pure (ForInStep.yield (none,()))
        match r.1 with
        |some a=>pure a
        |none=>pure true:Sem Bool).run P w= .ok (eqs az bs) w
  | 0,i,az,bs,xs,ys,w,ha,hb,_,_=>by
    have h1:=Q2d ha
    have h2:=Q2d hb
    simp at h1 h2
    subst h1;subst h2
    simp [eqs]
  | len + 1,i,az,bs,xs,ys,w,ha,hb,sa,sb=>by
    simp only[List.replicate_succ,List.flatten_cons]at ha hb
    obtain⟨a1,a2,rfl,fa1,fa2,la⟩:=Qjc ha
    obtain⟨b1,b2,rfl,fb1,fb2,lb⟩:=Qjc hb
    have hone:=ih xs ys (i*k) a1 b1 w fa1 fb1 sa.left sb.left
    have hrest:=Zeo hk hl ih len (i+1) a2 b2 xs ys w fa2 fb2 (by rw[Nat.succ_mul];have:=sa.right;rwa [la,hl]at this) (by rw[Nat.succ_mul];have:=sb.right;rwa [lb,hl]at this)
    unfold cmpT at hone
    rw[Qwt (by omega)]
    simp only[List.range'_succ,List.forIn_cons,Sem.run_bind]at hone⊢
    cases hp:(part e xs (i*k)).run P w with
    |halt x w1=>rw[hp]at hone;simp at hone
    | ok a w1=>
      rw[hp]at hone
      simp only[Result.andThen_ok]at hone⊢
      cases hq:(part e ys (i*k)).run P w1 with
      |halt x w2=>rw[hq]at hone;simp at hone
      | ok b w2=>
        rw[hq]at hone
        simp only[Result.andThen_ok]at hone⊢
        rw[hone]
        simp only[Result.andThen_ok]
        cases he:eqs a1 b1 with
        | true=>
          simp only[Sem.run_bind]at hrest
          simpa [he] using hrest
        |false=>simp
theorem Zjq{P:Program}: ∀(n:Nat) (t:TypeId) (m:Nat),n<=m->eqOf P n t=true->P.cellsOf t=(Q6e P n t).length->0<P.cellsOf t-> ∀(xs ys:Array Value) (o:Nat) (az bs:List D) (w:World),
    fits (Q6e P n t) az=true->fits (Q6e P n t) bs=true->Seg xs o az->Seg ys o bs->(cmpT t m xs ys o).run P w= .ok (eqs az bs) w
  |0,t,m,_,h,_,_,_,_,_,_,_,_,_,_,_,_=>by simp [eqOf]at h
  |n+1,t,0,hm,_,_,_,_,_,_,_,_,_,_,_,_,_=>by omega
  | n + 1,t,m+1,hm,h,hc,h0,xs,ys,o,az,bs,w,ha,hb,sa,sb=>by
    unfold eqOf at h
    split at h
    . rename_i k hd
      simp only[Q6e,hd]at ha hb
      have h1:=Q2d ha;have h2:=Q2d hb
      obtain⟨x,rfl⟩:=List.length_eq_one_iff.1 h1
      obtain⟨y,rfl⟩:=List.length_eq_one_iff.1 h2
      simp only[fits,Bool.and_true]at ha hb
      have hx:=sa 0 x rfl;have hy:=sb 0 y rfl
      rw[D.isInt_eq ha]at hx⊢
      rw[D.isInt_eq hb]at hy⊢
      simp only[sv,Nat.add_zero]at hx hy
      simp only[cmpT,Sem.run_bind,Q6z hd rfl hx,Q6z hd rfl hy,Result.andThen_ok,run_equalIn_int w m t k k _ _ hd,eqs,eq1,Bool.and_true]
    . rename_i hd
      simp only[Q6e,hd]at ha hb
      have h1:=Q2d ha;have h2:=Q2d hb
      obtain⟨x,rfl⟩:=List.length_eq_one_iff.1 h1
      obtain⟨y,rfl⟩:=List.length_eq_one_iff.1 h2
      simp only[fits,Bool.and_true]at ha hb
      have hx:=sa 0 x rfl;have hy:=sb 0 y rfl
      rw[D.isBool_eq ha]at hx⊢
      rw[D.isBool_eq hb]at hy⊢
      simp only[sv,Nat.add_zero]at hx hy
      simp only[cmpT,Sem.run_bind,Q6z hd rfl hx,Q6z hd rfl hy,Result.andThen_ok,run_equalIn_bool' w m t _ _ hd,eqs,eq1,Bool.and_true]
    . rename_i hd
      simp only[Q6e,hd]at ha hb
      have h1:=Q2d ha;have h2:=Q2d hb
      obtain⟨x,rfl⟩:=List.length_eq_one_iff.1 h1
      obtain⟨y,rfl⟩:=List.length_eq_one_iff.1 h2
      simp only[fits,Bool.and_true]at ha hb
      have hx:=sa 0 x rfl;have hy:=sb 0 y rfl
      cases x<;>simp [D.isStr]at ha
      cases y<;>simp [D.isStr]at hb
      rename_i s u
      simp only[sv,Nat.add_zero]at hx hy
      simp only[cmpT,Sem.run_bind,Q6z hd rfl hx,Q6z hd rfl hy,Result.andThen_ok,run_equalIn_string w m t _ _ hd,eqs,eq1,Bool.and_true,ByteArray.toList_mk]
      congr 1
      rw[Bool.eq_iff_iff];simp
    . rename_i fs hd
      simp only[aE,Bool.not_eq_true']at h
      have hf:P.fieldsOf t=fs:=by simp [Program.fieldsOf,hd]
      have hl:=Q2d ha
      have hl':=Q2d hb
      simp only[Q6e,hd]at ha hb
      simp only[cmpT,Sem.run_bind,Qkl hd rfl h0,Result.andThen_ok]
      rw[run_equalIn_struct w m t _ _ (by rw[hf];exact hd) h.1,hf]
      refine Z7v (n:=n) (λu hu hcu h0u xs ys o az bs w=>Zjq n u m (by omega) hu hcu h0u xs ys o az bs w) fs.toList 0 az bs _ _ w h.2 ha hb (sa.extract (by omega)) (sb.extract (by omega))
    . rename_i len e hd
      simp only[aE]at h
      obtain⟨⟨h1,h2⟩,h3⟩:=h
      have h1:=bE h1
      have h2:0<P.cellsOf e:=lE h2
      have hl:=Q2d ha
      have hl':=Q2d hb
      simp only[Q6e,hd]at ha hb
      simp only[cmpT,Sem.run_bind,Qkl hd rfl h0,Result.andThen_ok]
      have:=Zeo (P:=P) (n:=n) (m:=m) (e:=e) rfl h1.symm (λxs ys o az bs w=>Zjq n e m (by omega) h3 h1 h2 xs ys o az bs w) len 0 az bs (xs.extract o (o+P.cellsOf t)) (ys.extract o (o+P.cellsOf t)) w ha hb
        (by rw[Nat.zero_mul];exact sa.extract (by omega)) (by rw[Nat.zero_mul];exact sb.extract (by omega))
      rw[<-this]
      simp only[Op.equalIn,Sem.run_bind,run_underlying hd,Result.andThen_ok,Qem h2,Std.Legacy.Range.forIn_eq_forIn_range',Std.Legacy.Range.size,Nat.sub_zero,Nat.add_sub_cancel,Nat.div_one]
      congr 1
      funext r w'
      obtain⟨f,u⟩:=r
      cases f<;>rfl
    . cases h
