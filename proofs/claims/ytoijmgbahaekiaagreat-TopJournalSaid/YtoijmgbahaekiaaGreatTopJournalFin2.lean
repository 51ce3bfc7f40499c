import Derived.Test.YtoijmgbahaekiaaGreatTopJournalZt
import Derived.Lib.Bytealg
import Derived.Test.YtoijmgbahaekiaaGreatTopJournalCk
open Nat renaming le_refl->aO,pow_succ->dA,mul_comm->dB,mod_lt->dE,pow_zero->dG,mod_eq_of_lt->dH,lt_irrefl->dI,eq_zero_or_pos->dJ,le_trans->bI,shiftLeft_eq->dN,lt_succ_self->dQ,div_lt_iff_lt_mul->dT,zero_le->aT,not_lt_zero->dZ,zero_add->aX
open List renaming length_cons->cZ,map_append->bM,length_map->dO,getD_eq_getElem?_getD->dP,getElem?_eq_getElem->cI,length->dR,append_assoc->cP,length_singleton->dS,length_take->bD,append_nil->cL,take->dU,drop->dV,take_of_length_le->dW,length_drop->bG,take_succ_cons->eA,mem_cons_of_mem->eB,take_append->eC,mem_cons_self->eD,nil_append->eE,take_append_of_le_length->eF,drop_left->eH,take_left->eI,map_cons->eJ,getElem_mem->eK,mem_of_mem_drop->cS,take_succ_eq_append_getElem->eL,drop_length->eM,take_length->eN,sum_cons->eP,take_sublist->eQ,pairwise_append->eR,mem_of_mem_take->eS,map_nil->eT,sum_nil->eU,pairwise_cons->eW,flatMap_cons->eX,flatMap_nil->eY,take_append_drop->eZ,length_nil->fB,drop_sublist_drop_left->fC,getD->aK,getElem_of_mem->fE,set->fF,mem_cons->fG,not_mem_nil->fH,map_take->fI
open UInt8 renaming ofNat->dC,lt_irrefl->fD
open Int renaming toNat_natCast->dD,fdiv_eq_ediv_of_nonneg->dF,toNat->dM,le_refl->dX,sub_zero->eO,le_trans->eV,natAbs_tmod->fJ
open BitVec renaming ofInt->dK,toNat_ofInt->dL
open Bool renaming false_ne_true->eG,or_eq_true->aI
set_option maxRecDepth 100000
set_option linter.all false
namespace Go.Proofs.YtoijmgbahaekiaaGreat
open Go Go.GD
open Go.IntKind(wrap i64 wrap_i64 wrap_u64 wrap_u8)
section
variable {α β:Type} {t:Tree α} {Q:α->Prop} {k:α->Tree β} {W:β->Prop}
theorem Q0i(hq:t.w Q)(g:∀x,Q x->(k x).w W):(Tree.an t.p (Tree.lv t.m k)).w W:=⟨(Tree.pp hq).1,λy hy=>g y (by rw[hy];exact(Tree.pp hq).2)⟩
end
theorem bt{a b:Int}(h:(a==b)=true):a=b:=by simpa using h
theorem bf{a b:Int}(h:(a==b)=false):a≠b:=by simpa using h
theorem nt{a b:Int}(h:(a !=b)=true):a≠b:=by simpa using h
theorem nf{a b:Int}(h:(a !=b)=false):a=b:=by simpa using h
theorem wi{x:Int}(h0: -9223372036854775808<=x)(h1:x<=9223372036854775807):wrap .i64 x=x:=by rw[wrap_i64];omega
theorem wu{x:Int}(h0:0<=x)(h1:x<18446744073709551616):wrap .u64 x=x:=by rw[wrap_u64];omega
theorem w1{i:Nat}(h:i<1000000000000):wrap .i64 ((i:Int)+1)=((i+1:Nat):Int):=by rw[wi (by omega) (by omega)];omega
def uvL(n:Nat):List Int:=if h:n<128 then[(n:Int)]else((n%128+128:Nat):Int)::uvL (n/128)
termination_by n
decreasing_by omega
theorem Qzs{n:Nat}(h:n<128):uvL n=[(n:Int)]:=by unfold uvL;rw[dif_pos h]
theorem Z09{n:Nat}(h:¬n<128):uvL n=((n%128+128:Nat):Int)::uvL (n/128):=by
 conv=>lhs;unfold uvL
 rw[dif_neg h]
theorem Z6u:∀(k n:Nat),n<128^(k+1)->(uvL n).length<=k+1
 |0,n,h=>by rw[Qzs (by simpa using h)];exact aO _
 |k +1,n,h=>by
  by_cases g:n<128
  ·rw[Qzs g];exact Nat.le_add_left _ _
  ·rw[Z09 g,cZ]
   have:=Z6u k (n/128) (by rw[dA]at h;exact Nat.div_lt_of_lt_mul (by rw[dB];exact h))
   omega
def uvB(x:Int):List UInt8:=bytesOf (uvL x.toNat)
theorem Quk(a b:List Int):bytesOf (a++b)=bytesOf a++bytesOf b:=bM
theorem Qgz:∀s:List UInt8,bytesOf (Q6z s)=s
 |[]=>rfl
 |b::s=>by
  show dC ((b.toNat:Int)).toNat::bytesOf (Q6z s)=_
  rw[Qgz s,dD,UInt8.ofNat_toNat]
theorem or128:∀n:Fin 256,ior .u8 (n.val:Int) 128=((n.val%128+128:Nat):Int):=by decide
theorem zA{x:Int}(h:0<=x):ior .u8 (wrap .u8 x) 128=((x.toNat%128+128:Nat):Int):=by
 have e:wrap .u8 x=((x.toNat%256:Nat):Int):=by rw[wrap_u8];omega
 rw[e]
 have:=or128 ⟨x.toNat%256,dE _ (by decide)⟩
 rw[this]
 show((x.toNat%256%128+128:Nat):Int)=_
 omega
theorem shr7{x:Int}(h:0<=x):ishr .u64 x 7=((x.toNat/128:Nat):Int):=by
 have:ishr .u64 x 7=x.fdiv 128:=rfl
 rw[this,dF _ (by decide)];omega
theorem ye(n:Nat):0<(uvL n).length:=by
 by_cases h:n<128
 ·rw[Qzs h];exact Nat.one_pos
 ·rw[Z09 h];exact Nat.succ_pos _
theorem Z8k:∀(i n:Nat),i<(uvL n).length->(uvL n).getD i 0=((n/128^i%128+(if n/128^i<128 then 0 else 128):Nat):Int)/\(n/128^i<128↔i+1=(uvL n).length)/\(0<i->0<n/128^i)
 |0,n,h=>by
  rw[dG,Nat.div_one]
  by_cases g:n<128
  ·rw[Qzs g,if_pos g,dH g]
   exact⟨rfl,⟨λ_=>rfl,λ_=>g⟩,λk=>absurd k (dI 0)⟩
  ·rw[Z09 g,if_neg g]
   refine⟨rfl,⟨λk=>absurd k g,λk=>?_⟩,λk=>absurd k (dI 0)⟩
   have:=ye (n/128)
   rw[cZ]at k;omega
 |i + 1,n,h=>by
  by_cases g:n<128
  ·rw[Qzs g]at h;simp at h
  ·rw[Z09 g,cZ]at h
   obtain⟨a,b,c⟩:=Z8k i (n/128) (by omega)
   have e:n/128^(i+1)=n/128/128^i:=by rw[dA,dB,Nat.div_div_eq_div_mul]
   rw[Z09 g,e,cZ]
   refine⟨?_,⟨λk=>by rw[b.1 k],λk=>b.2 (by omega)⟩,λ_=>?_⟩
   ·rw[<-a];rfl
   ·rcases dJ i with z|z
    ·subst z;rw[dG,Nat.div_one];omega
    ·exact c z
theorem ior64(a b:Nat)(ha:a<18446744073709551616)(hb:b<18446744073709551616):ior .u64 (a:Int) (b:Int)=((a|||b:Nat):Int):=by
 have hab:a|||b<18446744073709551616:=Nat.or_lt_two_pow (n:=64) ha hb
 have e:((dK 64 (a:Int)|||dK 64 (b:Int)).toNat)=a|||b:=by
  rw[BitVec.toNat_or,dL,dL]
  congr 1
  ·omega
  ·omega
 show wrap .u64 ((dK 64 (a:Int)|||dK 64 (b:Int)).toNat:Int)=_
 rw[e,wrap_u64];omega
theorem ishl64(x k:Nat)(hk:k<64)(h:x*2^k<18446744073709551616):ishl .u64 (x:Int) (k:Int)=((x*2^k:Nat):Int):=by
 have e:((x:Int)*2^k)=((x*2^k:Nat):Int):=by simp
 show wrap .u64 ((x:Int)*2^(min (dM (k:Int)) 64))=_
 rw[dD,Nat.min_eq_left (by omega),e,wrap_u64];omega
theorem p128(i:Nat):(128:Nat)^i=2^(7*i):=by rw[Nat.pow_mul]
theorem vQ{n i:Nat}(hn:n<18446744073709551616)(hi:i<=9):ior .u64 ((n%128^i:Nat):Int) (ishl .u64 ((n/128^i%128:Nat):Int) ((7*i:Nat):Int))=((n%128^(i+1):Nat):Int):=by
 have h1:n/128^i%128*2^(7*i)<=n:=by
  rw[<-p128]
  exact bI (Nat.mul_le_mul_right _ (Nat.mod_le _ _)) (Nat.div_mul_le_self _ _)
 rw[ishl64 _ _ (by omega) (by omega),ior64 _ _ (Nat.lt_of_le_of_lt (Nat.mod_le _ _) hn) (by omega)]
 congr 1
 rw[Nat.or_comm,p128 i,<-dN,<-Nat.shiftLeft_add_eq_or_of_lt (dE _ (Nat.two_pow_pos _)),dN,p128 (i+1),Nat.mul_add,Nat.pow_add,Nat.mod_mul]
 rw[show(2:Nat)^(7*1)=128 from rfl,dB (2^(7*i))];omega
theorem and127:∀n:Fin 256,iand .u8 (n.val:Int) 127=((n.val%128:Nat):Int):=by decide
theorem ve{x:Int}{t:List UInt8}{i:Nat}(h:i<(uvL x.toNat).length):((uvB x++t).getD i 0).toNat=x.toNat/128^i%128+(if x.toNat/128^i<128 then 0 else 128):=by
 have hl:(uvB x).length=(uvL x.toNat).length:=by unfold uvB bytesOf;rw[dO]
 obtain⟨a,_,_⟩:=Z8k i x.toNat h
 have e:(uvB x++t).getD i 0=dC ((uvL x.toNat).getD i 0).toNat:=by
  rw[dP,List.getElem?_append_left (by omega)]
  unfold uvB bytesOf
  rw[List.getElem?_map,dP,cI h];rfl
 rw[e,a,dD,UInt8.toNat_ofNat']
 have:=dE (x.toNat/128^i) (show 0<128 by decide)
 split<;>omega
theorem Z60{x:Int}(h0:0<=x)(h1:x<18446744073709551616):(Q3z x).w (λs=>s=uvB x):=by
 have hl:=Z6u 9 x.toNat (by rw[show(128:Nat)^(9+1)=1180591620717411303424 by decide];omega)
 unfold Q3z
 refine w_lp (inv:=λv:Int×List Int=>0<=v.1/\v.2++uvL v.1.toNat=uvL x.toNat) (μ:=Qce x) ⟨h0,rfl⟩ (dQ _) λv ⟨a,b⟩=>?_
 obtain⟨y,o⟩:=v
 have a:0<=y:=a
 have b:o++uvL y.toNat=uvL x.toNat:=b
 have bl:=congrArg dR b
 rw[lA]at bl
 refine w_br (λhb=>?_) (λhb=>?_)
 ·have hb:y>=128:=oY hb
  have g:¬y.toNat<128:=by omega
  rw[Z09 g]at b bl
  rw[cZ]at bl
  refine w_cn (dY (by show 1*(o.length+1)<=_;omega)) (w_nx ?_)
  show(0<=ishr .u64 y 7/\(o++[ior .u8 (wrap .u8 y) 128])++uvL (ishr .u64 y 7).toNat=uvL x.toNat)/\(ishr .u64 y 7).toNat<y.toNat
  rw[shr7 a,zA a,dD]
  refine⟨⟨by omega,?_⟩,by omega⟩
  rw[cP];exact b
 ·have hb:¬y>=128:=oN hb
  have g:y.toNat<128:=by omega
  rw[Qzs g]at b bl
  refine w_cn (dY (by show 1*(o.length+1)<=_;rw[dS]at bl;omega)) ?_
  show bytesOf (o++[wrap .u8 y])=uvB x
  unfold uvB
  rw[<-b,show wrap .u8 y=((y.toNat:Nat):Int) by rw[wrap_u8];omega]
theorem Z94(x:Int):(uvB x).length=(uvL x.toNat).length:=by unfold uvB bytesOf;rw[dO]
theorem Qel{x:Int}(h1:x<18446744073709551616):(uvB x).length<=10:=by
 rw[Z94]
 exact Z6u 9 x.toNat (by rw[show(128:Nat)^(9+1)=1180591620717411303424 by decide];omega)
theorem qf(x:Int):0<(uvB x).length:=by rw[Z94];exact ye _
theorem xf{x:Int}(h0:0<=x)(h1:x<18446744073709551616)(t:List UInt8):(Q51 (uvB x++t)).w λr=>r=(x,((uvB x).length:Int),true):=by
 have hL:=Qel h1
 have hB:=Z94 x
 have hn:x.toNat<18446744073709551616:=by omega
 have hs:(uvB x++t).length=(uvB x).length+t.length:=lA
 unfold Q51
 refine w_lp (inv:=λv:Int×Int=>∃i:Nat,v.2=i/\i<(uvB x).length/\v.1=((x.toNat%128^i:Nat):Int)) (μ:=Q4r (uvB x++t)) ⟨0,rfl,qf x,by rw[dG,Nat.mod_one];rfl⟩ (dQ _) ?_
 rintro⟨_,_⟩ ⟨i,rfl,hi,rfl⟩
 have hb:=ve (x:=x) (t:=t) (i:=i) (by omega)
 obtain⟨_,a2,a3⟩:=Z8k i x.toNat (by omega)
 have hlim:¬((if(10:Int)<((uvB x++t).length:Int)then(10:Int)else((uvB x++t).length:Int))<=i):=by
  split<;>omega
 have e0:dM (i:Int)=i:=dD i
 obtain⟨b,hbb⟩:∃b,b=((uvB x++t).getD i 0).toNat:=⟨_,rfl⟩
 obtain⟨q,hq⟩:∃q,q=x.toNat/128^i:=⟨_,rfl⟩
 rw[<-hbb,<-hq]at hb
 rw[<-hq]at a2 a3
 have hbz:((((uvB x++t).getD (dM (i:Int)) (0:UInt8)).toNat:Nat):Int)=(b:Int):=by rw[e0,hbb]
 have hq128:q%128<128:=dE _ (by decide)
 have b256:b<256:=by split at hb<;>omega
 have em:b%128=q%128:=by split at hb<;>omega
 have e127:iand .u8 (b:Int) 127=((q%128:Nat):Int):=by have:=and127 ⟨b,b256⟩;rw[this];show((b%128:Nat):Int)=_;rw[em]
 have e7:wrap .u64 (wrap .i64 (7*(i:Int)))=((7*i:Nat):Int):=by rw[wi (by omega) (by omega),wu (by omega) (by omega)];omega
 have key:ior .u64 ((x.toNat%128^i:Nat):Int) (ishl .u64 (wrap .u64 (iand .u8 (b:Int) 127)) (wrap .u64 (wrap .i64 (7*(i:Int)))))=((x.toNat%128^(i+1):Nat):Int):=by
  rw[e127,e7,wu (by omega) (by omega),hq]
  exact vQ hn (by omega)
 have more:(b:Int)>=128->i+1<(uvB x).length:=λh=>by
  have:¬q<128:=λk=>by rw[if_pos k]at hb;omega
  have:¬i+1=(uvL x.toNat).length:=λk=>this (a2.2 k)
  omega
 have last:¬(b:Int)>=128->q<128/\b=q/\i+1=(uvB x).length/\x.toNat%128^(i+1)=x.toNat:=λh=>by
  have k:q<128:=by
   apply Classical.byContradiction
   intro k
   rw[if_neg k]at hb;omega
  have e:=a2.1 k
  refine⟨k,by rw[if_pos k,dH k]at hb;omega,by omega,dH ?_⟩
  rw[dA]
  have:=(dT (Nat.pow_pos (show 0<128 by decide))).1 (hq.symm▸k)
  rwa [dB]at this
 have nine:i=9->¬(b:Int)>1:=λh=>by
  have e:q<=1:=by
   rw[hq,h]
   have:x.toNat/128^9<2:=(dT (Nat.pow_pos (show 0<128 by decide))).2 (by rw[show 2*128^9=18446744073709551616 by decide];exact hn)
   omega
  rw[if_pos (by omega),dH (by omega)]at hb
  omega
 have nx:(b:Int)>=128->(∃j:Nat,wrap .i64 ((i:Int)+1)=j/\j<(uvB x).length/\ior .u64 ((x.toNat%128^i:Nat):Int) (ishl .u64 (wrap .u64 (iand .u8 ((((uvB x++t).getD (dM (i:Int)) (0:UInt8)).toNat:Nat):Int) 127)) (wrap .u64 (wrap .i64 (7*(i:Int)))))=((x.toNat%128^j:Nat):Int))/\Q4r (uvB x++t) (ior .u64 ((x.toNat%128^i:Nat):Int) (ishl .u64 (wrap .u64 (iand .u8 ((((uvB x++t).getD (dM (i:Int)) (0:UInt8)).toNat:Nat):Int) 127)) (wrap .u64 (wrap .i64 (7*(i:Int))))),wrap .i64 ((i:Int)+1))<Q4r (uvB x++t) (((x.toNat%128^i:Nat):Int),(i:Int)):=λh=>
  ⟨⟨i+1,w1 (by omega),more h,by rw[hbz];exact key⟩,by
   show(10-wrap .i64 ((i:Int)+1)).toNat<(10-(i:Int)).toNat
   rw[w1 (show i<1000000000000 by omega)];have:=more h;omega⟩
 have lf:¬(b:Int)>=128->(ior .u64 ((x.toNat%128^i:Nat):Int) (ishl .u64 (wrap .u64 (iand .u8 ((((uvB x++t).getD (dM (i:Int)) (0:UInt8)).toNat:Nat):Int) 127)) (wrap .u64 (wrap .i64 (7*(i:Int))))),wrap .i64 ((i:Int)+1),true)=(x,((uvB x).length:Int),true):=λh=>by
  obtain⟨_,_,l1,l2⟩:=last h
  rw[hbz,key,l2,w1 (by omega),l1,Int.toNat_of_nonneg h0]
 refine w_br (λhg=>w_cn (dY ⟨by show(0:Int)<=(i:Int);omega,by show(i:Int)<((uvB x++t).length:Int);omega⟩) ?_) (λhg=>absurd (oN hg) (by show¬¬((i:Int)<if(10:Int)<((uvB x++t).length:Int)then(10:Int)else((uvB x++t).length:Int));omega))
 refine w_br (λh9=>w_br (λh1=>absurd (hbz▸(oY h1:((((uvB x++t).getD (dM (i:Int)) (0:UInt8)).toNat:Nat):Int)>1)) (nine (by have:(i:Int)=9:=bt h9;omega))) (λ_=>?_)) (λ_=>?_)
 all_goals
  refine w_cn (dY ?_) (w_br (λhm=>w_nx ?_) (λhm=>?_))
  ·show 0<=wrap .u64 (wrap .i64 (7*(i:Int)));rw[e7];omega
  ·exact nx (hbz▸(oY hm:((((uvB x++t).getD (dM (i:Int)) (0:UInt8)).toNat:Nat):Int)>=128))
  ·have hm:¬(b:Int)>=128:=hbz▸(oN hm:¬((((uvB x++t).getD (dM (i:Int)) (0:UInt8)).toNat:Nat):Int)>=128)
   refine w_br (λhz=>w_br (λhp=>?_) (λhp=>?_)) (λhz=>?_)
   ·have hz:(b:Int)=0:=hbz▸(bt hz:((((uvB x++t).getD (dM (i:Int)) (0:UInt8)).toNat:Nat):Int)=0)
    have hp:(i:Int)>0:=oY hp
    have:=a3 (by omega)
    have:=(last hm).2.1
    omega
   ·exact lf hm
   ·exact lf hm
theorem qR{x:Int}(h1:x<18446744073709551616){k:Nat}(hk:k<(uvB x).length):(Q51 ((uvB x).take k)).w λr=>r.2.2=false:=by
 have hL:=Qel h1
 have hB:=Z94 x
 have hs:((uvB x).take k).length=k:=by rw[bD];omega
 unfold Q51
 refine w_lp (inv:=λv:Int×Int=>∃i:Nat,v.2=i/\i<=k) (μ:=Q4r ((uvB x).take k)) ⟨0,rfl,aT _⟩ (dQ _) ?_
 rintro⟨y,_⟩ ⟨i,rfl,hi⟩
 have e0:dM (i:Int)=i:=dD i
 refine w_br (λhg=>?_) (λ_=>rfl)
 have hg:(i:Int)<if(10:Int)<(((uvB x).take k).length:Int)then(10:Int)else(((uvB x).take k).length:Int):=oY hg
 rw[hs]at hg
 have hik:i<k:=by split at hg<;>omega
 have hb:((((uvB x).take k).getD (dM (i:Int)) (0:UInt8)).toNat:Int)>=128:=by
  have e:((uvB x).take k).getD (dM (i:Int)) (0:UInt8)=(uvB x++[]).getD i 0:=by
   rw[e0,cL,dP,dP,List.getElem?_take,if_pos hik]
  rw[e,ve (by omega),if_neg (λc=>by have:=(Z8k i x.toNat (by omega)).2.1.1 c;omega)]
  omega
 have e7:wrap .u64 (wrap .i64 (7*(i:Int)))=((7*i:Nat):Int):=by rw[wi (by omega) (by omega),wu (by omega) (by omega)];omega
 refine w_cn (dY ⟨by show(0:Int)<=(i:Int);omega,by show(i:Int)<(((uvB x).take k).length:Int);omega⟩) ?_
 refine w_br (λh9=>absurd (bt h9:(i:Int)=9) (by omega)) (λ_=>?_)
 refine w_cn (dY ?_) (w_br (λhm=>w_nx ?_) (λhm=>absurd hb (oN hm)))
 ·show 0<=wrap .u64 (wrap .i64 (7*(i:Int)));rw[e7];omega
 ·refine⟨⟨i+1,w1 (by omega),hik⟩,?_⟩
  show(10-wrap .i64 ((i:Int)+1)).toNat<(10-(i:Int)).toNat
  rw[w1 (by omega)];omega
theorem takeA(s:List UInt8)(k:Nat):dU (dM (s.length:Int)-dM (k:Int)) (dV (dM (k:Int)) s)=s.drop k:=by
 rw[dD,dD,dW (by rw[bG];omega)]
theorem Zb2(s:List UInt8)(k:Nat):dU (dM (k:Int)-dM 0) (dV (dM 0) s)=s.take k:=by
 rw[dD];rfl
theorem sum_w{s:List UInt8}(hl:s.length<=1000000):(Q9a s).w (λr=>r.length=8):=by
 unfold Q9a
 refine w_an (show s.length<=1000000000000 by omega) (w_lv λy _=>?_)
 refine w_lp (inv:=λv:Int×A8 Int=>0<=v.1/\v.1<=8) (μ:=Qff s) ⟨dX 0,by show(0:Int)<=8;decide⟩ (dQ _) λv ⟨a,b⟩=>?_
 refine w_br (λhb=>?_) λ_=>w_lf rfl
 have hb:v.1<8:=oY hb
 have e1:wrap .i64 (v.1+1)=v.1+1:=wi (by omega) (by omega)
 refine w_cn (dY ?_) (w_cn ?_ (w_nx ?_))
 ·rw[wi (x:=7-v.1) (by omega) (by omega),wi (by omega) (by omega)];omega
 ·exact Bool.and_eq_true_iff.2 ⟨rfl,dY ⟨a,hb⟩⟩
 ·show(0<=wrap .i64 (v.1+1)/\wrap .i64 (v.1+1)<=8)/\(8-wrap .i64 (v.1+1)).toNat<(8-v.1).toNat
  rw[e1];omega
theorem Z7n{s:List UInt8}(hl:s.length<=1000000):(Q0g s).length=8:=(Tree.pp (sum_w hl)).2
section
variable (sm:List UInt8->List UInt8)
def Qh9(n:Nat)(b:List UInt8):List UInt8:=uvB n++(uvB b.length++b)
def sealJ(n:Nat)(b:List UInt8):List UInt8:=Qh9 n b++sm (Qh9 n b)
def recJ(n:Nat)(b:List UInt8):List UInt8:=uvB (sealJ sm n b).length++sealJ sm n b
def jrF:Nat->List (List UInt8)->List UInt8
 |_,[]=>[]
 |n,b::l=>recJ sm n b++jrF (n+1) l
def Q9z:Nat->List (List UInt8)->Nat->Nat
 |_,[],_=>0
 |n,b::l,k=>if(recJ sm n b).length<=k then Q9z (n+1) l (k-(recJ sm n b).length)+1 else 0
theorem zf:∀(n:Nat) (l m:List (List UInt8)),jrF sm n (l++m)=jrF sm n l++jrF sm (n+l.length) m
 |n,[],m=>by simp[jrF]
 |n,b::l,m=>by
  have:=zf (n+1) l m
  simp only[List.cons_append,jrF,this,cP,cZ,show n+1+l.length=n+(l.length+1) by omega]
theorem Z25:∀(n:Nat) (l:List (List UInt8)) (k:Nat),Q9z sm n l k<=l.length
 |_,[],_=>aO _
 |n,b::l,k=>by
  unfold Q9z
  split
  ·exact Nat.succ_le_succ (Z25 _ _ _)
  ·exact aT _
theorem Z4r:∀(n:Nat) (l:List (List UInt8)) (k j:Nat),j<l.length->((jrF sm n (l.take (j+1))).length<=k↔j<Q9z sm n l k)
 |_,[],_,_,h=>absurd h (dZ _)
 |n,b::l,k,j,h=>by
  unfold Q9z
  rw[eA]
  simp only[jrF,lA]
  split
  ·rename_i hk
   cases j with
   |zero=>simp[jrF];exact hk
   |succ j=>
    have:=Z4r (n+1) l (k-(recJ sm n b).length) j (by simpa using h)
    omega
  ·rename_i hk
   exact⟨λq=>by omega,λq=>absurd q (dZ _)⟩
theorem yA{n:Nat}{b:List UInt8}{l:List (List UInt8)}{k:Nat}(h:(recJ sm n b).length<=k):Q9z sm n (b::l) k=Q9z sm (n+1) l (k-(recJ sm n b).length)+1:=if_pos h
theorem vA{n:Nat}{b:List UInt8}{l:List (List UInt8)}{k:Nat}(h:¬(recJ sm n b).length<=k):Q9z sm n (b::l) k=0:=if_neg h
theorem yf:∀(n:Nat) (l:List (List UInt8)) (k:Nat),∃t,(jrF sm n l).take k=jrF sm n (l.take (Q9z sm n l k))++t/\(t=[]\/∃b m,b∈l/\m<(recJ sm (n+Q9z sm n l k) b).length/\t=(recJ sm (n+Q9z sm n l k) b).take m)
 |n,[],k=>⟨[],by simp[jrF],.inl rfl⟩
 |n,b::l,k=>by
  by_cases hk:(recJ sm n b).length<=k
  ·obtain⟨t,h1,h2⟩:=yf (n+1) l (k-(recJ sm n b).length)
   rw[yA sm hk,show n+(Q9z sm (n+1) l (k-(recJ sm n b).length)+1)=n+1+Q9z sm (n+1) l (k-(recJ sm n b).length) by omega]
   refine⟨t,?_,h2.imp id fun⟨b,m,x,y⟩=>⟨b,m,eB _ x,y⟩⟩
   rw[eA]
   simp only[jrF]
   rw[eC,dW hk,h1,cP]
  ·rw[vA sm hk]
   refine⟨(recJ sm n b).take k,?_,.inr ⟨b,k,eD,by simpa using hk,rfl⟩⟩
   simp only[jrF,List.take_zero,eE]
   rw[eF (by omega)]
end
abbrev recE:=recJ Q0g
abbrev Q56:=sealJ Q0g
theorem Z2d(n:Nat)(hn:n<1000000)(b:List UInt8)(hb:b.length<=100000):(Qh9 n b).length<=b.length+20:=by
 have:=Qel (x:=(n:Int)) (by omega)
 have:=Qel (x:=(b.length:Int)) (by omega)
 unfold Qh9;rw[lA,lA];omega
theorem Za4(n:Nat)(hn:n<1000000)(b:List UInt8)(hb:b.length<=100000):(Q56 n b).length=(Qh9 n b).length+8:=by
 have:=Z2d n hn b hb
 show(Qh9 n b++Q0g (Qh9 n b)).length=_
 rw[lA,Z7n (by omega)]
theorem v7{n:Nat}(hn:n<1000000){b:List UInt8}(hb:b.length<=100000):(Q58 n b).w (λr=>r=Q56 n b):=by
 have h1:=Qel (x:=(n:Int)) (by omega)
 have h2:=Qel (x:=(b.length:Int)) (by omega)
 have hm:1000000<=maxLen:=by decide
 have e:wrap .u64 (b.length:Int)=(b.length:Int):=wu (by omega) (by omega)
 unfold Q58
 refine Q0i (Z60 (by omega) (by omega)) λx hx=>?_
 refine Q0i (Z60 (x:=wrap .u64 (b.length:Int)) (by rw[e];omega) (by rw[e];omega)) λy hy=>?_
 rw[e]at hy
 subst hx;subst hy
 have l1:((uvB n++uvB b.length)++b).length<=200000:=by rw[lA,lA];omega
 refine w_cn (dY (by omega)) (w_cn (dY (by rw[lA];omega)) ?_)
 refine w_an (Tree.pp (sum_w (s:=(uvB n++uvB b.length)++b) (by omega))).1 (w_lv λz hz=>?_)
 have l2:z.length=8:=by rw[hz];exact Z7n (by omega)
 refine w_cn (dY (by omega)) (w_lf ?_)
 rw[hz]
 show _=Qh9 n b++Q0g (Qh9 n b)
 unfold Qh9
 rw[cP (uvB n)]
theorem qJ{x:Int}(h0:0<=x)(h1:x<18446744073709551616)(t:List UInt8):(Q21 ⟨uvB x++t,false⟩).w λr=>r=(x,⟨t,false⟩):=by
 unfold Q21
 refine Q0i (xf h0 h1 t) λy hy=>?_
 subst hy
 refine w_br (λh=>(eG h).elim) λ_=>w_br (λh=>(eG h).elim) λ_=>w_cn (dY ?_) (w_lf ?_)
 ·show(0:Int)<=((uvB x).length:Int)/\((uvB x).length:Int)<=((uvB x++t).length:Int)/\((uvB x++t).length:Int)<=((uvB x++t).length:Int)
  rw[lA];omega
 ·show((x,(⟨dU (dM ((uvB x++t).length:Int)-dM ((uvB x).length:Int)) (dV (dM ((uvB x).length:Int)) (uvB x++t)),false⟩:Q0h)):Int×Q0h)=_
  rw[takeA,eH]
theorem xR{b t:List UInt8}(hb:(b++t).length<=1000000):(Q2x ⟨uvB b.length++(b++t),false⟩).w λr=>r=(b,⟨t,false⟩):=by
 have hb':=hb
 rw[lA]at hb'
 have e:wrap .u64 ((b++t).length:Int)=((b++t).length:Int):=wu (by omega) (by omega)
 unfold Q2x
 refine Q0i (qJ (by omega) (by omega) (b++t)) λy hy=>?_
 subst hy
 refine w_br (λh=>(eG h).elim) λ_=>w_br (λh=>absurd (oY h) ?_) λ_=>w_cn (dY ?_) (w_cn (dY ?_) (w_lf ?_))
 ·show¬((b.length:Int)>wrap .u64 ((b++t).length:Int))
  rw[e,lA];omega
 ·show(0:Int)<=0/\(0:Int)<=(b.length:Int)/\(b.length:Int)<=((b++t).length:Int)
  rw[lA];omega
 ·show(0:Int)<=(b.length:Int)/\(b.length:Int)<=((b++t).length:Int)/\((b++t).length:Int)<=((b++t).length:Int)
  rw[lA];omega
 ·show(dU (dM (b.length:Int)-dM 0) (dV (dM 0) (b++t)),(⟨dU (dM ((b++t).length:Int)-dM (b.length:Int)) (dV (dM (b.length:Int)) (b++t)),false⟩:Q0h))=_
  rw[takeA,Zb2,eH,eI]
theorem v8{n:Nat}(hn:n<1000000){b:List UInt8}(hb:b.length<=100000):(Q7a (Q56 n b)).w λr=>r=((n:Int),b,0):=by
 have hB:=Z2d n hn b hb
 have hS:=Za4 n hn b hb
 have h8:(Q0g (Qh9 n b)).length=8:=Z7n (by omega)
 have e:Q56 n b=uvB n++(uvB b.length++(b++Q0g (Qh9 n b))):=by
  show Qh9 n b++_=_
  conv=>lhs;arg 1;unfold Qh9
  simp only[cP]
 have n1:(Q21 ⟨Q56 n b,false⟩).w λr=>r=((n:Int),(⟨uvB b.length++(b++Q0g (Qh9 n b)),false⟩:Q0h)):=by
  rw[e];exact qJ (by omega) (by omega) _
 unfold Q7a
 refine Q0i n1 λx hx=>?_
 subst hx
 refine Q0i (xR (by rw[lA];omega)) λy hy=>?_
 subst hy
 have e8:wrap .i64 (((Q56 n b).length:Int)-8)=((Qh9 n b).length:Int):=by rw[wi (by omega) (by omega)];omega
 have et:dU (dM (wrap .i64 (((Q56 n b).length:Int)-8))-dM 0) (dV (dM 0) (Q56 n b))=Qh9 n b:=by
  rw[e8,Zb2];exact eI
 refine w_br (λh=>(eG h).elim) λ_=>w_br (λh=>absurd (nt h) ?_) λ_=>w_cn (dY ?_) ?_
 ·show¬(((Q0g (Qh9 n b)).length:Int)≠8)
  rw[h8];decide
 ·rw[e8];omega
 ·refine w_an ?_ (w_lv λz hz=>w_br (λh=>?_) λ_=>w_lf rfl)
  ·show Q9d (dU (dM (wrap .i64 (((Q56 n b).length:Int)-8))-dM 0) (dV (dM 0) (Q56 n b)))
   rw[et];exact(Tree.pp (sum_w (by omega))).1
  ·have hz:z=Q0g (dU (dM (wrap .i64 (((Q56 n b).length:Int)-8))-dM 0) (dV (dM 0) (Q56 n b))):=hz
   rw[et]at hz
   have h:(!decide (z=Q0g (Qh9 n b)))=true:=h
   rw[hz,dY rfl]at h
   exact(eG h).elim
theorem vf{x:Int}(h0:0<=x)(h1:x<18446744073709551616)(t:List UInt8):(Q1l ⟨uvB x++t,false⟩).w λr=>r=(x,⟨t,false⟩):=by
 unfold Q1l
 refine w_br (λh=>(eG h).elim) λ_=>Q0i (xf h0 h1 t) λy hy=>?_
 subst hy
 refine w_br (λh=>(eG h).elim) λ_=>w_cn (dY ?_) (w_lf ?_)
 ·show(0:Int)<=((uvB x).length:Int)/\((uvB x).length:Int)<=((uvB x++t).length:Int)/\((uvB x++t).length:Int)<=((uvB x++t).length:Int)
  rw[lA];omega
 ·show((x,(⟨dU (dM ((uvB x++t).length:Int)-dM ((uvB x).length:Int)) (dV (dM ((uvB x).length:Int)) (uvB x++t)),false⟩:Q07)):Int×Q07)=_
  rw[takeA,eH]
theorem zR{x:Int}(h1:x<18446744073709551616){k:Nat}(hk:k<(uvB x).length):(Q1l ⟨(uvB x).take k,false⟩).w λr=>r.2.bad=true/\r.2.rest=(uvB x).take k:=by
 unfold Q1l
 refine w_br (λh=>(eG h).elim) λ_=>Q0i (qR h1 hk) λy hy=>?_
 refine w_br (λ_=>w_lf ⟨rfl,rfl⟩) λh=>?_
 rw[hy]at h;cases h
theorem Z9j{b t:List UInt8}(hb:(b++t).length<=1000000):(Q1r ⟨b++t,false⟩ b.length).w λr=>r=(b,⟨t,false⟩):=by
 have hb':=hb
 rw[lA]at hb'
 have e:wrap .u64 ((b++t).length:Int)=((b++t).length:Int):=wu (by omega) (by omega)
 unfold Q1r
 refine w_br (λh=>(eG h).elim) λ_=>w_br (λh=>absurd (oY h) ?_) λ_=>w_cn (dY ?_) (w_cn (dY ?_) (w_lf ?_))
 ·show¬((b.length:Int)>wrap .u64 ((b++t).length:Int))
  rw[e,lA];omega
 ·show(0:Int)<=0/\(0:Int)<=(b.length:Int)/\(b.length:Int)<=((b++t).length:Int)
  rw[lA];omega
 ·show(0:Int)<=(b.length:Int)/\(b.length:Int)<=((b++t).length:Int)/\((b++t).length:Int)<=((b++t).length:Int)
  rw[lA];omega
 ·show(dU (dM (b.length:Int)-dM 0) (dV (dM 0) (b++t)),(⟨dU (dM ((b++t).length:Int)-dM (b.length:Int)) (dV (dM (b.length:Int)) (b++t)),false⟩:Q07))=_
  rw[takeA,Zb2,eH,eI]
theorem Z3m{r:Q07}{n:Int}(h:r.bad=true\/(r.rest.length:Int)<n)(hl:r.rest.length<=1000000):(Q1r r n).w λq=>q.2.bad=true:=by
 unfold Q1r
 refine w_br (λ_=>w_lf rfl) λhf=>w_br (λ_=>w_lf rfl) λhg=>?_
 rcases h with h|h
 ·rw[h]at hf;cases hf
 ·have:=oN hg
  rw[wu (by omega) (by omega)]at this
  omega
structure fitO(o:Q03):Prop where
 k: -9223372036854775808<=o.C5/\o.C5<=9223372036854775807
 n:o.B8.length<=20
 a: -9223372036854775808<=o.A/\o.A<=9223372036854775807
 b: -9223372036854775808<=o.B/\o.B<=9223372036854775807
 d1: -9223372036854775808<=o.A3.B9/\o.A3.B9<=9223372036854775807
 d2: -9223372036854775808<=o.A3.D3/\o.A3.D3<=9223372036854775807
 d3: -9223372036854775808<=o.A3.A7/\o.A3.A7<=9223372036854775807
 d4: -9223372036854775808<=o.A3.C7/\o.A3.C7<=9223372036854775807
 c1: -9223372036854775808<=o.B1.C0/\o.B1.C0<=9223372036854775807
 c2: -9223372036854775808<=o.B1.A7/\o.B1.A7<=9223372036854775807
def u64(x:Int):Int:=wrap .u64 x
theorem Za(x:Int):0<=u64 x/\u64 x<18446744073709551616:=by unfold u64;rw[wrap_u64];omega
theorem yR(n:Nat)(h:n<=1000000):u64 (n:Int)=n:=wu (by omega) (by omega)
theorem Qda{x:Int}(h: -9223372036854775808<=x/\x<=9223372036854775807):wrap .i64 (u64 x)=x:=by
 unfold u64;rw[wrap_u64,wrap_i64];omega
def encF(o:Q03):List UInt8:=
 uvB (u64 o.C5)++uvB (u64 o.B8.length)++o.B8++uvB (u64 o.A)++uvB (u64 o.B)++uvB (u64 o.A3.B9)++uvB (u64 o.A3.D3)++uvB (u64 o.A3.A7)++uvB (u64 o.A3.C7)++uvB (u64 o.B1.C0)++uvB (u64 o.B1.A7)++uvB (u64 (bif o.B1.Up then 1 else 0))
def IsB(k:Nat)(s:List UInt8)(c:List Int):Prop:=bytesOf c=s/\s.length<=k
theorem IsB.len{k:Nat}{s:List UInt8}{c:List Int}(h:IsB k s c):c.length<=k:=by
 have:=congrArg dR h.1
 unfold bytesOf at this
 rw[dO]at this
 have:=h.2;omega
theorem lenI(s:List UInt8):(Q6z s).length=s.length:=by
 have:=congrArg dR (Qgz s)
 unfold bytesOf at this
 rwa [dO]at this
theorem Qlc{k:Nat}{s:List UInt8}{b:List Int}(h:IsB k s b)(hk:k<=1000000)(x:Int):(Q4m b x).w (IsB (k+10) (s++uvB (u64 x))):=by
 obtain⟨x0,x1⟩:=Za x
 have hl:=Qel x1
 have hb:=h.len
 unfold Q4m
 refine Q0i (Z60 (x:=wrap .u64 x) x0 x1) λy hy=>?_
 have hy:y=uvB (u64 x):=hy
 subst hy
 refine w_cn (dY (by rw[lenI];omega)) (w_lf ⟨?_,?_⟩)
 ·rw[Quk,Qgz,h.1]
 ·rw[lA];have:=h.2;omega
theorem qaa(x:Int):(Q4o [] x).w (IsB 10 (uvB (u64 x))):=by
 obtain⟨x0,x1⟩:=Za x
 have hl:=Qel x1
 unfold Q4o
 refine Q0i (Z60 (x:=wrap .u64 x) x0 x1) λy hy=>?_
 have hy:y=uvB (u64 x):=hy
 subst hy
 exact w_cn (dY (by rw[lenI];omega)) (w_lf ⟨Qgz _,hl⟩)
theorem xJ{o:Q03}(hn:o.B8.length<=20):(Q6l o).w λs=>s=encF o/\s.length<=130:=by
 unfold Q6l
 refine Q0i (qaa o.C5) λy0 h0=>Q0i (Qlc h0 (by decide) _) λy1 h1=>?_
 have hN:IsB 40 (uvB (u64 o.C5)++uvB (u64 o.B8.length)++o.B8) (y1++Q6z o.B8):=by
  refine⟨by rw[Quk,Qgz,h1.1],?_⟩
  rw[lA];have:=h1.2;omega
 refine w_cn (dY (by have:=h1.len;rw[lenI];omega)) ?_
 refine w_br (λhu=>?_) (λhu=>?_)
 all_goals
  refine Q0i (Qlc hN (by decide) _) λz1 g1=>Q0i (Qlc g1 (by decide) _) λz2 g2=>Q0i (Qlc g2 (by decide) _) λz3 g3=>Q0i (Qlc g3 (by decide) _) λz4 g4=>Q0i (Qlc g4 (by decide) _) λz5 g5=>Q0i (Qlc g5 (by decide) _) λz6 g6=>Q0i (Qlc g6 (by decide) _) λz7 g7=>Q0i (Qlc g7 (by decide) _) λz8 g8=>Q0i (Qlc g8 (by decide) _) λz9 g9=>w_lf ⟨?_,?_⟩
  ·rw[g9.1];unfold encF;rw[hu];rfl
  ·rw[g9.1];exact g9.2
theorem Qmf{o:Q03}(hn:o.B8.length<=20):(encF o).length<=130:=by
 obtain⟨a,b⟩:=(Tree.pp (xJ hn)).2
 rw[<-a];exact b
theorem zaa{o:Q03}(h:fitO o):(Q69 (encF o)).w λr=>r=(o,true):=by
 have hl:=Qmf h.n
 have e:encF o=uvB (u64 o.C5)++(uvB (u64 o.B8.length)++(o.B8++(uvB (u64 o.A)++(uvB (u64 o.B)++(uvB (u64 o.A3.B9)++(uvB (u64 o.A3.D3)++(uvB (u64 o.A3.A7)++(uvB (u64 o.A3.C7)++(uvB (u64 o.B1.C0)++(uvB (u64 o.B1.A7)++(uvB (u64 (bif o.B1.Up then 1 else 0))++[]))))))))))):=by
  unfold encF;simp only[cP,cL]
 have hr:(o.B8++(uvB (u64 o.A)++(uvB (u64 o.B)++(uvB (u64 o.A3.B9)++(uvB (u64 o.A3.D3)++(uvB (u64 o.A3.A7)++(uvB (u64 o.A3.C7)++(uvB (u64 o.B1.C0)++(uvB (u64 o.B1.A7)++(uvB (u64 (bif o.B1.Up then 1 else 0))++[])))))))))).length<=1000000:=by
  have:=congrArg dR e
  rw[lA,lA]at this
  omega
 have nn:u64 (o.B8.length:Int)=(o.B8.length:Int):=yR _ (by have:=h.n;omega)
 have nb:∀t:List UInt8,(o.B8++t).length<=1000000->(Q1r ⟨o.B8++t,false⟩ (u64 (o.B8.length:Int))).w λr=>r=(o.B8,⟨t,false⟩):=λt ht=>by rw[nn];exact Z9j ht
 have nu:∀(x:Int) (t:List UInt8),(Q1l ⟨uvB (u64 x)++t,false⟩).w λr=>r=(u64 x,⟨t,false⟩):=λx t=>vf (Za x).1 (Za x).2 t
 rw[e]
 unfold Q69
 refine Q0i (nu _ _) λy0 q0=>?_
 subst q0
 refine Q0i (nu _ _) λy1 q1=>?_
 subst q1
 refine Q0i (nb _ hr) λy2 q2=>?_
 subst q2
 refine Q0i (nu _ _) λy3 q3=>?_
 subst q3
 refine Q0i (nu _ _) λy4 q4=>?_
 subst q4
 refine Q0i (nu _ _) λy5 q5=>?_
 subst q5
 refine Q0i (nu _ _) λy6 q6=>?_
 subst q6
 refine Q0i (nu _ _) λy7 q7=>?_
 subst q7
 refine Q0i (nu _ _) λy8 q8=>?_
 subst q8
 refine Q0i (nu _ _) λy9 q9=>?_
 subst q9
 refine Q0i (nu _ _) λy10 q10=>?_
 subst q10
 refine Q0i (nu _ _) λy11 q11=>?_
 subst q11
 have hu:u64 (bif o.B1.Up then 1 else 0)=bif o.B1.Up then 1 else 0:=by cases o.B1.Up<;>rfl
 refine w_br (λh=>(eG h).elim) λ_=>w_br (λh=>absurd (oY h) ?_) λ_=>w_br (λh=>(eG h).elim) λ_=>w_lf ?_
 ·show¬(u64 (bif o.B1.Up then 1 else 0)>1)
  rw[hu];cases o.B1.Up<;>decide
 ·show((⟨wrap .i64 (u64 o.C5),o.B8,wrap .i64 (u64 o.A),wrap .i64 (u64 o.B),⟨wrap .i64 (u64 o.A3.B9),wrap .i64 (u64 o.A3.D3),wrap .i64 (u64 o.A3.A7),wrap .i64 (u64 o.A3.C7)⟩,⟨wrap .i64 (u64 o.B1.C0),wrap .i64 (u64 o.B1.A7),u64 (bif o.B1.Up then 1 else 0)==1⟩⟩:Q03),true)=(o,true)
  rw[Qda h.k,Qda h.a,Qda h.b,Qda h.d1,Qda h.d2,Qda h.d3,Qda h.d4,Qda h.c1,Qda h.c2,hu]
  obtain⟨k,n,a,b,d,⟨c1,c2,c3⟩⟩:=o
  cases c3<;>rfl
theorem Qfl{n:Nat}(hn:n<1000000){b:List UInt8}(hb:b.length<=1000):0<(recE n b).length/\(recE n b).length<=b.length+50/\(Q56 n b).length<=b.length+28:=by
 have h1:=Z2d n hn b (by omega)
 have h2:=Za4 n hn b (by omega)
 have h3:=Qel (x:=((Q56 n b).length:Int)) (by omega)
 have h4:=qf ((Q56 n b).length:Int)
 show 0<(uvB (Q56 n b).length++Q56 n b).length/\(uvB (Q56 n b).length++Q56 n b).length<=_/\_
 rw[lA];omega
theorem xaa{n:Nat}(hn:n<1000000){o:Q03}(h:fitO o){t:List UInt8}(ht:t.length<=400000):(Q2j ⟨recE n (encF o)++t,false⟩ n).w λr=>r=(o,true,⟨t,false⟩):=by
 have hb:=Qmf h.n
 have hs:=(Qfl hn (b:=encF o) (by omega)).2.2
 have e:recE n (encF o)++t=uvB (Q56 n (encF o)).length++(Q56 n (encF o)++t):=cP _ _ _
 rw[e]
 unfold Q2j
 refine Q0i (vf (by omega) (by omega) _) λx hx=>?_
 subst hx
 refine Q0i (Z9j (by rw[lA];omega)) λy hy=>?_
 subst hy
 refine w_br (λh=>(eG h).elim) λ_=>Q0i (v8 hn (by omega)) λz hz=>?_
 subst hz
 refine w_br (λh=>(eG h).elim) λ_=>w_br (λh=>absurd (nt h) ?_) λ_=>Q0i (zaa h) λu hu=>?_
 ·show¬((n:Int)≠wrap .u64 (n:Int))
  rw[wu (by omega) (by omega)];exactλk=>k rfl
 ·subst hu
  exact w_lf rfl
theorem qg{n:Nat}(hn:n<1000000){b:List UInt8}(hb:b.length<=1000){k:Nat}(hk:k<(recE n b).length){m:Int}:(Q2j ⟨(recE n b).take k,false⟩ m).w λr=>r.2.1=false:=by
 have hs:=(Qfl hn (b:=b) (by omega)).2.2
 have hl:(recE n b).length=(uvB (Q56 n b).length).length+(Q56 n b).length:=lA
 have e:recE n b=uvB (Q56 n b).length++Q56 n b:=rfl
 unfold Q2j
 by_cases g:k<(uvB (Q56 n b).length).length
 ·rw[e,eF (by omega)]
  have h10:=Qel (x:=((Q56 n b).length:Int)) (by omega)
  refine Q0i (zR (by omega) g) λx hx=>?_
  refine Q0i (Z3m (r:=x.2) (n:=x.1) (.inl hx.1) (by rw[hx.2,bD];omega)) λy hy=>?_
  exact w_br (λ_=>w_lf rfl) λh=>by rw[hy]at h;cases h
 ·have e2:(recE n b).take k=uvB (Q56 n b).length++(Q56 n b).take (k-(uvB (Q56 n b).length).length):=by
   rw[e,eC,dW (by omega)]
  rw[e2]
  refine Q0i (vf (by omega) (by omega) _) λx hx=>?_
  subst hx
  refine Q0i (Z3m (r:=⟨(Q56 n b).take (k-(uvB (Q56 n b).length).length),false⟩) (.inr ?_) ?_) λy hy=>?_
  ·show(((Q56 n b).take (k-(uvB (Q56 n b).length).length)).length:Int)<((Q56 n b).length:Int)
   rw[bD];omega
  ·show((Q56 n b).take _).length<=_
   rw[bD];omega
  ·exact w_br (λ_=>w_lf rfl) λh=>by rw[hy]at h;cases h
def jrE(l:List Q03):List UInt8:=jrF Q0g 0 (l.map encF)
def fitL(l:List Q03):Prop:=l.length<=1000/\∀o∈l,fitO o
theorem Qzl:∀(n:Nat) (l:List Q03),n+l.length<=100000->(∀o∈l,fitO o)->(jrF Q0g n (l.map encF)).length<=180*l.length
 |_,[],_,_=>aO _
 |n,o::l,h,g=>by
  rw[cZ]at h
  have a:=Qzl (n+1) l (by omega) λx hx=>g x (eB _ hx)
  have b:=Qmf (g o eD).n
  have c:=(Qfl (n:=n) (by omega) (b:=encF o) (by omega)).2.1
  simp only[eJ,jrF,lA,cZ]
  show(recE n (encF o)).length+_<=_
  omega
def Part(n:Nat)(t:List UInt8):Prop:=t=[]\/∃b m,b.length<=1000/\m<(recE n b).length/\t=(recE n b).take m
theorem vR{n:Nat}(hn:n<1000000){t:List UInt8}(h:Part n t)(m:Int):(Q2j ⟨t,false⟩ m).w λr=>r.2.1=false:=by
 rcases h with rfl|⟨b,k,hb,hk,rfl⟩
 ·exact qg hn (b:=[]) (by decide) (k:=0) (Qfl hn (b:=[]) (by decide)).1
 ·exact qg hn hb hk
theorem xg{l:List Q03}(hl:fitL l){t:List UInt8}(ht:Part l.length t)(htl:t.length<=100000){s:List UInt8}(hs:s=jrE l++t):(Q7e s).w λr=>r=(l,((jrE l).length:Int)):=by
 obtain⟨h1,h2⟩:=hl
 have hle:=Qzl 0 l (by omega) h2
 have hsl:s.length=(jrE l).length+t.length:=by rw[hs,lA]
 have hle:(jrE l).length<=180*l.length:=hle
 unfold Q7e
 refine w_lp (inv:=λv:Int×Q07×List Q03=>∃j:Nat,j<=l.length/\v.2.2=l.take j/\v.2.1=⟨jrF Q0g j ((l.drop j).map encF)++t,false⟩/\v.1=((jrE l).length:Int)-((jrF Q0g j ((l.drop j).map encF)).length:Int)) (μ:=Qex s)
  ⟨0,aT _,rfl,by rw[hs];rfl,by show(0:Int)=((jrE l).length:Int)-((jrE l).length:Int);omega⟩ (dQ _) ?_
 rintro⟨_,_,_⟩ ⟨j,hj,rfl,rfl,rfl⟩
 have etl:(l.take j).length=j:=by rw[bD];omega
 by_cases g:j<l.length
 ·have ed:l.drop j=l[j]::l.drop (j+1):=List.drop_eq_getElem_cons g
  have er:jrF Q0g j ((l.drop j).map encF)=recE j (encF l[j])++jrF Q0g (j+1) ((l.drop (j+1)).map encF):=by rw[ed];rfl
  have hf:=h2 l[j] (eK g)
  have hlen:=Qzl (j+1) (l.drop (j+1)) (by rw[bG];omega) λx hx=>h2 x (cS hx)
  rw[bG]at hlen
  have nx:(Q2j ⟨jrF Q0g j ((l.drop j).map encF)++t,false⟩ (((l.take j).length:Nat):Int)).w λr=>r=(l[j],true,(⟨jrF Q0g (j+1) ((l.drop (j+1)).map encF)++t,false⟩:Q07)):=by
   rw[er,cP,etl]
   exact xaa (by omega) hf (by rw[lA];omega)
  refine Q0i nx λx hx=>?_
  refine w_br (λh=>by rw[hx]at h;cases h) λ_=>w_cn (dY ?_) (w_nx ?_)
  ·show 96*((l.take j).length+1)<=_
   rw[etl];omega
  ·subst hx
   have hrl:=(Qfl (n:=j) (by omega) (b:=encF l[j]) (by have:=Qmf hf.n;omega)).1
   have hjl:(jrF Q0g j ((l.drop j).map encF)).length=(recE j (encF l[j])).length+(jrF Q0g (j+1) ((l.drop (j+1)).map encF)).length:=by rw[er,lA]
   have hmax:=Qzl j (l.drop j) (by rw[bG];omega) λx hx=>h2 x (cS hx)
   rw[bG]at hmax
   refine⟨⟨j+1,g,?_,rfl,?_⟩,?_⟩
   ·show l.take j++[l[j]]=_
    rw[eL g]
   ·show wrap .i64 ((s.length:Int)-((jrF Q0g (j+1) ((l.drop (j+1)).map encF)++t).length:Int))=_
    rw[lA,wi (by omega) (by omega)];omega
   ·show(jrF Q0g (j+1) ((l.drop (j+1)).map encF)++t).length<(jrF Q0g j ((l.drop j).map encF)++t).length
    rw[lA,lA];omega
 ·have ej:j=l.length:=by omega
  subst ej
  have nx:(Q2j ⟨jrF Q0g l.length ((l.drop l.length).map encF)++t,false⟩ (((l.take l.length).length:Nat):Int)).w λr=>r.2.1=false:=by
   rw[eM]
   exact vR (by omega) ht _
  refine Q0i nx λx hx=>?_
  refine w_br (λ_=>w_lf ?_) λh=>by rw[hx]at h;cases h
  show(l.take l.length,((jrE l).length:Int)-((jrF Q0g l.length ((l.drop l.length).map encF)).length:Int))=_
  rw[eN,eM]
  show(l,((jrE l).length:Int)-0)=_
  rw[eO]
theorem qB{n:Nat}(hn:n<1000000){o:Q03}(h:fitO o):(Q6f n o).w λr=>r=recE n (encF o):=by
 have hb:=Qmf h.n
 have hs:=(Qfl hn (b:=encF o) (by omega)).2.2
 have hm:1000000<=maxLen:=by decide
 have e:wrap .u64 (n:Int)=n:=wu (by omega) (by omega)
 have sw:(Q58 (wrap .u64 (n:Int)) (encF o)).w λr=>r=Q56 n (encF o):=by rw[e];exact v7 hn (by omega)
 have e2:wrap .u64 ((Q56 n (encF o)).length:Int)=((Q56 n (encF o)).length:Int):=wu (by omega) (by omega)
 unfold Q6f
 refine Q0i (xJ h.n) λx hx=>?_
 obtain⟨rfl,_⟩:=hx
 refine Q0i sw λy hy=>?_
 subst hy
 have pw:(Q3z (wrap .u64 ((Q56 n (encF o)).length:Int))).w λr=>r=uvB ((Q56 n (encF o)).length:Int):=by rw[e2];exact Z60 (by omega) (by omega)
 refine Q0i pw λz hz=>?_
 subst hz
 have:=Qel (x:=((Q56 n (encF o)).length:Int)) (by omega)
 exact w_cn (dY (by omega)) (w_lf rfl)
theorem qS(l:List Q03)(o:Q03):jrE (l++[o])=jrE l++recE l.length (encF o):=by
 unfold jrE
 rw[bM,zf,dO,aX]
 show _++(recE l.length (encF o)++[])=_
 rw[cL]
theorem Z9t{l:List Q03}(hl:fitL l){o:Q03}(h:fitO o):(Q6a (jrE l) o).w λr=>r=(jrE l,false)\/r=(jrE (l++[o]),true):=by
 obtain⟨h1,h2⟩:=hl
 have hle:(jrE l).length<=180*l.length:=Qzl 0 l (by omega) h2
 have hb:=Qmf h.n
 have hr:=(Qfl (n:=l.length) (by omega) (b:=encF o) (by omega)).2.1
 have hm:1000000<=maxLen:=by decide
 unfold Q6a
 refine w_br (λ_=>w_lf (.inl rfl)) λ_=>w_br (λ_=>w_lf (.inl rfl)) λ_=>?_
 refine Q0i (xg ⟨h1,h2⟩ (t:=[]) (.inl rfl) (aT _) (cL _).symm) λx hx=>?_
 subst hx
 refine Q0i (qB (n:=l.length) (by omega) h) λy hy=>?_
 subst hy
 refine w_cn (dY (by omega)) (w_br (λ_=>w_lf (.inl rfl)) λ_=>w_lf (.inr ?_))
 rw[qS]
open Go.Op (bytesLess)
theorem zg:∀x:List UInt8,bytesLess x x=false
 |[]=>rfl
 |a::x=>by simp[bytesLess,zg x]
theorem Qoc:∀{x y z:List UInt8},bytesLess x y=true->bytesLess y z=true->bytesLess x z=true
 |_,[],_,h,_=>by simp[bytesLess]at h
 |_,_::_,[],_,h=>by simp[bytesLess]at h
 |[],_::_,_::_,_,_=>rfl
 |a ::x,b::y,c::z,h,g=>by
  simp only[bytesLess,aI,aE,decide_eq_true_eq,beq_iff_eq]at h g⊢
  rcases h with h|⟨rfl,h⟩
  ·rcases g with g|⟨rfl,g⟩
   ·exact .inl (UInt8.lt_trans h g)
   ·exact .inl h
  ·rcases g with g|⟨rfl,g⟩
   ·exact .inl g
   ·exact .inr ⟨rfl,Qoc h g⟩
theorem yg:∀{x y:List UInt8},bytesLess x y=false->x≠y->bytesLess y x=true
 |[],[],_,h=>absurd rfl h
 |[],_::_,h,_=>by simp[bytesLess]at h
 |_::_,[],_,_=>rfl
 |a ::x,b::y,h,g=>by
  simp only[bytesLess,Bool.or_eq_false_iff,decide_eq_false_iff_not,Bool.and_eq_false_iff,aI,aE,decide_eq_true_eq,beq_iff_eq,beq_eq_false_iff_ne]at h⊢
  obtain⟨h1,h2⟩:=h
  by_cases e:a=b
  ·subst e
   refine .inr ⟨rfl,yg (h2.resolve_left λk=>k rfl) λe=>g (by rw[e])⟩
  ·refine .inl ?_
   rcases UInt8.lt_or_lt_of_ne e with q|q
   ·exact absurd q h1
   ·exact q
def vD(d:Q0a):Prop:=0<=d.B9/\d.B9<=d.D3/\d.D3<=1000000/\0<=d.A7/\d.A7<=1000000/\0<=d.C7
def vC(c:Q04):Prop:=0<=c.C0/\c.C0<=1000000/\0<=c.A7/\c.A7<=1000000
def vL(c:Q04)(l:List Q0a):Prop:=vC c/\l.length<=16/\∀d∈l,vD d
def sumR(l:List Q0a):Int:=(l.map (·.B9)).sum
def sumC(l:List Q0a):Int:=(l.map (·.A7)).sum
def Qrr(c:Q04)(l:List Q0a)(d:Q0a):Prop:=
 vL c l/\vD d/\c.Up=true/\sumR l+d.B9<=c.C0/\sumC l+d.A7<=c.A7/\(d.C7≠0->∀x∈l,x.C7≠d.C7)
def Qlp(c:Q04)(l:List Q0a):Prop:=∀i (h:i<l.length),Qrr c (l.take i) l[i]
def Zc5(a b:Q0a):Prop:=a.C7=b.C7->a.C7=0
theorem Zc5.symm{a b:Q0a}(h:Zc5 a b):Zc5 b a:=λe=>e.trans (h e.symm)
structure FitP(c:Q04)(l:List Q0a):Prop where
 v:vC c
 up:c.Up=true
 d:∀d∈l,vD d
 r:sumR l<=c.C0
 u:sumC l<=c.A7
 g:l.Pairwise Zc5
theorem zJ:∀{l:List Q0a},(∀d∈l,vD d)->0<=sumR l/\0<=sumC l
 |[],_=>⟨dX 0,dX 0⟩
 |d::l,h=>by
  obtain⟨a,b⟩:=zJ (l:=l) λx hx=>h x (eB _ hx)
  have:=h d eD
  simp only[sumR,sumC,eJ,eP,vD]at a b this⊢
  omega
theorem Z7p(l m:List Q0a):sumR (l++m)=sumR l+sumR m/\sumC (l++m)=sumC l+sumC m:=by
 simp[sumR,sumC]
theorem Z77{l m:List Q0a}(h:l.Sublist m)(hv:∀d∈m,vD d):sumR l<=sumR m/\sumC l<=sumC m:=by
 induction h with
 |slnil=>exact⟨dX _,dX _⟩
 |cons a _ ih=>
  have:=ih λd hd=>hv d (eB _ hd)
  have v:=hv a eD
  simp only[sumR,sumC,eJ,eP,vD]at this v⊢
  omega
 |cons_cons a _ ih=>
  have:=ih λd hd=>hv d (eB _ hd)
  simp only[sumR,sumC,eJ,eP]at this⊢
  omega
theorem Za8{l m:List Q0a}(h:l.Perm m):sumR l=sumR m/\sumC l=sumC m:=by
 induction h with
 |nil=>exact⟨rfl,rfl⟩
 |cons a _ ih=>simp only[sumR,sumC,eJ,eP]at ih⊢;omega
 |swap a b l=>simp only[sumR,sumC,eJ,eP];omega
 |trans _ _ h g=>exact⟨h.1.trans g.1,h.2.trans g.2⟩
theorem vg{c:Q04}{l:List Q0a}(hl:l.length<=17)(h:FitP c l):Qlp c l:=by
 intro i hi
 have hs:(l.take i++[l[i]]).Sublist l:=by
  rw[<-eL hi];exact eQ _ _
 obtain⟨a,b⟩:=Z77 hs h.d
 obtain⟨a1,b1⟩:=Z7p (l.take i) [l[i]]
 have p:=h.g.sublist hs
 rw[eR]at p
 refine⟨⟨h.v,by rw[bD];omega,λd hd=>h.d d (eS hd)⟩,h.d _ (eK hi),h.up,?_,?_,λhg x hx e=>?_⟩
 ·have:=h.r;simp only[sumR,eJ,eT,eP,eU]at a a1 this⊢;omega
 ·have:=h.u;simp only[sumC,eJ,eT,eP,eU]at b b1 this⊢;omega
 ·exact hg (e▸p.2.2 x hx _ (by simp) e)
theorem xh{c:Q04}{l:List Q0a}(hn:l≠[])(h:Qlp c l):FitP c l:=by
 have hp:0<l.length:=List.length_pos_iff.2 hn
 have key:∀i,i<=l.length->(∀d∈l.take i,vD d)/\(l.take i).Pairwise Zc5:=by
  intro i
  induction i with
  |zero=>intro _;simp
  |succ i ih=>
   intro hi
   obtain⟨k1,k2⟩:=ih (by omega)
   have a:=h i (by omega)
   rw[eL (show i<l.length by omega)]
   refine⟨λd hd=>?_,?_⟩
   ·rcases List.mem_append.1 hd with q|q
    ·exact k1 d q
    ·rw[List.mem_singleton.1 q];exact a.2.1
   ·rw[eR]
    refine⟨k2,by simp,λx hx y hy e=>?_⟩
    rw[List.mem_singleton.1 hy]at e
    by_cases g:l[i].C7=0
    ·rw[e,g]
    ·exact absurd e (a.2.2.2.2.2 g x hx)
 obtain⟨k1,k2⟩:=key l.length (aO _)
 rw[eN]at k1 k2
 have a:=h (l.length-1) (by omega)
 have e:l.take (l.length-1)++[l[l.length-1]]=l:=by
  rw[<-eL (by omega),show l.length-1+1=l.length by omega,eN]
 obtain⟨a1,b1⟩:=Z7p (l.take (l.length-1)) [l[l.length-1]]
 rw[e]at a1 b1
 refine⟨a.1.1,a.2.2.1,k1,?_,?_,k2⟩
 ·have:=a.2.2.2.1;simp only[sumR,eJ,eT,eP,eU]at a1 this⊢;omega
 ·have:=a.2.2.2.2.1;simp only[sumC,eJ,eT,eP,eU]at b1 this⊢;omega
theorem FitP.perm{c:Q04}{l m:List Q0a}(h:FitP c l)(p:l.Perm m):FitP c m:=
 ⟨h.v,h.up,λd hd=>h.d d (p.mem_iff.2 hd),(Za8 p).1▸h.r,(Za8 p).2▸h.u,(p.pairwise_iff Zc5.symm).1 h.g⟩
theorem FitP.sub{c:Q04}{l m:List Q0a}(h:FitP c m)(s:l.Sublist m):FitP c l:=
 ⟨h.v,h.up,λd hd=>h.d d (s.subset hd),eV (Z77 s h.d).1 h.r,eV (Z77 s h.d).2 h.u,h.g.sublist s⟩
theorem FitP.add{c:Q04}{l:List Q0a}{d:Q0a}(h:l≠[]->FitP c l)(a:Qrr c l d):FitP c (d::l):=by
 obtain⟨a1,a2,a3,a4,a5,a6⟩:=a
 refine⟨a1.1,a3,λx hx=>?_,?_,?_,?_⟩
 ·rcases List.mem_cons.1 hx with rfl|hx
  ·exact a2
  ·exact a1.2.2 x hx
 ·simp only[sumR,eJ,eP]at a4⊢;omega
 ·simp only[sumC,eJ,eP]at a5⊢;omega
 ·rw[eW]
  refine⟨λx hx e=>?_,?_⟩
  ·by_cases g:d.C7=0
   ·exact g
   ·exact absurd e.symm (a6 g x hx)
  ·by_cases e:l=[]
   ·rw[e];exact List.Pairwise.nil
   ·exact(h e).g
theorem FitP.adm{c:Q04}{l:List Q0a}{d:Q0a}(h:FitP c (d::l))(hl:l.length<=16):Qrr c l d:=by
 have g:=h.g
 rw[eW]at g
 refine⟨⟨h.v,hl,λx hx=>h.d x (eB _ hx)⟩,h.d d eD,h.up,?_,?_,λn x hx e=>n (g.1 x hx e.symm)⟩
 ·have:=h.r;simp only[sumR,eJ,eP]at this⊢;omega
 ·have:=h.u;simp only[sumC,eJ,eP]at this⊢;omega
def onF(g:List Q0d)(i:Int):List Q0a:=g.flatMap λp=>(if p.On.a0=i then[p.A3]else[])++(if p.On.a1=i then[p.A3]else[])
theorem Qiz(g k:List Q0d)(i:Int):onF (g++k) i=onF g i++onF k i:=by simp[onF]
theorem yJ{g:List Q0d}(h:∀p∈g,p.On.a0≠p.On.a1)(i:Int):(onF g i).length<=g.length:=by
 induction g with
 |nil=>exact aO _
 |cons p g ih=>
  have e:onF (p::g) i=onF [p] i++onF g i:=Qiz [p] g i
  have:=ih λq hq=>h q (eB _ hq)
  have k:(onF [p] i).length<=1:=by
   have:=h p eD
   simp only[onF,eX,eY,cL,lA]
   split<;>split<;>simp_all
  rw[e,lA,cZ];omega
structure okR(r:Q01):Prop where
 hl:r.A4.length<=6
 gl:r.A0.length<=8
 g:∀p∈r.A0,1<=p.B8.length/\p.B8.length<=12/\vD p.A3/\(0<=p.On.a0/\p.On.a0<r.A4.length)/\(0<=p.On.a1/\p.On.a1<r.A4.length)/\p.On.a0≠p.On.a1
 s:r.A0.Pairwise λa b=>bytesLess a.B8 b.B8=true
 h:∀i (k:i<r.A4.length),vC r.A4[i]/\(r.A4[i].Up=true->Qlp r.A4[i] (onF r.A0 i))
theorem okR.fit{r:Q01}(h:okR r){i:Nat}(k:i<r.A4.length)(u:r.A4[i].Up=true)(n:onF r.A0 i≠[]):FitP r.A4[i] (onF r.A0 i):=xh n ((h.h i k).2 u)
theorem okR.len{r:Q01}(h:okR r)(i:Int):(onF r.A0 i).length<=8:=bI (yJ (λp hp=>(h.g p hp).2.2.2.2.2) i) h.gl
theorem xS:okR ⟨[],[]⟩:=
 {hl:=by decide,gl:=by decide,g:=λp hp=>(nomatch hp),s:=List.Pairwise.nil,h:=λi k=>absurd k (dZ _)}
def addG(r:Q01)(at':Nat)(p:Q0d):Q01:=⟨r.A4,r.A0.take at'++p::r.A0.drop at'⟩
theorem vJ{r:Q01}(h:okR r){k:Nat}{p:Q0d}(hl:r.A0.length<8)
 (hp:1<=p.B8.length/\p.B8.length<=12/\vD p.A3/\(0<=p.On.a0/\p.On.a0<r.A4.length)/\(0<=p.On.a1/\p.On.a1<r.A4.length)/\p.On.a0≠p.On.a1)
 (h1:∀q∈r.A0.take k,bytesLess q.B8 p.B8=true) (h2:∀q∈r.A0.drop k,bytesLess p.B8 q.B8=true)
 (ha:∀(i:Nat) (b:i<r.A4.length),r.A4[i].Up=true->(p.On.a0=i\/p.On.a1=i)->Qrr r.A4[i] (onF r.A0 i) p.A3):okR (addG r k p):=by
 have pm:(r.A0.take k++p::r.A0.drop k).Perm (p::r.A0):=by
  refine List.perm_middle.trans ?_
  rw[eZ]
 have hm:∀q,q∈r.A0.take k++p::r.A0.drop k->q=p\/q∈r.A0:=λq hq=>List.mem_cons.1 (pm.mem_iff.1 hq)
 refine⟨h.hl,?_,λq hq=>?_,?_,λi b=>⟨(h.h i b).1,λu=>?_⟩⟩
 ·show(r.A0.take k++p::r.A0.drop k).length<=8
  rw[pm.length_eq,cZ];omega
 ·rcases hm q hq with rfl|hq
  ·exact hp
  ·exact h.g q hq
 ·show(r.A0.take k++p::r.A0.drop k).Pairwise _
  rw[eR,eW]
  refine⟨h.s.sublist (eQ _ _),⟨h2,h.s.sublist (List.drop_sublist _ _)⟩,λa q b q2=>?_⟩
  rcases List.mem_cons.1 q2 with rfl|q2
  ·exact h1 a q
  ·have s:=h.s
   rw[<-eZ k r.A0,eR]at s
   exact s.2.2 a q b q2
 ·show Qlp r.A4[i] (onF (r.A0.take k++p::r.A0.drop k) i)
  have u:r.A4[i].Up=true:=u
  have e:onF (r.A0.take k++p::r.A0.drop k) i=onF (r.A0.take k) i++(onF [p] i++onF (r.A0.drop k) i):=by
   rw[Qiz,<-Qiz [p]];rfl
  have e0:onF r.A0 i=onF (r.A0.take k) i++onF (r.A0.drop k) i:=by rw[<-Qiz,eZ]
  have l8:=h.len i
  by_cases c:p.On.a0=i\/p.On.a1=i
  ·have ep:onF [p] i=[p.A3]:=by
    have:=hp.2.2.2.2.2
    simp only[onF,eX,eY,cL]
    split<;>split<;>simp_all
   have F:=FitP.add (λn=>h.fit b u n) (ha i b u c)
   rw[e,ep]
   refine vg ?_ (F.perm ?_)
   ·rw[e0]at l8;simp only[lA,cZ,fB]at l8⊢;omega
   ·rw[e0];exact List.perm_middle.symm
  ·have ep:onF [p] i=[]:=by
    simp only[onF,eX,eY,cL]
    rw[if_neg λq=>c (.inl q),if_neg λq=>c (.inr q)];rfl
   rw[e,ep,eE,<-e0]
   exact(h.h i b).2 u
theorem qab{g k:List Q0d}(h:g.Sublist k)(i:Int):(onF g i).Sublist (onF k i):=by
 induction h with
 |slnil=>exact List.Sublist.slnil
 |cons a _ ih=>
  have e:∀m,onF (a::m) i=onF [a] i++onF m i:=λm=>Qiz [a] m i
  rw[e]
  exact ih.trans (List.sublist_append_right _ _)
 |cons_cons a _ ih=>
  have e:∀m,onF (a::m) i=onF [a] i++onF m i:=λm=>Qiz [a] m i
  rename_i l1 l2 _
  rw[e l1,e l2]
  exact ih.append_left _
theorem xB{c:Q04}{l m:List Q0a}(hl:m.length<=17)(h:Qlp c m)(s:l.Sublist m):Qlp c l:=by
 by_cases n:l=[]
 ·rw[n];exactλi hi=>absurd hi (dZ _)
 ·have nm:m≠[]:=λe=>n (List.sublist_nil.1 (e▸s))
  exact vg (bI s.length_le hl) ((xh nm h).sub s)
theorem qK{r:Q01}(h:okR r){g:List Q0d}(s:g.Sublist r.A0):okR ⟨r.A4,g⟩:=by
 refine⟨h.hl,bI s.length_le h.gl,λp hp=>h.g p (s.subset hp),h.s.sublist s,λi b=>⟨(h.h i b).1,λu=>?_⟩⟩
 have:=h.len i
 exact xB (by omega) ((h.h i b).2 u) (qab s i)
theorem zh{r:Q01}(h:okR r){k:Nat}(hk:k<r.A0.length){p:Q0d}(hn:p.B8=r.A0[k].B8)(hd:p.A3=r.A0[k].A3)
 {B:Nat} (hB:B<r.A4.length) (ho:(p.On.a0=B/\p.On.a1=r.A0[k].On.a1)\/(p.On.a1=B/\p.On.a0=r.A0[k].On.a0)) (hne:p.On.a0≠p.On.a1)
 (ha:Qrr r.A4[B] (onF (r.A0.take k++r.A0.drop (k+1)) B) p.A3):okR ⟨r.A4,r.A0.set k p⟩:=by
 have hs:(r.A0.take k++r.A0.drop (k+1)).Sublist r.A0:=by
  conv=>rhs;rw[<-eZ k r.A0]
  exact List.Sublist.append_left (fC _ (Nat.le_succ k)) _
 have es:r.A0.set k p=r.A0.take k++p::r.A0.drop (k+1):=List.set_eq_take_append_cons_drop.trans (by rw[if_pos hk])
 have eg:r.A0=r.A0.take k++r.A0[k]::r.A0.drop (k+1):=by
  rw[List.getElem_cons_drop,eZ]
 have gk:=h.g _ (eK hk)
 have pk:1<=p.B8.length/\p.B8.length<=12/\vD p.A3/\(0<=p.On.a0/\p.On.a0<r.A4.length)/\(0<=p.On.a1/\p.On.a1<r.A4.length)/\p.On.a0≠p.On.a1:=by
  rw[hn,hd]
  refine⟨gk.1,gk.2.1,gk.2.2.1,?_,?_,hne⟩
  ·rcases ho with⟨a,b⟩|⟨a,b⟩
   ·omega
   ·rw[b];exact gk.2.2.2.1
  ·rcases ho with⟨a,b⟩|⟨a,b⟩
   ·rw[b];exact gk.2.2.2.2.1
   ·omega
 have o:=qK h hs
 have len:(r.A0.take k++r.A0.drop (k+1)).length<8:=by
  have:=h.gl
  rw[lA,bD,bG];omega
 have q:=vJ (r:=⟨r.A4,r.A0.take k++r.A0.drop (k+1)⟩) o (k:=k) (p:=p) len pk
 have ht:(r.A0.take k++r.A0.drop (k+1)).take k=r.A0.take k:=by
  rw[eF (by rw[bD];omega),List.take_take,Nat.min_self]
 have hdp:(r.A0.take k++r.A0.drop (k+1)).drop k=r.A0.drop (k+1):=by
  exact List.drop_left' (by rw[bD];omega)
 simp only[addG,ht,hdp,<-es]at q
 have s:=h.s
 rw[eg,eR,eW]at s
 refine q (λa ha=>?_) (λa ha=>?_) (λi b u c=>?_)
 ·rw[hn];exact s.2.2 a ha _ eD
 ·rw[hn];exact s.2.1.1 a ha
 ·by_cases e:i=B
  ·subst e;exact ha
  ·
   have ek:onF [r.A0[k]] i=[p.A3]:=by
    have h6:=gk.2.2.2.2.2
    rw[hd]
    have c':r.A0[k].On.a0=i\/r.A0[k].On.a1=i:=by
     rcases ho with⟨x,y⟩|⟨x,y⟩<;>rcases c with c|c
     ·exact absurd (by omega) e
     ·exact .inr (y▸c)
     ·exact .inl (y▸c)
     ·exact absurd (by omega) e
    simp only[onF,eX,eY,cL]
    rcases c' with c'|c'
    ·rw[if_pos c',if_neg λq=>h6 (c'.trans q.symm)];rfl
    ·rw[if_pos c',if_neg λq=>h6 (q.trans c'.symm)];rfl
   have e1:onF r.A0 i=onF (r.A0.take k) i++([p.A3]++onF (r.A0.drop (k+1)) i):=by
    conv=>lhs;rw[eg]
    rw[Qiz,show∀m,onF (r.A0[k]::m) i=onF [r.A0[k]] i++onF m i fromλm=>Qiz [r.A0[k]] m i,ek]
   have F:=h.fit b u (by rw[e1];simp)
   have l8:=h.len i
   have F2:=F.perm (m:=p.A3::onF (r.A0.take k++r.A0.drop (k+1)) i) (by rw[e1,Qiz];exact List.perm_middle)
   exact F2.adm (by rw[e1]at l8;rw[Qiz];simp only[lA,cZ,fB]at l8⊢;omega)
open Go.Op (bytesLess)
theorem atN{α:Type}{l:List α}{i:Nat}(h:i<l.length)(d:α):l.getD (dM (i:Int)) d=l[i]:=by
 rw[dD,dP,cI h];rfl
theorem bT{b:Bool}(h:(!b)=true):¬b=true:=by cases b<;>simp at h⊢
theorem bF{b:Bool}(h:(!b)=false):b=true:=by cases b<;>simp at h⊢
theorem no{b:Bool}(h:b=false):¬b=true:=by cases b<;>simp at h⊢
theorem gd4{i:Nat}{n:Nat}(h:i<n){a:Bool}(ha:a=true):(a&&decide (0<=(i:Int)/\(i:Int)<(n:Int)))=true:=by
 rw[ha,dY (by omega)];rfl
theorem zS{n:Int}:(Q83 n).w (λb=>b=true↔0<=n/\n<=1000000):=by
 unfold Q83
 refine w_br (λh=>w_lf ?_) λh=>w_lf ?_
 ·have h:=oY h
  exact⟨λk=>⟨h,oY k⟩,λk=>dY k.2⟩
 ·have h:=oN h
  exact⟨λk=>(eG k).elim,λk=>absurd k.1 h⟩
theorem Qr0{n:Int}:Q5l n=true↔0<=n/\n<=1000000:=(Tree.pp zS).2
theorem vd_w{d:Q0a}:(Q3s d).w (λb=>b=true↔vD d):=by
 unfold Q3s
 refine w_br (λh1=>w_br (λh2=>w_lv λx hx=>w_br (λh3=>w_lv λy hy=>w_br (λh4=>w_lf ?_) λh4=>w_lf ?_) λh3=>w_lf ?_) λh2=>w_lf ?_) λh1=>w_lf ?_
 ·have h1:=oY h1;have h2:=oY h2
  rw[hx]at h3;rw[hy]at h4
  have h3:=Qr0.1 h3;have h4:=Qr0.1 h4
  exact⟨λk=>⟨h1,h2,h3.2,h4.1,h4.2,oY k⟩,λk=>dY k.2.2.2.2.2⟩
 ·rw[hy]at h4
  exact⟨λk=>(eG k).elim,λk=>absurd (Qr0.2 ⟨k.2.2.2.1,k.2.2.2.2.1⟩) (no h4)⟩
 ·rw[hx]at h3
  exact⟨λk=>(eG k).elim,λk=>absurd (Qr0.2 ⟨eV k.1 k.2.1,k.2.2.1⟩) (no h3)⟩
 ·exact⟨λk=>(eG k).elim,λk=>absurd k.2.1 (oN h2)⟩
 ·exact⟨λk=>(eG k).elim,λk=>absurd k.1 (oN h1)⟩
theorem Qv0{d:Q0a}:Q2h d=true↔vD d:=(Tree.pp vd_w).2
theorem vc_w{c:Q04}:(Q4n c).w (λb=>b=true↔vC c):=by
 unfold Q4n
 refine w_lv λx hx=>w_br (λh=>w_lv λy hy=>w_lf ?_) λh=>w_lf ?_
 ·rw[hx]at h
  rw[hy]
  have h:=Qr0.1 h
  exact⟨λk=>⟨h.1,h.2,Qr0.1 k⟩,λk=>Qr0.2 k.2.2⟩
 ·rw[hx]at h
  exact⟨λk=>(eG k).elim,λk=>absurd (Qr0.2 ⟨k.1,k.2.1⟩) (no h)⟩
theorem Z9s{c:Q04}:Q47 c=true↔vC c:=(Tree.pp vc_w).2
theorem Qtm{α:Type}{P:α->Prop}{l:List α}{i:Nat}(h:i<l.length)(a:∀x∈l.take i,P x)(b:P l[i]):∀x∈l.take (i+1),P x:=by
 intro x hx
 rw[eL h]at hx
 rcases List.mem_append.1 hx with q|q
 ·exact a x q
 ·rw[List.mem_singleton.1 q];exact b
theorem Qsc{n i:Nat}(h:i<n)(b:i<100000):((n:Int)-wrap .i64 ((i:Int)+1)).toNat<((n:Int)-(i:Int)).toNat:=by
 rw[w1 (by omega)];omega
theorem vl_w{c:Q04}{l:List Q0a}:(Q5a c l).w (λb=>b=true↔vL c l):=by
 unfold Q5a
 refine w_lv λx hx=>w_br (λh=>w_lf ?_) λh=>w_br (λg=>w_lf ?_) λg=>?_
 ·rw[hx]at h
  exact⟨λk=>(eG k).elim,λk=>absurd (Z9s.2 k.1) (bT h)⟩
 ·have g:=oY g
  exact⟨λk=>(eG k).elim,λk=>absurd k.2.1 (by omega)⟩
 ·rw [hx]at h
  have hc:=Z9s.1 (bF h)
  have g:=oN g
  refine w_lp (inv:=λv:Int=>∃i:Nat,v=i/\i<=l.length/\∀d∈l.take i,vD d) (μ:=Qc c l) ⟨0,rfl,aT _,by simp⟩ (dQ _) ?_
  rintro _ ⟨i,rfl,hi,hv⟩
  refine w_br (λhb=>?_) λhb=>w_lf ?_
  ·have hb:i<l.length:=by have:=oY hb;omega
   refine w_cn (gd4 hb rfl) (w_lv λy hy=>?_)
   rw[atN hb]at hy
   refine w_br (λq=>w_lf ?_) λq=>w_nx ?_
   ·rw[hy]at q
    exact⟨λk=>(eG k).elim,λk=>absurd (Qv0.2 (k.2.2 _ (eK hb))) (bT q)⟩
   ·rw[hy]at q
    exact⟨⟨i+1,w1 (by omega),hb,Qtm hb hv (Qv0.1 (bF q))⟩,Qsc hb (by omega)⟩
  ·have hb:¬i<l.length:=by have:=oN hb;omega
   rw[dW (by omega)]at hv
   exact⟨λ_=>⟨hc,by omega,hv⟩,λ_=>rfl⟩
theorem Z47:∀{l:List Q0a},(∀d∈l,vD d)->sumR l<=1000000*l.length/\sumC l<=1000000*l.length
 |[],_=>⟨by decide,by decide⟩
 |d::l,h=>by
  obtain⟨a,b⟩:=Z47 (l:=l) λx hx=>h x (eB _ hx)
  have:=h d eD
  simp only[sumR,sumC,eJ,eP,vD,cZ]at a b this⊢
  omega
theorem zab{c:Q04}{l:List Q0a}(h:vL c l):(Q65 c l).w (λr=>r=(c.C0-sumR l,c.A7-sumC l)):=by
 obtain⟨hc,hl,hv⟩:=h
 unfold Q65
 refine Q0i vl_w λx hx=>w_br (λq=>absurd (hx.2 ⟨hc,hl,hv⟩) (bT q)) λ_=>?_
 refine w_lp (inv:=λv:Int×Int×Int=>∃i:Nat,i<=l.length/\v=(c.C0-sumR (l.take i),c.A7-sumC (l.take i),(i:Int))) (μ:=Qd0 c l) ⟨0,aT _,by show(c.C0,c.A7,(0:Int))=(c.C0-0,c.A7-0,0);rw[eO,eO]⟩ (dQ _) ?_
 rintro _ ⟨i,hi,rfl⟩
 have ht:∀d∈l.take i,vD d:=λd hd=>hv d (eS hd)
 obtain⟨n1,n2⟩:=zJ ht
 obtain⟨b1,b2⟩:=Z47 ht
 have hlt:(l.take i).length=i:=by rw[bD];omega
 rw[hlt]at b1 b2
 obtain⟨c1,c2,c3,c4⟩:=hc
 refine w_br (λhb=>?_) λhb=>w_lf ?_
 ·have hb:i<l.length:=by have h:(i:Int)<(l.length:Int):=oY hb;omega
  have hd:=hv _ (eK hb)
  obtain⟨d1,d2,d3,d4,d5,d6⟩:=hd
  refine w_cn (gd4 hb rfl) (w_nx ⟨⟨i+1,hb,?_⟩,Qsc hb (by omega)⟩)
  show(wrap .i64 (c.C0-sumR (l.take i)-(l.getD (dM (i:Int)) (RK.dflt RK.apiDemand)).B9),wrap .i64 (c.A7-sumC (l.take i)-(l.getD (dM (i:Int)) (RK.dflt RK.apiDemand)).A7),wrap .i64 ((i:Int)+1))=_
  obtain⟨s1,s2⟩:=Z7p (l.take i) [l[i]]
  rw[atN hb,w1 (by omega),eL hb,s1,s2,wi (by omega) (by omega),wi (by omega) (by omega)]
  simp only[sumR,sumC,eJ,eT,eP,eU,Int.add_zero,Int.sub_sub]
 ·have hb:¬i<l.length:=by have h:¬(i:Int)<(l.length:Int):=oN hb;omega
  show(c.C0-sumR (l.take i),c.A7-sumC (l.take i))=_
  rw[dW (by omega)]
theorem Z2z{c:Q04}{l:List Q0a}{d:Q0a}:(Q5b c l d).w (λe=>e=0↔Qrr c l d):=by
 unfold Q5b
 refine Q0i vl_w λx hx=>w_br (λq=>w_lf ⟨λk=>absurd k (by decide),λk=>absurd (hx.2 k.1) (bT q)⟩) λq=>?_
 have hv:=hx.1 (bF q)
 refine w_lv λy hy=>w_br (λq=>w_lf ⟨λk=>absurd k (by decide),λk=>?_⟩) λq=>?_
 ·rw[hy]at q;exact absurd (Qv0.2 k.2.1) (bT q)
 rw[hy]at q
 have hd:=Qv0.1 (bF q)
 refine w_br (λq=>w_lf ⟨λk=>absurd k (by decide),λk=>absurd k.2.2.1 (bT q)⟩) λq=>?_
 have hu:=bF q
 refine Q0i (zab hv) λz hz=>?_
 subst hz
 refine w_br (λq=>w_lf ⟨λk=>absurd k (by decide),λk=>?_⟩) λq=>?_
 ·have q:c.C0-sumR l<d.B9:=oY q
  have:=k.2.2.2.1;omega
 have q1:¬c.C0-sumR l<d.B9:=oN q
 refine w_br (λq=>w_lf ⟨λk=>absurd k (by decide),λk=>?_⟩) λq=>?_
 ·have q:c.A7-sumC l<d.A7:=oY q
  have:=k.2.2.2.2.1;omega
 have q2:¬c.A7-sumC l<d.A7:=oN q
 refine w_br (λq=>?_) λq=>w_lf ⟨λ_=>⟨hv,hd,hu,by omega,by omega,λn=>absurd (nf q) n⟩,λ_=>rfl⟩
 have hg:=nt q
 have hl:=hv.2.1
 refine w_lp (inv:=λv:Int=>∃i:Nat,v=i/\i<=l.length/\∀x∈l.take i,x.C7≠d.C7) (μ:=Qc4 c l d) ⟨0,rfl,aT _,by simp⟩ (dQ _) ?_
 rintro _ ⟨i,rfl,hi,ha⟩
 refine w_br (λhb=>?_) λhb=>w_lf ?_
 ·have hb:i<l.length:=by have:=oY hb;omega
  refine w_cn (gd4 hb rfl) (w_br (λq=>w_lf ⟨λk=>absurd k (by decide),λk=>?_⟩) λq=>w_nx ?_)
  ·rw[atN hb]at q
   exact absurd (bt q) (k.2.2.2.2.2 hg _ (eK hb))
  ·rw[atN hb]at q
   exact⟨⟨i+1,w1 (by omega),hb,Qtm hb ha (bf q)⟩,Qsc hb (by omega)⟩
 ·have hb:¬i<l.length:=by have:=oN hb;omega
  rw[dW (by omega)]at ha
  exact⟨λ_=>⟨hv,hd,hu,by omega,by omega,λ_=>ha⟩,λ_=>rfl⟩
theorem xab{c:Q04}{l:List Q0a}(hl:l.length<=1000):(Q6g c l).w (λb=>b=true↔Qlp c l):=by
 unfold Q6g
 refine w_lp (inv:=λv:Int=>∃i:Nat,v=i/\i<=l.length/\∀j (h:j<l.length),j<i->Qrr c (l.take j) l[j]) (μ:=Qcu c l) ⟨0,rfl,aT _,λj _ k=>absurd k (dZ _)⟩ (dQ _) ?_
 rintro _ ⟨i,rfl,hi,ha⟩
 refine w_br (λhb=>?_) λhb=>w_lf ?_
 ·have hb:i<l.length:=by have:=oY hb;omega
  refine w_cn (gd4 hb rfl) (w_cn ?_ ?_)
  ·show(_&&decide (0<=(0:Int)/\0<=(i:Int)/\(i:Int)<=(l.length:Int)))=true
   rw[dY (by omega)];rfl
  ·refine Q0i Z2z λx hx=>?_
   rw[atN hb,show dU (dM (i:Int)-dM 0) (dV (dM 0) l)=l.take i by rw[dD];rfl]at hx
   refine w_br (λq=>w_lf ⟨λk=>(eG k).elim,λk=>absurd (hx.2 (k i hb)) (nt q)⟩) λq=>w_nx ?_
   refine⟨⟨i+1,w1 (by omega),hb,λj h k=>?_⟩,Qsc hb (by omega)⟩
   by_cases e:j=i
   ·subst e;exact hx.1 (nf q)
   ·exact ha j h (by omega)
 ·have hb:¬i<l.length:=by have:=oN hb;omega
  exact⟨λ_ j h=>ha j h (by omega),λ_=>rfl⟩
theorem on_w{g:List Q0d}(hg:g.length<=1000)(host:Int):(Q8y g host).w (λr=>r=onF g host):=by
 unfold Q8y
 refine w_lp (inv:=λv:Int×List Q0a=>∃i:Nat,i<=g.length/\v=((i:Int),onF (g.take i) host)/\v.2.length<=2*i) (μ:=Qfr g host) ⟨0,aT _,rfl,aO _⟩ (dQ _) ?_
 rintro _ ⟨i,hi,rfl,hn⟩
 refine w_br (λhb=>?_) λhb=>w_lf ?_
 ·have hb :i<g.length:=by have h:(i:Int)<(g.length:Int):=oY hb;omega
  have hn:(onF (g.take i) host).length<=2*i:=hn
  have e1:onF (g.take (i+1)) host=onF (g.take i) host++((if g[i].On.a0=host then[g[i].A3]else[])++(if g[i].On.a1=host then[g[i].A3]else[])):=by
   rw[eL hb,Qiz]
   simp only[onF,eX,eY,cL]
  refine w_cn (gd4 hb rfl) ?_
  refine w_lp (inv:=λv:Int×List Q0a=>(v.1=0/\v.2=onF (g.take i) host)\/(v.1=1/\v.2=onF (g.take i) host++(if g[i].On.a0=host then[g[i].A3]else[]))\/(v.1=2/\v.2=onF (g.take (i+1)) host)) (μ:=Qf3 g host ((i:Int),onF (g.take i) host)) (.inl ⟨rfl,rfl⟩) (dQ _) ?_
  rintro⟨a,o⟩ hv
  have atg:∀k:Int,aK (A2.l (g.getD (dM (i:Int)) (RK.dflt RK.apiPlaced)).On) k.toNat 0=aK [g[i].On.a0,g[i].On.a1] k.toNat 0:=λk=>by rw[atN hb];rfl
  refine w_br (λha=>?_) λha=>w_nx ?_
  ·have ha:a<2:=oY ha
   refine w_cn ?_ ?_
   ·show(_&&(_&&decide (0<=a/\a<2)))=true
    rw[dY (by rcases hv with⟨h,_⟩|⟨h,_⟩|⟨h,_⟩<;>(have h:a=_:=h;omega))];rfl
   ·rcases hv with⟨h,h2⟩|⟨h,h2⟩|⟨h,_⟩
    ·have h:a=0:=h
     have h2:o=_:=h2
     subst h;subst h2
     have e:g[i].On.a0=aK [g[i].On.a0,g[i].On.a1] (dM 0) 0:=rfl
     refine w_br (λq=>w_cn (dY ?_) (w_nx ⟨.inr (.inl ⟨rfl,?_⟩),by show(2-(1:Int)).toNat<(2-(0:Int)).toNat;decide⟩)) λq=>w_nx ⟨.inr (.inl ⟨rfl,?_⟩),by show(2-(1:Int)).toNat<(2-(0:Int)).toNat;decide⟩
     ·show 32*((onF (g.take i) host).length+1)<=_
      omega
     ·have q:aK (A2.l (g.getD (dM (i:Int)) (RK.dflt RK.apiPlaced)).On) (dM 0) 0=host:=bt q
      rw[atg]at q
      have q:g[i].On.a0=host:=q
      show onF (g.take i) host++[(g.getD (dM (i:Int)) (RK.dflt RK.apiPlaced)).A3]=_
      rw[atN hb,if_pos q]
     ·have q:aK (A2.l (g.getD (dM (i:Int)) (RK.dflt RK.apiPlaced)).On) (dM 0) 0≠host:=bf q
      rw[atg]at q
      have q:g[i].On.a0≠host:=q
      rw[if_neg q,cL]
    ·have h:a=1:=h
     have h2:o=_:=h2
     subst h;subst h2
     refine w_br (λq=>w_cn (dY ?_) (w_nx ⟨.inr (.inr ⟨rfl,?_⟩),by show(2-(2:Int)).toNat<(2-(1:Int)).toNat;decide⟩)) λq=>w_nx ⟨.inr (.inr ⟨rfl,?_⟩),by show(2-(2:Int)).toNat<(2-(1:Int)).toNat;decide⟩
     ·show 32*((onF (g.take i) host++(if g[i].On.a0=host then[g[i].A3]else[])).length+1)<=_
      rw[lA]
      split<;>simp<;>omega
     ·have q:aK (A2.l (g.getD (dM (i:Int)) (RK.dflt RK.apiPlaced)).On) (dM 1) 0=host:=bt q
      rw[atg]at q
      have q:g[i].On.a1=host:=q
      show(onF (g.take i) host++(if g[i].On.a0=host then[g[i].A3]else[]))++[(g.getD (dM (i:Int)) (RK.dflt RK.apiPlaced)).A3]=_
      rw[atN hb,e1,if_pos q,cP]
     ·have q:aK (A2.l (g.getD (dM (i:Int)) (RK.dflt RK.apiPlaced)).On) (dM 1) 0≠host:=bf q
      rw[atg]at q
      have q:g[i].On.a1≠host:=q
      show onF (g.take i) host++(if g[i].On.a0=host then[g[i].A3]else[])=_
      rw[e1,if_neg q,cL]
    ·have h:a=2:=h
     omega
  ·have ha:¬a<2:=oN ha
   have h2:a=2/\o=onF (g.take (i+1)) host:=by
    rcases hv with⟨h,_⟩|⟨h,_⟩|⟨h,h2⟩
    ·have h:a=0:=h
     omega
    ·have h:a=1:=h
     omega
    ·exact⟨h,h2⟩
   refine⟨⟨i+1,hb,?_,?_⟩,Qsc hb (by omega)⟩
   ·show(wrap .i64 ((i:Int)+1),o)=_
    rw[w1 (by omega),h2.2]
   ·show o.length<=2*(i+1)
    rw[h2.2,e1,lA,lA]
    split<;>split<;>simp<;>omega
 ·have hb:¬i<g.length:=by have h:¬(i:Int)<(g.length:Int):=oN hb;omega
  show onF (g.take i) host=_
  rw[dW (by omega)]
open Go.Op (bytesLess)
theorem yh:∀{a b:List UInt8},Go.Lib.compareBytes a b<0↔Go.Op.bytesLess a b=true
 |[],[]=>by simp[Go.Lib.compareBytes,Go.Op.bytesLess]
 |[],_::_=>by simp[Go.Lib.compareBytes,Go.Op.bytesLess]
 |_::_,[]=>by simp[Go.Lib.compareBytes,Go.Op.bytesLess]
 |x :: a,y::b=>by
  have ih:=yh (a:=a) (b:=b)
  simp only[Go.Lib.compareBytes,Go.Op.bytesLess,aI,aE,decide_eq_true_eq,beq_iff_eq]
  by_cases h:x<y
  ·rw[if_pos h];exact⟨λ_=>.inl h,λ_=>by decide⟩
  ·rw [if_neg h]
   by_cases g:y<x
   ·rw[if_pos g]
    refine⟨λk=>absurd k (by decide),λk=>?_⟩
    rcases k with k|⟨k,_⟩
    ·exact absurd k h
    ·subst k;exact absurd g (fD _)
   ·rw[if_neg g]
    have e:x=y:=by
     apply UInt8.toNat_inj.1
     have h:¬x.toNat<y.toNat:=h
     have g:¬y.toNat<x.toNat:=g
     omega
    exact⟨λk=>.inr ⟨e,ih.1 k⟩,λk=>ih.2 (k.resolve_left h).2⟩
theorem vh:∀{a b:List UInt8},Go.Lib.compareBytes a b=0↔a=b
 |[],[]=>by simp[Go.Lib.compareBytes]
 |[],_::_=>by simp[Go.Lib.compareBytes]
 |_::_,[]=>by simp[Go.Lib.compareBytes]
 |x :: a,y::b=>by
  have ih:=vh (a:=a) (b:=b)
  simp only[Go.Lib.compareBytes,List.cons.injEq]
  by_cases h:x<y
  ·rw[if_pos h];exact⟨λk=>absurd k (by decide),λk=>by rw[k.1]at h;exact absurd h (fD _)⟩
  ·rw [if_neg h]
   by_cases g:y<x
   ·rw[if_pos g];exact⟨λk=>absurd k (by decide),λk=>by rw[k.1]at g;exact absurd g (fD _)⟩
   ·rw[if_neg g]
    have e:x=y:=by
     apply UInt8.toNat_inj.1
     have h:¬x.toNat<y.toNat:=h
     have g:¬y.toNat<x.toNat:=g
     omega
    exact⟨λk=>⟨e,ih.1 k⟩,λk=>ih.2 k.2⟩
theorem isH_w{r:Q01}{h:Int}:(Q9f r h).w (λb=>b=true↔0<=h/\h<r.A4.length):=by
 unfold Q9f
 refine w_br (λq=>w_lf ?_) λq=>w_lf ?_
 ·have q:=oY q
  exact⟨λk=>⟨q,oY k⟩,λk=>dY k.2⟩
 ·have q:=oN q
  exact⟨λk=>(eG k).elim,λk=>absurd k.1 q⟩
theorem Qm{r:Q01}{h:Int}:Q53 r h=true↔0<=h/\h<r.A4.length:=(Tree.pp isH_w).2
theorem vn_w{s:List UInt8}:(Q62 s).w (λb=>b=true↔1<=s.length/\s.length<=12):=by
 unfold Q62
 refine w_br (λq=>w_lf ?_) λq=>w_lf ?_
 ·have q:=oY q
  exact⟨λk=>⟨by omega,by have:=oY k;omega⟩,λk=>dY (by omega)⟩
 ·have q:=oN q
  exact⟨λk=>(eG k).elim,λk=>absurd k.1 (by omega)⟩
theorem qi{s:List UInt8}:Q84 s=true↔1<=s.length/\s.length<=12:=(Tree.pp vn_w).2
abbrev Z2(a b:Q0d):Prop:=bytesLess a.B8 b.B8=true
theorem srtA{g:List Q0d}{i:Nat}(hb:i<g.length)(hs:(g.take i).Pairwise Z2)(hp:0<i)(h1:bytesLess g[i].B8 g[i-1].B8=false)(h2:g[i].B8≠g[i-1].B8):∀p∈g.take i,Z2 p g[i]:=by
 have k:=yg h1 h2
 have e:g.take i=g.take (i-1)++[g[i-1]]:=by rw[<-eL (by omega),show i-1+1=i by omega]
 rw[e,eR]at hs
 intro p hp
 rw[e]at hp
 rcases List.mem_append.1 hp with q|q
 ·exact Qoc (hs.2.2 p q _ eD) k
 ·rw[List.mem_singleton.1 q];exact k
theorem yS{g:List Q0d}{i:Nat}(hb:i<g.length)(hs:(g.take i).Pairwise Z2)(h:∀p∈g.take i,Z2 p g[i]):(g.take (i+1)).Pairwise Z2:=by
 rw[eL hb,eR]
 exact⟨hs,List.pairwise_singleton _ _,λa ha b hb=>by rw[List.mem_singleton.1 hb];exact h a ha⟩
def gP(r:Q01)(p:Q0d):Prop:=1<=p.B8.length/\p.B8.length<=12/\vD p.A3/\(0<=p.On.a0/\p.On.a0<r.A4.length)/\(0<=p.On.a1/\p.On.a1<r.A4.length)/\p.On.a0≠p.On.a1
theorem Qus(r:Q01):(Q7d r).w (λb=>b=true↔okR r):=by
  unfold Q7d
  refine w_br (λq=>w_lf ⟨λk=>(eG k).elim,λk=>absurd k.hl (by have:=oY q;omega)⟩) λq1=> ?_
  have hl:r.A4.length<=6:=by have:=oN q1;omega
  refine w_br (λq=>w_lf ⟨λk=>(eG k).elim,λk=>absurd k.gl (by have:=oY q;omega)⟩) λq2=> ?_
  have gl:r.A0.length<=8:=by have:=oN q2;omega
  refine w_lp (inv:=λv:Int=> ∃i:Nat,v=i/\i<=r.A0.length/\(∀p∈r.A0.take i,gP r p)/\(r.A0.take i).Pairwise Z2) (μ:=Qeh r) ⟨0,rfl,aT _,by simp,by simp⟩ (dQ _) ?_
  rintro _ ⟨i,rfl,hi,hg,hs⟩
  refine w_br (λhb=> ?_) λhb=> ?_
  . have hb :i<r.A0.length:=by have:=oY hb;omega
    have mem:r.A0[i]∈r.A0:=eK hb
    refine w_cn (gd4 hb rfl) (w_lv λx hx=> ?_)
    rw[atN hb]at hx
    refine w_br (λq=>w_lf ⟨λk=>(eG k).elim,λk=> ?_⟩) λq=> ?_
    . rw[hx]at q;exact absurd (qi.2 ⟨(k.g _ mem).1,(k.g _ mem).2.1⟩) (bT q)
    rw[hx]at q
    have hn:=qi.1 (bF q)
    refine w_br (λhp=>w_cn ?_ (w_br (λq=>w_lf ⟨λk=>(eG k).elim,λk=> ?_⟩) λq=> ?_)) λhp=> ?_
    . have hp:(i:Int)>0:=oY hp
      show(_&&decide (0<=wrap .i64 ((i:Int)-1)/\wrap .i64 ((i:Int)-1)<(r.A0.length:Int)))=true
      rw[wi (by omega) (by omega),dY (by omega)];rfl
    . have hp:(i:Int)>0:=oY hp
      have e:wrap .i64 ((i:Int)-1)=((i-1:Nat):Int):=by rw[wi (by omega) (by omega)];omega
      rw[atN hb,e,atN (show i-1<r.A0.length by omega)]at q
      have L:=List.pairwise_iff_getElem.1 k.s (i-1) i (by omega) hb (by omega)
      rcases Bool.or_eq_true_iff.1 q with q|q
      . have:=Qoc L q
        rw[zg]at this;cases this
      . rw[oY q,zg]at L;cases L
    all_goals
      have srt : ∀p∈r.A0.take i,Z2 p r.A0[i]:=by
        by_cases z:(i:Int)>0
        . first
            |exact absurd z (oN hp)
            | (have e:wrap .i64 ((i:Int)-1)=((i-1:Nat):Int):=by rw[wi (by omega) (by omega)];omega
               rw[atN hb,e,atN (show i-1<r.A0.length by omega)]at q
               obtain⟨a,b⟩:=Bool.or_eq_false_iff.1 q
               exact srtA hb hs (by omega) a (oN b))
        . have z:i=0:=by omega
          intro p hp
          rw[z]at hp;simp at hp
      refine w_lv λx1 hx1=> ?_
      rw[atN hb]at hx1
      refine w_br (λq=>w_lf ⟨λk=>(eG k).elim,λk=> ?_⟩) λq3=>w_lv λx2 hx2=> ?_
      . rw[hx1]at q;exact absurd (Qv0.2 (k.g _ mem).2.2.1) (bT q)
      rw[hx1]at q3
      rw[atN hb]at hx2
      refine w_br (λq=>w_lf ⟨λk=>(eG k).elim,λk=> ?_⟩) λq4=>w_lv λx3 hx3=> ?_
      . rw[hx2]at q;exact absurd (Qm.2 (k.g _ mem).2.2.2.1) (bT q)
      rw[hx2]at q4
      rw[atN hb]at hx3
      refine w_br (λq=>w_lf ⟨λk=>(eG k).elim,λk=> ?_⟩) λq5=> ?_
      . rw[hx3]at q;exact absurd (Qm.2 (k.g _ mem).2.2.2.2.1) (bT q)
      rw[hx3]at q5
      refine w_br (λq=>w_lf ⟨λk=>(eG k).elim,λk=> ?_⟩) λq6=>w_nx ?_
      . rw[atN hb]at q;exact absurd (bt q) (k.g _ mem).2.2.2.2.2
      rw[atN hb]at q6
      exact⟨⟨i+1,w1 (by omega),hb,Qtm hb hg ⟨hn.1,hn.2,Qv0.1 (bF q3),Qm.1 (bF q4),Qm.1 (bF q5),bf q6⟩,yS hb hs srt⟩,Qsc hb (by omega)⟩
  . have hb: ¬i<r.A0.length:=by have:=oN hb;omega
    rw[dW (by omega)]at hg hs
    refine w_lp (inv:=λv:Int=> ∃i:Nat,v=i/\i<=r.A4.length/\ ∀j (h:j<r.A4.length),j<i->vC r.A4[j]/\(r.A4[j].Up=true->Qlp r.A4[j] (onF r.A0 j))) (μ:=Qev r) ⟨0,rfl,aT _,λj _ k=>absurd k (dZ _)⟩ (dQ _) ?_
    rintro _ ⟨m,rfl,hm,ha⟩
    refine w_br (λhb=> ?_) λhb=>w_lf ?_
    . have hb:m<r.A4.length:=by have:=oY hb;omega
      have nx:vC r.A4[m]/\(r.A4[m].Up=true->Qlp r.A4[m] (onF r.A0 m))-> ∀j (h:j<r.A4.length),j<m+1->vC r.A4[j]/\(r.A4[j].Up=true->Qlp r.A4[j] (onF r.A0 j)):=λq j h k=>by
        by_cases e:j=m
        . subst e;exact q
        . exact ha j h (by omega)
      refine w_cn (gd4 hb rfl) (w_lv λx hx=> ?_)
      rw[atN hb]at hx
      refine w_br (λq=>w_lf ⟨λk=>(eG k).elim,λk=> ?_⟩) λq=> ?_
      . rw[hx]at q;exact absurd (Z9s.2 (k.h m hb).1) (bT q)
      rw[hx]at q
      have hc:=Z9s.1 (bF q)
      have ol:(onF r.A0 m).length<=1000:=by
        have:=yJ (λp hp=>(hg p hp).2.2.2.2.2) (m:Int);omega
      refine w_br (λhu=>Q0i (on_w (by omega) _) λy hy=> ?_) λhu=>w_nx ?_
      . subst hy
        refine Q0i (xab ol) λz hz=> ?_
        rw[atN hb]at hz hu
        refine w_br (λq=>w_lf ⟨λk=>(eG k).elim,λk=>absurd (hz.2 ((k.h m hb).2 hu)) (bT q)⟩) λq=>w_nx ?_
        exact⟨⟨m+1,w1 (by omega),hb,nx ⟨hc,λ_=>hz.1 (bF q)⟩⟩,Qsc hb (by omega)⟩
      . rw[atN hb]at hu
        exact⟨⟨m+1,w1 (by omega),hb,nx ⟨hc,λu=>by rw[hu]at u;cases u⟩⟩,Qsc hb (by omega)⟩
    . have hb: ¬m<r.A4.length:=by have:=oN hb;omega
      exact⟨λ_=>⟨hl,gl,hg,hs,λj h=>ha j h (by omega)⟩,λ_=>rfl⟩
open Go.Op (bytesLess)
def FindR(g:List Q0d)(n:List UInt8)(r:Int×Bool):Prop:=
 ∃k:Nat,r.1=k/\k<=g.length/\(r.2=true->k<g.length)/\(r.2=false->(∀q∈g.take k,bytesLess q.B8 n=true)/\∀q∈g.drop k,bytesLess n q.B8=true)
theorem cmp1(p:Q0d)(n:List UInt8):Q6m p n=Go.Lib.compareBytes p.B8 n:=rfl
theorem xi{g:List Q0d}(h:g.Pairwise Z2){i j:Nat}(hj:j<g.length)(hij:i<j):bytesLess (g[i]'(by omega)).B8 g[j].B8=true:=List.pairwise_iff_getElem.1 h i j (by omega) hj hij
theorem bin_w{g:List Q0d}(h:g.Pairwise Z2)(hl:g.length<=1000)(n:List UInt8):(Q0q g n).w (FindR g n):=by
 unfold Q0q
 refine w_lp (inv:=λv:Int×Int=>∃i j:Nat,v=((i:Int),(j:Int))/\i<=j/\j<=g.length/\(∀m (q:m<g.length),m<i->bytesLess g[m].B8 n=true)/\∀m (q:m<g.length),j<=m->¬bytesLess g[m].B8 n=true) (μ:=Q1v g n) ⟨0,g.length,rfl,aT _,aO _,λm _ k=>absurd k (dZ _),λm q k=>by omega⟩ (dQ _) ?_
 rintro _ ⟨i,j,rfl,hij,hj,hA,hB⟩
 refine w_br (λhb=>?_) λhb=>?_
 ·have hb:i<j:=by have h:(i:Int)<(j:Int):=oY hb;omega
  have em:wrap .i64 (ishr .u64 (wrap .u64 (wrap .i64 ((i:Int)+(j:Int)))) 1)=(((i+j)/2:Nat):Int):=by
   rw[wi (x:=(i:Int)+j) (by omega) (by omega),wu (by omega) (by omega)]
   have:ishr .u64 ((i:Int)+j) 1=((i:Int)+j).fdiv 2:=rfl
   rw[this,dF _ (by decide),wi (by omega) (by omega)];omega
  have hm:(i+j)/2<g.length:=by omega
  refine w_cn ?_ (w_lv λx hx=>?_)
  ·show(_&&decide (0<=wrap .i64 (ishr .u64 (wrap .u64 (wrap .i64 ((i:Int)+(j:Int)))) 1)/\wrap .i64 (ishr .u64 (wrap .u64 (wrap .i64 ((i:Int)+(j:Int)))) 1)<(g.length:Int)))=true
   rw[em,dY (by omega)];rfl
  have hx:x=Q6m (g.getD (dM (wrap .i64 (ishr .u64 (wrap .u64 (wrap .i64 ((i:Int)+(j:Int)))) 1))) (RK.dflt RK.apiPlaced)) n:=hx
  rw[em,atN hm,cmp1]at hx
  refine w_br (λq=>w_nx ?_) λq=>w_nx ?_
  ·have q:=oY q
   rw[hx]at q
   have q:=yh.1 q
   refine⟨⟨(i+j)/2+1,j,?_,by omega,hj,λm km hk=>?_,hB⟩,?_⟩
   ·show(wrap .i64 (wrap .i64 (ishr .u64 (wrap .u64 (wrap .i64 ((i:Int)+(j:Int)))) 1)+1),(j:Int))=_
    rw[em,w1 (by omega)]
   ·by_cases e:m=(i+j)/2
    ·subst e;exact q
    ·exact Qoc (xi h hm (by omega)) q
   ·show((j:Int)-wrap .i64 (wrap .i64 (ishr .u64 (wrap .u64 (wrap .i64 ((i:Int)+(j:Int)))) 1)+1)).toNat<((j:Int)-(i:Int)).toNat
    rw[em,w1 (by omega)];omega
  ·have q:=oN q
   rw[hx]at q
   have q:¬bytesLess g[(i+j)/2].B8 n=true:=λk=>q (yh.2 k)
   refine⟨⟨i,(i+j)/2,?_,by omega,by omega,hA,λm km hk=>?_⟩,?_⟩
   ·show((i:Int),wrap .i64 (ishr .u64 (wrap .u64 (wrap .i64 ((i:Int)+(j:Int)))) 1))=_
    rw[em]
   ·by_cases e:m=(i+j)/2
    ·subst e;exact q
    ·exactλk=>q (Qoc (xi h km (by omega)) k)
   ·show(wrap .i64 (ishr .u64 (wrap .u64 (wrap .i64 ((i:Int)+(j:Int)))) 1)-(i:Int)).toNat<((j:Int)-(i:Int)).toNat
    rw[em];omega
 ·have hb:i=j:=by have h:¬(i:Int)<(j:Int):=oN hb;omega
  subst hb
  have tk:∀q∈g.take i,bytesLess q.B8 n=true:=λq hq=>by
   obtain⟨m,km,rfl⟩:=fE hq
   rw[bD]at km
   rw[List.getElem_take];exact hA m (by omega) (by omega)
  have dr:(∀q:i<g.length,g[i].B8≠n)->∀q∈g.drop i,bytesLess n q.B8=true:=λhn q hq=>by
   obtain⟨m,km,rfl⟩:=fE hq
   rw[bG]at km
   rw[List.getElem_drop]
   have a:=hB (i+m) (by omega) (by omega)
   refine yg (by cases c:bytesLess g[i+m].B8 n<;>simp_all) λe=>?_
   rcases dJ m with z|z
   ·subst z;exact hn (by omega) e
   ·have:=xi h (i:=i) (j:=i+m) (by omega) (by omega)
    rw[e]at this
    exact hB i (by omega) (aO _) this
  refine w_br (λq=>?_) λq=>?_
  ·have q:i<g.length:=by have h:(i:Int)<(g.length:Int):=oY q;omega
   refine w_cn (gd4 q rfl) (w_lv λx hx=>w_lf ⟨i,rfl,hj,λ_=>q,λhf=>⟨tk,dr λq' e=>?_⟩⟩)
   have hx:x=Q6m (g.getD (dM (i:Int)) (RK.dflt RK.apiPlaced)) n:=hx
   rw[atN q,cmp1]at hx
   exact bf hf (hx.trans (vh.2 e))
  ·have q:¬i<g.length:=by have h:¬(i:Int)<(g.length:Int):=oN q;omega
   exact w_lf ⟨i,rfl,hj,λk=>(eG k).elim,λ_=>⟨tk,dr λk=>absurd k q⟩⟩
theorem zi{r:Q01}(h:okR r)(n:List UInt8):(Q9b r n).w (FindR r.A0 n):=by
 have:=h.gl
 unfold Q9b
 exact Q0i (bin_w h.s (by omega) n) λx hx=>w_lf hx
def OrdW(x:Q01×Int):Prop:=x.2=0->okR x.1
theorem Qg4{r:Q01}{e:Int}(h:e≠0):OrdW (r,e):=λk=>absurd k h
theorem yi{r:Q01}(h:okR r)(o:Q03):(Q5d r o).w OrdW:=by
 have:=h.hl
 unfold Q5d
 refine w_br (λ_=>w_lf (Qg4 (by decide))) λq1=>w_br (λ_=>w_lf (Qg4 (by decide))) λq2=>w_lv λx hx=>w_br (λ_=>w_lf (Qg4 (by decide))) λq3=>w_br (λ_=>w_lf (Qg4 (by decide))) λq4=>w_br (λq5=>?_) λq5=>?_
 ·refine w_cn (dY (by omega)) (Q0i (Qus _) λy hy=>w_br (λ_=>w_lf (Qg4 (by decide))) λq=>w_lf λ_=>hy.1 (bF q))
 ·have q1:=oN q1
  have q2:=oN q2
  have q5:=bf q5
  refine w_cn ?_ (Q0i (Qus _) λy hy=>w_br (λ_=>w_lf (Qg4 (by decide))) λq=>w_lf λ_=>hy.1 (bF q))
  show(_&&decide (0<=o.A/\o.A<(r.A4.length:Int)))=true
  rw[dY (by omega)];rfl
theorem add_w{r:Q01}(h:okR r)(o:Q03):(Qab r o).w OrdW:=by
 have hgl:=h.gl
 unfold Qab
 refine w_lv λx0 h0=>w_br (λ_=>w_lf (Qg4 (by decide))) λq0=>w_lv λx1 h1=>w_br (λ_=>w_lf (Qg4 (by decide))) λq1=>w_lv λx2 h2=>w_br (λ_=>w_lf (Qg4 (by decide))) λq2=>w_lv λx3 h3=>w_br (λ_=>w_lf (Qg4 (by decide))) λq3=>w_br (λ_=>w_lf (Qg4 (by decide))) λq4=>?_
 rw[h0]at q0;rw[h1]at q1;rw[h2]at q2;rw[h3]at q3
 have hn:=qi.1 (bF q0);have hd:=Qv0.1 (bF q1);have hA:=Qm.1 (bF q2);have hB:=Qm.1 (bF q3);have hne:=bf q4
 refine Q0i (zi h _) λx4 h4=>w_br (λ_=>w_lf (Qg4 (by decide))) λq5=>w_br (λ_=>w_lf (Qg4 (by decide))) λq6=>?_
 obtain⟨k,k1,k2,k3,k4⟩:=h4
 obtain⟨k5,k6⟩:=k4 q5
 have q6:=oN q6
 have gd3:∀x:Int,0<=x/\x<r.A4.length->(true&&decide (0<=x/\x<(r.A4.length:Int)))=true:=λx hx=>by rw[dY hx];rfl
 obtain⟨a,ea⟩:∃a:Nat,o.A=a:=⟨o.A.toNat,by omega⟩
 obtain⟨b,eb⟩:∃b:Nat,o.B=b:=⟨o.B.toNat,by omega⟩
 have la:a<r.A4.length:=by omega
 have lb:b<r.A4.length:=by omega
 refine w_cn (gd3 _ hA) (Q0i (on_w (by omega) _) λx5 h5=>Q0i Z2z λx6 h6=>w_br (λq=>w_lf (Qg4 (nt q))) λq7=>w_cn (gd3 _ hB) (Q0i (on_w (by omega) _) λx7 h7=>Q0i Z2z λx8 h8=>w_br (λq=>w_lf (Qg4 (nt q))) λq8=>?_))
 have a1:=h6.1 (nf q7)
 have a2:=h8.1 (nf q8)
 subst h5;subst h7
 rw[ea,atN la]at a1
 rw[eb,atN lb]at a2
 refine w_an ?_ (w_lv λx9 h9=>w_lf λ_=>?_)
 ·exact⟨show(0:Int)<=x4.1 by omega,show x4.1<=(r.A0.length:Int) by omega,rfl,show r.A0.length<=1000000 by omega⟩
 ·have h9:x9=dU x4.1.toNat r.A0++[⟨o.B8,o.A3,⟨o.A,o.B⟩⟩]++dV x4.1.toNat r.A0:=h9
  rw[k1,dD,cP]at h9
  rw[h9]
  refine vJ (k:=k) (p:=⟨o.B8,o.A3,⟨o.A,o.B⟩⟩) h (by omega) ⟨hn.1,hn.2,hd,hA,hB,hne⟩ k5 k6 λi bi u c=>?_
  rcases c with c|c
  ·have e:i=a:=by have c:o.A=i:=c;omega
   subst e;exact a1
  ·have e:i=b:=by have c:o.B=i:=c;omega
   subst e;exact a2
theorem zB{r:Q01}(h:okR r)(o:Q03):(Q6e r o).w OrdW:=by
 have hgl:=h.gl
 unfold Q6e
 refine Q0i (zi h _) λx h4=>w_br (λ_=>w_lf (Qg4 (by decide))) λq=>?_
 obtain⟨k,k1,k2,k3,k4⟩:=h4
 have k3:=k3 (bF q)
 have e:wrap .i64 (x.1+1)=((k+1:Nat):Int):=by rw[k1,w1 (by omega)]
 refine w_an ⟨show(0:Int)<=x.1 by omega,show x.1<wrap .i64 (x.1+1) by rw[e];omega,show wrap .i64 (x.1+1)<=(r.A0.length:Int) by rw[e];omega⟩ (w_lv λy hy=>w_lf λ_=>?_)
 have hy:y=dU x.1.toNat r.A0++dV (dM (wrap .i64 (x.1+1))) r.A0:=hy
 rw[hy]
 refine qK h ?_
 rw[e,k1,dD,dD]
 conv=>rhs;rw[<-eZ k r.A0]
 exact List.Sublist.append_left (fC _ (Nat.le_succ k)) _
open Go.Op (bytesLess)
theorem yB{r:Q01}(h:okR r){k:Nat}(hk:k<r.A0.length){a:Int}(ha:a=0\/a=1){b:Nat}(hb:b<r.A4.length)
 (hne:aK (A2.l r.A0[k].On) (dM (wrap .i64 (1-a))) 0≠b)
 (hA:Qrr r.A4[b] (onF (r.A0.take k++r.A0.drop (k+1)) b) r.A0[k].A3):
 okR ⟨r.A4,r.A0.set k ⟨r.A0[k].B8,r.A0[k].A3,A2.of 0 (fF (A2.l r.A0[k].On) a.toNat (b:Int))⟩⟩:=by
 rcases ha with rfl|rfl
 ·exact zh h hk rfl rfl hb (.inl ⟨rfl,rfl⟩) (λe=>hne e.symm) hA
 ·exact zh h hk rfl rfl hb (.inr ⟨rfl,rfl⟩) hne hA
theorem qac{r:Q01}(h:okR r)(o:Q03):(Q8z r o).w OrdW:=by
 have hgl:=h.gl
 unfold Q8z
 refine Q0i (zi h _) λx h4=>w_br (λ_=>w_lf (Qg4 (by decide))) λq=>?_
 obtain⟨k,k1,k2,k3,k4⟩:=h4
 have k3:=k3 (bF q)
 have e:wrap .i64 (x.1+1)=((k+1:Nat):Int):=by rw[k1,w1 (by omega)]
 have gd7:(true&&decide (0<=x.1/\x.1<(r.A0.length:Int)))=true:=by rw[dY (by omega)];rfl
 refine w_br (λqa=>w_br (λ_=>w_lf (Qg4 (by decide))) λqb=>?_) λqa=>?_
 all_goals
  have hA:o.A=0\/o.A=1:=by first|exact .inl (nf qa)|exact .inr (nf qb)
  refine w_lv λy hy=>w_br (λ_=>w_lf (Qg4 (by decide))) λqh=>?_
  rw[hy]at qh
  have hB:=Qm.1 (bF qh)
  obtain⟨b,eb⟩:∃b:Nat,o.B=b:=⟨o.B.toNat,by omega⟩
  have lb:b<r.A4.length:=by omega
  refine w_cn gd7 (w_cn ?_ (w_br (λ_=>w_lf (Qg4 (by decide))) λqn=>?_))
  ·show(_&&decide (0<=wrap .i64 (1-o.A)/\wrap .i64 (1-o.A)<2))=true
   rw[wi (by omega) (by omega),dY (by omega)];rfl
  have qn:=bf qn
  rw[k1,atN k3,eb]at qn
  refine w_an (show r.A0.length<=1000000000000 by omega) (w_lv λg hg=>?_)
  have hg:g=r.A0:=hg
  subst hg
  refine w_an ⟨show(0:Int)<=x.1 by omega,show x.1<wrap .i64 (x.1+1) by rw[e];omega,show wrap .i64 (x.1+1)<=(r.A0.length:Int) by rw[e];omega⟩ (w_lv λz hz=>?_)
  have hz:z=dU x.1.toNat r.A0++dV (dM (wrap .i64 (x.1+1))) r.A0:=hz
  rw[e,k1,dD,dD]at hz
  have hzl:z.length<=1000:=by rw[hz,lA,bD,bG];omega
  refine w_cn ?_ (Q0i (on_w hzl _) λu hu=>w_cn gd7 (Q0i Z2z λv hv=>w_br (λq=>w_lf (Qg4 (nt q))) λq7=>w_cn gd7 (w_cn ?_ (w_lf λ_=>?_))))
  ·show(_&&decide (0<=o.B/\o.B<(r.A4.length:Int)))=true
   rw[dY hB];rfl
  ·show(_&&decide (0<=o.A/\o.A<2))=true
   rw[dY (by omega)];rfl
  ·have a1:=hv.1 (nf q7)
   rw[hu,hz,k1,eb,atN lb,atN k3]at a1
   have m:=yB h k3 hA lb qn a1
   show okR ⟨r.A4,fF r.A0 x.1.toNat ⟨(r.A0.getD x.1.toNat (RK.dflt RK.apiPlaced)).B8,(r.A0.getD x.1.toNat (RK.dflt RK.apiPlaced)).A3,A2.of 0 (fF (A2.l (r.A0.getD x.1.toNat (RK.dflt RK.apiPlaced)).On) o.A.toNat o.B)⟩⟩
   rw[k1,atN k3,eb,dD]
   exact m
theorem Qg5{r:Q01}(h:okR r):(Q5h r).w (λx=>x=r):=by
 have:=h.hl
 have:=h.gl
 unfold Q5h
 refine w_an (show r.A4.length<=1000000000000 by omega) (w_lv λx hx=>w_an (show r.A0.length<=1000000000000 by omega) (w_lv λy hy=>w_lf ?_))
 have hx:x=r.A4:=hx
 have hy:y=r.A0:=hy
 rw[hx,hy]
theorem Z7l{r:Q01}(h:okR r)(o:Q03):(Q7y r o).w (λx=>okR x.1/\(x.2≠0->x.1=r)):=by
 have back:∀(e:Int),((Q5h r).w (λx=>x=r)):=λ_=>Qg5 h
 unfold Q7y
 refine Q0i (Qus r) λx hx=>w_br (λq=>absurd (hx.2 h) (bT q)) λ_=>?_
 refine w_br (λ_=>Q0i (Qg5 h) λy hy=>?_) λ_=>w_br (λ_=>Q0i (Qg5 h) λy hy=>?_) λ_=>w_br (λ_=>Q0i (Qg5 h) λy hy=>?_) λ_=>w_br (λ_=>Q0i (Qg5 h) λy hy=>?_) λ_=>Q0i (Qg5 h) λy hy=>w_lf ⟨by rw[hy];exact h,λ_=>hy⟩
 ·subst hy
  exact Q0i (yi h o) λz hz=>w_br (λq=>Q0i (Qg5 h) λu hu=>w_lf ⟨by rw[hu];exact h,λ_=>hu⟩) λq=>w_lf ⟨hz (nf q),λk=>absurd rfl k⟩
 ·subst hy
  exact Q0i (add_w h o) λz hz=>w_br (λq=>Q0i (Qg5 h) λu hu=>w_lf ⟨by rw[hu];exact h,λ_=>hu⟩) λq=>w_lf ⟨hz (nf q),λk=>absurd rfl k⟩
 ·subst hy
  exact Q0i (zB h o) λz hz=>w_br (λq=>Q0i (Qg5 h) λu hu=>w_lf ⟨by rw[hu];exact h,λ_=>hu⟩) λq=>w_lf ⟨hz (nf q),λk=>absurd rfl k⟩
 ·subst hy
  exact Q0i (qac h o) λz hz=>w_br (λq=>Q0i (Qg5 h) λu hu=>w_lf ⟨by rw[hu];exact h,λ_=>hu⟩) λq=>w_lf ⟨hz (nf q),λk=>absurd rfl k⟩
theorem Z2g:∀l:List D,(∀d∈l,eq1 d d=true)->eqs l l=true
 |[],_=>rfl
 |d::l,h=>by
  show(eq1 d d&&eqs l l)=true
  rw[h d (by simp),Z2g l λe he=>h e (by simp[he])];rfl
theorem vS(s:List Q04)(h:s.length<=1000):(Q0z s s).w (λb=>b=true):=by
 unfold Q0z
 refine w_br (λq=>absurd rfl (nt q)) λ_=>?_
 refine w_lp (inv:=λv:Int=>∃i:Nat,v=i/\i<=s.length) (μ:=Q1b s s) ⟨0,rfl,aT _⟩ (dQ _) ?_
 rintro _ ⟨i,rfl,hi⟩
 refine w_br (λhb=>?_) λhb=>w_lf rfl
 have hb:i<s.length:=by have:=oY hb;omega
 refine w_cn (gd4 hb rfl) (w_cn (gd4 hb rfl) (w_br (λq=>absurd ?_ (bT q)) λq=>w_nx ⟨⟨i+1,w1 (by omega),hb⟩,Qsc hb (by omega)⟩))
 refine Z2g _ λd hd=>?_
 simp only[fG,fH,or_false]at hd
 rcases hd with rfl|rfl|rfl<;>exact beq_self_eq_true _
theorem qT(s:List Q0d)(h:s.length<=1000):(Q16 s s).w (λb=>b=true):=by
 unfold Q16
 refine w_br (λq=>absurd rfl (nt q)) λ_=>?_
 refine w_lp (inv:=λv:Int=>∃i:Nat,v=i/\i<=s.length) (μ:=Q1j s s) ⟨0,rfl,aT _⟩ (dQ _) ?_
 rintro _ ⟨i,rfl,hi⟩
 refine w_br (λhb=>?_) λhb=>w_lf rfl
 have hb:i<s.length:=by have:=oY hb;omega
 refine w_cn (gd4 hb rfl) (w_cn (gd4 hb rfl) (w_br (λq=>absurd ?_ (bT q)) λq=>w_nx ⟨⟨i+1,w1 (by omega),hb⟩,Qsc hb (by omega)⟩))
 refine Z2g _ λd hd=>?_
 simp only[fG,fH,or_false]at hd
 rcases hd with rfl|rfl|rfl|rfl|rfl|rfl|rfl
 ·exact dY rfl
 all_goals exact beq_self_eq_true _
theorem xK{r:Q01}(h:okR r):(Q8v r r).w (λb=>b=true):=by
 have h1:=h.hl
 have h2:=h.gl
 unfold Q8v
 refine w_an (show r.A4.length<=1000000000000 by omega) (w_lv λx hx=>w_br (λ_=>w_an (show r.A0.length<=1000000000000 by omega) (w_lv λy hy=>w_lf ?_)) λq=>?_)
 ·rw[hy];exact(Tree.pp (qT r.A0 (by omega))).2
 ·have:=(Tree.pp (vS r.A4 (by omega))).2
  rw[hx]at q
  exact absurd this (no q)
set_option synthInstance.maxHeartbeats 2000000
set_option synthInstance.maxSize 100000
noncomputable section
instance Qsr (s:List Int):Ck (Q08 s):=let d:Decidable (Q08 s):=(by delta Q08;infer_instance);⟨@decide _ d,@oY _ d⟩
instance Zcd (m:List Int) (addr:Int) (size:Int):Ck (Q85 m addr size):=ckT (t:=Q7q m addr size) (by delta Q7q;infer_instance)
instance zK (n:Int):Ck (Qd7 n):=ckT (t:=Qdy n) (by delta Qdy;infer_instance)
instance vB (w:Int) (low:Int) (n:Int):Ck (Q3v w low n):=ckT (t:=Qcg w low n) (by delta Qcg;infer_instance)
instance Zcg (w:Int) (low:Int) (n:Int) (v:Int):Ck (Qb3 w low n v):=ckT (t:=Q7s w low n v) (by delta Q7s;infer_instance)
instance qj (m:List Int) (addr:Int) (size:Int) (v:Int):Ck (Q6c m addr size v):=ckT (t:=Q95 m addr size v) (by delta Q95;infer_instance)
instance Z8n (x:Int) (n:Int):Ck (Q6 x n):=ckT (t:=Q5g x n) (by delta Q5g;infer_instance)
instance qC (w:Int):Ck (Qfx w):=ckT (t:=Qc2 w) (by delta Qc2;infer_instance)
instance zu (a:Int) (b:Int):Ck (Qad a b):=ckT (t:=Qan a b) (by delta Qan;infer_instance)
instance qZ (op:Int) (a:Int) (b:Int):Ck (Qhr op a b):=ckT (t:=Qj6 op a b) (by delta Qj6;infer_instance)
instance yu (m:List Int) (addr:Int) (size:Int):Ck (Q48 m addr size):=ckT (t:=Qap m addr size) (by delta Qap;infer_instance)
instance Zbn (pte:Int):Ck (Q7 pte):=ckT (t:=Q6b pte) (by delta Q6b;infer_instance)
instance vu (m:List Int) (root:Int) (va:Int) (access:Int):Ck (Qej m root va access):=ckT (t:=Qal m root va access) (by delta Qal;infer_instance)
instance xj (m:List Int) (entry:Int) (access:Int):Ck (Qcn m entry access):=ckT (t:=Q90 m entry access) (by delta Q90;infer_instance)
instance qv (c:Q0e) (m:List Int) (va:Int) (size:Int) (access:Int):Ck (Q78 c m va size access):=ckT (t:=Qar c m va size access) (by delta Qar;infer_instance)
instance yK (c:Q0e) (m:List Int):Ck (Qhq c m):=ckT (t:=Qdo c m) (by delta Qdo;infer_instance)
instance xZ (c:Q0e) (register:Int) (v:Int):Ck (Q54 c register v):=ckT (t:=Qiy c register v) (by delta Qiy;infer_instance)
instance xT (c:Q0e) (m:List Int) (i:Q10):Ck (Qji c m i):=ckT (t:=Qge c m i) (by delta Qge;infer_instance)
instance vK (c:Q0e) (m:List Int) (i:Q10):Ck (Qhg c m i):=ckT (t:=Qee c m i) (by delta Qee;infer_instance)
instance qL (c:Q0e) (csr:Int) (v:Int):Ck (Qhy c csr v):=ckT (t:=Qdz c csr v) (by delta Qdz;infer_instance)
instance xv (c:Q0e) (i:Q10):Ck (Qed c i):=ckT (t:=Qaf c i) (by delta Qaf;infer_instance)
instance zT (c:Q0e) (m:List Int):Ck (Qfg c m):=ckT (t:=Qgo c m) (by delta Qgo;infer_instance)
instance Zac (x:Int):Ck (Q9k x):=ckT (t:=Q5c x) (by delta Q5c;infer_instance)
instance zv (b:Q0f) (pages:Int):Ck (Qe7 b pages):=ckT (t:=Qah b pages) (by delta Qah;infer_instance)
instance Z4h (m:Q00):Ck (Q49 m):=ckT (t:=Q3o m) (by delta Q3o;infer_instance)
instance yv (m:Q00):Ck (Q5f m):=ckT (t:=Qa3 m) (by delta Qa3;infer_instance)
instance Z0 (x:Int):Ck (Q52 x):=ckT (t:=Q2s x) (by delta Q2s;infer_instance)
instance Zce (b:Q0f):Ck (Q8h b):=ckT (t:=Q7m b) (by delta Q7m;infer_instance)
instance Z91 (b:Q0f):Ck (Q9u b):=ckT (t:=Q5e b) (by delta Q5e;infer_instance)
instance Zcc (m:Q00):Ck (Qbe m):=ckT (t:=Q77 m) (by delta Q77;infer_instance)
instance Za2 (m:Q00):Ck (Q5y m):=ckT (t:=Q5i m) (by delta Q5i;infer_instance)
instance zj (m:Q00):Ck (Q9g m):=ckT (t:=Q96 m) (by delta Q96;infer_instance)
instance yj (m:Q00):Ck (Q9i m):=ckT (t:=Q8x m) (by delta Q8x;infer_instance)
instance Zch (m:Q00):Ck (Q80 m):=ckT (t:=Q76 m) (by delta Q76;infer_instance)
instance xC (b:Q0f) (port:Int):Ck (Qg3 b port):=ckT (t:=Qc5 b port) (by delta Qc5;infer_instance)
instance Z7t (m:Q00) (port:Int) (clock:Int):Ck (Q8q m port clock):=ckT (t:=Q4k m port clock) (by delta Q4k;infer_instance)
instance vv (words:List Int):Ck (Q43 words):=let d:Decidable (Q43 words):=(by delta Q43;infer_instance);⟨@decide _ d,@oY _ d⟩
instance qw (m:List Int) (frame:Int):Ck (Q79 m frame):=ckT (t:=Qa6 m frame) (by delta Qa6;infer_instance)
instance zC (d0:Q0l) (m:List Int) (cmd:Int) (at0:Int):Ck (Qg2 d0 m cmd at0):=ckT (t:=Qcf d0 m cmd at0) (by delta Qcf;infer_instance)
instance yT (d0:Q0l) (m:List Int) (port:Int) (v:Int) (at0:Int):Ck (Qk0 d0 m port v at0):=ckT (t:=Qh1 d0 m port v at0) (by delta Qh1;infer_instance)
instance vT (n:Q1f) (m:List Int) (at0:Int):Ck (Qjj n m at0):=ckT (t:=Qgq n m at0) (by delta Qgq;infer_instance)
instance zZ (n:Q1f) (m:List Int) (port:Int) (v:Int) (at0:Int):Ck (Qmp n m port v at0):=ckT (t:=Qit n m port v at0) (by delta Qit;infer_instance)
instance Zbc (m:List Int) (frame:Int) (s:List UInt8):Ck (Q4l m frame s):=ckT (t:=Q6k m frame s) (by delta Q6k;infer_instance)
instance Zb (s:List UInt8) (count:Int):Ck (Q3d s count):=let d:Decidable (Q3d s count):=(by delta Q3d;infer_instance);⟨@decide _ d,@oY _ d⟩
instance xw (b:Q0f) (m:List Int) (port:Int) (v:Int):Ck (Qdu b m port v):=ckT (t:=Qa2 b m port v) (by delta Qa2;infer_instance)
instance Z6n (m:Q00) (port:Int) (v:Int) (at0:Int):Ck (Q7f m port v at0):=ckT (t:=Q42 m port v at0) (by delta Q42;infer_instance)
instance qk (m:Q00) (clock:Int):Ck (Q9j m clock):=ckT (t:=Q8w m clock) (by delta Q8w;infer_instance)
instance yC (n:Int) (k:Int):Ck (Q3u n k):=ckT (t:=Q5r n k) (by delta Q5r;infer_instance)
instance xL (n:Int):Ck (Qmy n):=ckT (t:=Qhc n) (by delta Qhc;infer_instance)
instance zL (l:List Int):Ck (Z1p l):=ckT (t:=Qlx l) (by delta Qlx;infer_instance)
instance qU (pages:Int):Ck (Qj2 pages):=ckT (t:=Qgd pages) (by delta Qgd;infer_instance)
instance xU (pages:Int) (blocks:Int) (image:List Int):Ck (Qjf pages blocks image):=ckT (t:=Qgr pages blocks image) (by delta Qgr;infer_instance)
instance Z5q (m:Q00):Ck (Q4a m):=ckT (t:=Q3q m) (by delta Q3q;infer_instance)
instance qD (src:List UInt8):Ck (Qg src):=ckT (t:=Qc0 src) (by delta Qc0;infer_instance)
instance zw (s:List UInt8):Ck (Qea s):=ckT (t:=Qau s) (by delta Qau;infer_instance)
instance yw (n:Int):Ck (Q2l n):=let d:Decidable (Q2l n):=(by delta Q2l;infer_instance);⟨@decide _ d,@oY _ d⟩
instance xk (n:Int):Ck (Qcl n):=ckT (t:=Q4z n) (by delta Q4z;infer_instance)
instance zU (r:Int):Ck (Qis r):=ckT (t:=Qb4 r) (by delta Qb4;infer_instance)
instance yL (s:List UInt8):Ck (Qdg s):=ckT (t:=Qdx s) (by delta Qdx;infer_instance)
instance Zck (op:Int):Ck (Qbi op):=ckT (t:=Q7v op) (by delta Q7v;infer_instance)
instance Zc4 (s:List UInt8):Ck (Q2k s):=ckT (t:=Q68 s) (by delta Q68;infer_instance)
instance zk (what:List UInt8):Ck (Q4j what):=ckT (t:=Q93 what) (by delta Q93;infer_instance)
instance vw (s:List UInt8):Ck (Qe2 s):=ckT (t:=Qak s) (by delta Qak;infer_instance)
instance yk (l:List Q0c) (p:List UInt8):Ck (Q4h l p):=ckT (t:=Q94 l p) (by delta Q94;infer_instance)
instance qx (s:List UInt8):Ck (Qeq s):=ckT (t:=Qam s) (by delta Qam;infer_instance)
instance vk (l:List Q2) (label:List UInt8):Ck (Q2w l label):=let d:Decidable (Q2w l label):=(by delta Q2w;infer_instance);⟨@decide _ d,@oY _ d⟩
instance qM (src:List UInt8):Ck (Qh8 src):=ckT (t:=Qdw src) (by delta Qdw;infer_instance)
instance xM (st:Q06) (v:Int):Ck (Q87 st v):=ckT (t:=Qdr st v) (by delta Qdr;infer_instance)
instance Zcf (src:List UInt8):Ck (Qbm src):=ckT (t:=Q7w src) (by delta Q7w;infer_instance)
instance ql (c:Q0m) (b:Int):Ck (Qcp c b):=ckT (t:=Q9 c b) (by delta Q9;infer_instance)
instance Zcj (d0:Q0l) (m:List Int) (e:Q1x):Ck (Qb9 d0 m e):=ckT (t:=Q7x d0 m e) (by delta Q7x;infer_instance)
instance xx (n:Q1f) (m:List Int) (frame:List UInt8):Ck (Qds n m frame):=ckT (t:=Qaq n m frame) (by delta Qaq;infer_instance)
instance Zci (m:Q00) (e:Q1x):Ck (Qb7 m e):=ckT (t:=Q7u m e) (by delta Q7u;infer_instance)
instance xl (script:List Q1s):Ck (Q3k script):=let d:Decidable (Q3k script):=(by delta Q3k;infer_instance);⟨@decide _ d,@oY _ d⟩
instance xD (m:Q00) (script:List Q1s) (until0:Int):Ck (Qg7 m script until0):=ckT (t:=Qcc m script until0) (by delta Qcc;infer_instance)
instance yU (m:Q00) (script:List Q1s) (until0:Int):Ck (Qjb m script until0):=ckT (t:=Qgb m script until0) (by delta Qgb;infer_instance)
instance yM:Ck (Qhm):=ckT (t:=Qe8) (by delta Qe8;infer_instance)
instance vM:Ck (Q3r):=ckT (t:=Q9q) (by delta Q9q;infer_instance)
theorem zl:Q3r:=ck (ckT (t:=Q9q) (by delta Q9q;infer_instance)) (by kernel_rfl)
theorem Zbv:Qa5=true:=by kernel_rfl
theorem Qvx{β:Type}{V:β->Prop}{k:Bool->Tree β}(g:(k true).w V):(Tree.an Q3r (.lv Qa5 k)).w V:=w_an zl (w_lv λx e=>by rw[e,Zbv];exact g)
end
open Go.Op (bytesLess)
attribute [local irreducible] Qa5
def stepA(r:Q01)(o:Q03):Q01:=(Q8a r o).1
def runA(l:List Q03):Q01:=l.foldl stepA ⟨[],[]⟩
theorem vU{r:Q01}(h:okR r)(o:Q03):okR (stepA r o):=(Tree.pp (Z7l h o)).2.1
theorem Qv3:∀(l:List Q03) {r:Q01},okR r->okR (l.foldl stepA r)
 |[],_,h=>h
 |o::l,_,h=>Qv3 l (vU h o)
theorem Z0l(l:List Q03):okR (runA l):=Qv3 l xS
theorem Z9e{l:List Q03}{i:Nat}(h:i<l.length):runA (l.take (i+1))=stepA (runA (l.take i)) l[i]:=by
 unfold runA
 rw[eL h,List.foldl_append];rfl
theorem rec_w{l:List Q03}(hl:fitL l){t:List UInt8}(ht:Part l.length t)(htl:t.length<=100000){s:List UInt8}(hs:s=jrE l++t):(Q2g s).w λx=>x=(runA l,jrE l):=by
 have h1:=hl.1
 unfold Q2g
 refine Q0i (xg hl ht htl hs) λx hx=>?_
 subst hx
 refine w_lp (inv:=λv:Int×Q01=>∃i:Nat,i<=l.length/\v=((i:Int),runA (l.take i))) (μ:=Qc9 s) ⟨0,aT _,rfl⟩ (dQ _) ?_
 rintro _ ⟨i,hi,rfl⟩
 refine w_br (λhb=>?_) λhb=>?_
 ·have hb:i<l.length:=by have h:(i:Int)<(l.length:Int):=oY hb;omega
  obtain⟨p1,p2,p3⟩:=Tree.pp (Z7l (Z0l (l.take i)) (l.getD (dM (i:Int)) (RK.dflt RK.apiManage)))
  refine w_cn (gd4 hb rfl) (w_an p1 (w_lv λy hy=>?_))
  have hy:y=Q8a (runA (l.take i)) (l.getD (dM (i:Int)) (RK.dflt RK.apiManage)):=hy
  have e:y.1=runA (l.take (i+1)):=by rw[hy,atN hb,Z9e hb];rfl
  have m:(1000-wrap .i64 ((i:Int)+1)).toNat<(1000-(i:Int)).toNat:=by rw[w1 (by omega)];omega
  refine w_br (λq=>w_nx ⟨⟨i+1,hb,?_⟩,m⟩) λq=>w_nx ⟨⟨i+1,hb,?_⟩,m⟩
  ·show(wrap .i64 ((i:Int)+1),y.1)=_
   rw[e,w1 (by omega)]
  ·have k:y.1=runA (l.take i):=by rw[hy];exact p3 (by have:=bf q;rw[hy]at this;exact this)
   show(wrap .i64 ((i:Int)+1),runA (l.take i))=_
   rw[<-e,k,w1 (by omega)]
 ·have hb:¬i<l.length:=by have h:¬(i:Int)<(l.length:Int):=oN hb;omega
  refine w_cn (dY ?_) (w_lf ?_)
  ·show(0:Int)<=0/\0<=((jrE l).length:Int)/\((jrE l).length:Int)<=(s.length:Int)
   rw[hs,lA];omega
  ·show(runA (l.take i),dU (dM ((jrE l).length:Int)-dM 0) (dV (dM 0) s))=_
   rw[dW (by omega),Zb2,hs,eI]
theorem zD(l:List Q03)(i:Nat):∃u,jrE l=jrE (l.take i)++u:=by
 refine⟨jrF Q0g (0+(l.take i).length) ((l.drop i).map encF),?_⟩
 have:=zf Q0g 0 ((l.take i).map encF) ((l.drop i).map encF)
 rw[dO,<-bM,eZ]at this
 exact this
theorem zac{l:List Q03}(hl:fitL l)(c:Nat):∃t,(jrE l).take c=jrE (l.take (Q9z Q0g 0 (l.map encF) c))++t/\Part (Q9z Q0g 0 (l.map encF) c) t/\t.length<=1000:=by
 obtain⟨t,h1,h2⟩:=yf Q0g 0 (l.map encF) c
 have hw:=Z25 Q0g 0 (l.map encF) c
 rw[dO]at hw
 have:=hl.1
 refine⟨t,by rw[<-fI]at h1;exact h1,?_⟩
 rcases h2 with rfl|⟨b,m,hb,hm,rfl⟩
 ·exact⟨.inl rfl,aT _⟩
 ·obtain⟨o,ho,rfl⟩:=List.mem_map.1 hb
  have:=Qmf (hl.2 o ho).n
  rw[aX]at hm⊢
  refine⟨.inr ⟨_,m,by omega,hm,rfl⟩,?_⟩
  have:=(Qfl (n:=Q9z Q0g 0 (l.map encF) c) (by omega) (b:=encF o) (by omega)).2.1
  have hm:m<(recE (Q9z Q0g 0 (l.map encF) c) (encF o)).length:=hm
  rw[bD];omega
def endJ(l:List Q03)(j:Nat):Nat:=(jrE (l.take (j+1))).length
theorem yD{l:List Q03}{c i:Nat}(hi:i<=l.length)(a:∀j,j<i->endJ l j<=c)(b:i=l.length\/¬endJ l i<=c):Q9z Q0g 0 (l.map encF) c=i:=by
 have W:∀j,j<l.length->(endJ l j<=c↔j<Q9z Q0g 0 (l.map encF) c):=λj hj=>by
  rw[<-Z4r Q0g 0 (l.map encF) c j (by rw[dO];exact hj),<-fI];rfl
 have hw:=Z25 Q0g 0 (l.map encF) c
 rw[dO]at hw
 rcases Nat.lt_trichotomy (Q9z Q0g 0 (l.map encF) c) i with h|h|h
 ·have:=(W _ (by omega)).1 (a _ h);omega
 ·exact h
 ·have:=(W i (by omega)).2 h
  rcases b with b|b
  ·omega
  ·exact absurd this b
theorem xV{n k:Int}(hk:0<k)(hb:k<=1000000):(Q5r n k).w λr=>0<=r/\r<k:=by
 have e:(n.tmod k).natAbs<k.natAbs:=by rw[fJ];exact dE _ (by omega)
 unfold Q5r
 refine w_cn (dY (by omega)) (w_br (λq=>w_lf ?_) λq=>w_lf ?_)
 ·have q:=oY q
  rw[wi (by omega) (by omega)];omega
 ·have q:=oN q
  omega
theorem tm{a k:Int}(hk:0<k)(hb:k<=1000000): -9223372036854775808<=a.tmod k/\a.tmod k<=9223372036854775807:=by
 have e:(a.tmod k).natAbs<k.natAbs:=by rw[fJ];exact dE _ (by omega)
 omega
theorem kc(a:Int)(h: -9223372036854775808<=a/\a<=9223372036854775807): -9223372036854775808<=a/\a<=9223372036854775807:=h
theorem wr(a:Int): -9223372036854775808<=wrap .i64 a/\wrap .i64 a<=9223372036854775807:=by rw[wrap_i64];omega
def endL(l:List Q03)(i:Nat):List Int:=(List.range i).map λj=>(endJ l j:Int)
theorem Qkf(l:List Q03)(i:Nat):(endL l i).length=i:=by unfold endL;rw[dO,List.length_range]
theorem Z1x{l:List Q03}{n j:Nat}(h:j<n):(endL l n).getD (dM (j:Int)) 0=(endJ l j:Int):=by
 rw[dD,dP,cI (by rw[Qkf];exact h)]
 unfold endL
 simp
theorem yl(l:List Q03)(i:Nat):endL l (i+1)=endL l i++[(endJ l i:Int)]:=by
 unfold endL;rw[List.range_succ,bM];rfl
structure fitM(o:Q03):Prop where
 k: -9223372036854775808<=o.C5/\o.C5<=9223372036854775807
 a: -9223372036854775808<=o.A/\o.A<=9223372036854775807
 b: -9223372036854775808<=o.B/\o.B<=9223372036854775807
 d1: -9223372036854775808<=o.A3.B9/\o.A3.B9<=9223372036854775807
 d2: -9223372036854775808<=o.A3.D3/\o.A3.D3<=9223372036854775807
 d3: -9223372036854775808<=o.A3.A7/\o.A3.A7<=9223372036854775807
 d4: -9223372036854775808<=o.A3.C7/\o.A3.C7<=9223372036854775807
 c1: -9223372036854775808<=o.B1.C0/\o.B1.C0<=9223372036854775807
 c2: -9223372036854775808<=o.B1.A7/\o.B1.A7<=9223372036854775807
theorem fitM.o{o:Q03}(h:fitM o)(n:o.B8.length<=20):fitO o:=⟨h.k,n,h.a,h.b,h.d1,h.d2,h.d3,h.d4,h.c1,h.c2⟩
theorem law_w{l:List Q03}(made:List Int)(cut:Int)(hl: ∀o∈l,fitM o):(Q66 l made cut).w λb=>b=true:=by
  unfold Q66
  refine w_br (λ_=>Qvx (w_lf rfl)) λq1=>w_br (λ_=>Qvx (w_lf rfl)) λq2=> ?_
  have l12:l.length<=12:=by have:=oN q1;omega
  have m15:made.length<=15:=by have:=oN q2;omega
  refine w_lp (inv:=λv:Int=> ∃i:Nat,v=i/\i<=l.length/\ ∀o∈l.take i,o.B8.length<=20) (μ:=Qcx l made cut) ⟨0,rfl,aT _,by simp⟩ (dQ _) ?_
  rintro _ ⟨i,rfl,hi,hn⟩
  refine w_br (λhb=> ?_) λhb=> ?_
  . have hb:i<l.length:=by have:=oY hb;omega
    refine w_cn (gd4 hb rfl) (w_br (λ_=>Qvx (w_lf rfl)) λq=>w_nx ?_)
    rw[atN hb]at q
    have q:=oN q
    exact⟨⟨i+1,w1 (by omega),hb,Qtm (P:=λo:Q03=>o.B8.length<=20) hb hn (by omega)⟩,Qsc hb (by omega)⟩
  have hb: ¬i<l.length:=by have:=oN hb;omega
  rw[dW (by omega)]at hn
  refine w_cn (dY (by omega)) ?_
  refine w_lp (inv:=λv:Int×List Q03=> ∃i:Nat,v.1=i/\i<=made.length/\v.2.length=l.length+i/\ ∀o∈v.2,fitO o) (μ:=Qd l made cut) ⟨0,rfl,aT _,rfl,λo ho=>(hl o ho).o (hn o ho)⟩ (dQ _) ?_
  rintro⟨_,all⟩ ⟨i,rfl,hi,hal,haf⟩
  have hal:all.length=l.length+i:=hal
  refine w_br (λhb=> ?_) λhb=> ?_
  . have hb:i<made.length:=by have h:(i:Int)<(made.length:Int):=oY hb;omega
    refine w_cn (gd4 hb rfl) (w_lv λx hx=>w_cn (dY (by show 96*(all.length+1)<=_;omega)) (w_nx ⟨⟨i+1,w1 (by omega),hb,?_,?_⟩,Qsc hb (by omega)⟩))
    . show(all++[_]).length=_
      rw[lA,dS];omega
    . intro o ho
      rcases List.mem_append.1 ho with ho|ho
      . exact haf o ho
      . rw[List.mem_singleton.1 ho]
        exact⟨wr _,(by decide:(1:Nat)<=20),tm (by decide) (by decide),tm (by decide) (by decide),tm (by decide) (by decide),kc 9 (by decide),tm (by decide) (by decide),kc 0 (by decide),kc 10 (by decide),kc 8 (by decide)⟩
  have a27:all.length<=27:=by omega
  have haf: ∀o∈all,fitO o:=haf
  have fT: ∀j,fitL (all.take j):=λj=>⟨by rw[bD];omega,λo ho=>haf o (eS ho)⟩
  have fA:fitL all:=⟨by omega,haf⟩
  refine w_lp (inv:=λv:List UInt8×Int×List Int=> ∃i:Nat,i<=all.length/\v=(jrE (all.take i),(i:Int),endL all i)/\ ∀j (h:j<all.length),j<i->Q3w (jrE (all.take j)) all[j]=(jrE (all.take (j+1)),true)) (μ:=Qct l made cut) ⟨0,aT _,rfl,λj _ k=>absurd k (dZ _)⟩ (dQ _) ?_
  rintro _ ⟨i,hi,rfl,hap⟩
  refine w_br (λhb=> ?_) λhb=> ?_
  . have hb:i<all.length:=by have h:(i:Int)<(all.length:Int):=oY hb;omega
    have es:all.take i++[all[i]]=all.take (i+1):=by rw[eL hb]
    have aw:=Z9t (fT i) (haf _ (eK hb))
    rw[es]at aw
    have an:Q4v (jrE (all.take i)) (all.getD (dM (i:Int)) (RK.dflt RK.apiManage)):=by rw[atN hb];exact(Tree.pp aw).1
    refine w_cn (gd4 hb rfl) (w_an an (w_lv λx hx=> ?_))
    have hx:x=Q3w (jrE (all.take i)) (all.getD (dM (i:Int)) (RK.dflt RK.apiManage)):=hx
    rw[atN hb]at hx
    refine w_br (λ_=>Qvx (w_lf rfl)) λq=> ?_
    have e:Q3w (jrE (all.take i)) all[i]=(jrE (all.take (i+1)),true):=by
      rcases(Tree.pp aw).2 with h|h
      . rw[hx,show Q3w (jrE (all.take i)) all[i]=(jrE (all.take i),false) from h]at q;cases q
      . exact h
    rw[e]at hx
    subst hx
    refine w_cn (dY (by show 8*((endL all i).length+1)<=_;rw[Qkf];omega)) (w_nx ⟨⟨i+1,hb,?_,?_⟩,?_⟩)
    . show(jrE (all.take (i+1)),wrap .i64 ((i:Int)+1),endL all i++[((jrE (all.take (i+1))).length:Int)])=_
      rw[w1 (by omega),yl];rfl
    . intro j h k
      by_cases z:j=i
      . subst z;exact e
      . exact hap j h (by omega)
    . show(1000-wrap .i64 ((i:Int)+1)).toNat<(1000-(i:Int)).toNat
      rw[w1 (by omega)];omega
  have hb:i=all.length:=by have h: ¬(i:Int)<(all.length:Int):=oN hb;omega
  subst hb
  rw[eN]
  have jl:(jrE all).length<=180*all.length:=Qzl 0 all (by omega) haf
  have ew:wrap .i64 (((jrE all).length:Int)+1)=(((jrE all).length+1:Nat):Int):=by rw[wi (by omega) (by omega)];omega
  have rw':(Q5r cut (wrap .i64 (((jrE all).length:Int)+1))).w λr=>0<=r/\r<(((jrE all).length+1:Nat):Int):=by rw[ew];exact xV (by omega) (by omega)
  refine Q0i rw' λc hc=> ?_
  obtain⟨c,rfl⟩: ∃n:Nat,c=n:=⟨c.toNat,by omega⟩
  have hc:c<=(jrE all).length:=by omega
  have rA:(Q2g (jrE all)).w λx=>x=(runA all,jrE all):=rec_w fA (t:=[]) (.inl rfl) (aT _) (cL _).symm
  refine w_lp (inv:=λv:Int=> ∃i:Nat,v=i/\i<=all.length/\ ∀j,j<i->endJ all j<=c) (μ:=Qcz l made cut) ⟨0,rfl,aT _,λj k=>absurd k (dZ _)⟩ (dQ _) ?_
  rintro _ ⟨w,rfl,hw,hle⟩
  refine w_br (λhb=>w_cn ?_ (w_br (λq=>w_nx ?_) λq=> ?_)) λhb=> ?_
  . rw[Qkf]at hb⊢
    exact gd4 (by have:=oY hb;omega) rfl
  . rw[Qkf]at hb
    have hb:w<all.length:=by have:=oY hb;omega
    have q:(endL all all.length).getD (dM (w:Int)) 0<=(c:Int):=oY q
    rw[Z1x hb]at q
    refine⟨⟨w+1,w1 (by omega),hb,λj k=> ?_⟩,?_⟩
    . by_cases z:j=w
      . subst z;omega
      . exact hle j (by omega)
    . show(1000-wrap .i64 ((w:Int)+1)).toNat<(1000-(w:Int)).toNat
      rw[w1 (by omega)];omega
  all_goals
    have hx:w=all.length\/ ¬endJ all w<=c:=by
      rw[Qkf]at hb
      first
        | (have hb:w<all.length:=by have:=oY hb;omega
           have q: ¬(endL all all.length).getD (dM (w:Int)) 0<=(c:Int):=oN q
           rw[Z1x hb]at q
           exact .inr (by omega))
        |exact .inl (by have:=oN hb;omega)
    have hW:=yD hw hle hx
    obtain⟨t,ht1,ht2,ht3⟩:=zac fA c
    rw[hW]at ht1 ht2
    have tl:(all.take w).length=w:=by rw[bD];omega
    have rC:(Q2g (dU (dM (c:Int)-dM 0) (dV (dM 0) (jrE all)))).w λx=>x=(runA (all.take w),jrE (all.take w)):=by
      rw[Zb2]
      exact rec_w (fT w) (by rw[tl];exact ht2) (by omega) ht1
    refine w_cn (dY (by show(0:Int)<=0/\(0:Int)<=(c:Int)/\(c:Int)<=((jrE all).length:Int);omega)) (Q0i rC λx7 h7=> ?_)
    subst h7
    refine w_lp (inv:=λv:Int×Q01=> ∃i:Nat,i<=w/\v=((i:Int),runA (all.take i))) (μ:=Qcy l made cut) ⟨0,aT _,rfl⟩ (dQ _) ?_
    rintro _ ⟨i,hi,rfl⟩
    refine w_br (λhb=> ?_) λhb=> ?_
    . have hb:i<w:=by have h:(i:Int)<(w:Int):=oY hb;omega
      have hb2:i<all.length:=by omega
      refine w_cn (gd4 hb2 rfl) (w_an (Tree.pp (Z7l (Z0l (all.take i)) (all.getD (dM (i:Int)) (RK.dflt RK.apiManage)))).1 (w_lv λy hy=>w_nx ⟨⟨i+1,hb,?_⟩,?_⟩))
      . have hy:y=Q8a (runA (all.take i)) (all.getD (dM (i:Int)) (RK.dflt RK.apiManage)):=hy
        rw[atN hb2]at hy
        show(wrap .i64 ((i:Int)+1),y.1)=_
        rw[w1 (by omega),Z9e hb2,hy];rfl
      . show(1000-wrap .i64 ((i:Int)+1)).toNat<(1000-(i:Int)).toNat
        rw[w1 (by omega)];omega
    have hb: ¬i<w:=by have h: ¬(i:Int)<(w:Int):=oN hb;omega
    have hiw:i=w:=by omega
    subst hiw
    refine Q0i (Qus _) λx9 h9=>w_br (λq=>absurd (h9.2 (Z0l _)) (bT q)) λ_=>Q0i (xK (Z0l _)) λx10 h10=>w_br (λq=>absurd h10 (bT q)) λ_=> ?_
    have ez:all.take 0=[]:=rfl
    refine w_br (λhp=>w_cn ?_ (w_cn ?_ (w_br (λq=> ?_) λ_=>w_br (λhz=>w_br (λq=> ?_) λ_=> ?_) λhz=> ?_))) (λhp=>w_br (λhz=>w_br (λq=> ?_) λ_=> ?_) λhz=> ?_)
    . have hp:(i:Int)>0:=oY hp
      have e:wrap .i64 ((i:Int)-1)=((i-1:Nat):Int):=by rw[wi (by omega) (by omega)];omega
      rw[Qkf,e]
      exact gd4 (show i-1<all.length by omega) rfl
    . have hp:(i:Int)>0:=oY hp
      have e:wrap .i64 ((i:Int)-1)=((i-1:Nat):Int):=by rw[wi (by omega) (by omega)];omega
      have:=hle (i-1) (by omega)
      refine dY ?_
      rw[e,Z1x (show i-1<all.length by omega)]
      show(0:Int)<=0/\(0:Int)<=(endJ all (i-1):Int)/\(endJ all (i-1):Int)<=((jrE all).length:Int)
      omega
    . have hp:(i:Int)>0:=oY hp
      have e:wrap .i64 ((i:Int)-1)=((i-1:Nat):Int):=by rw[wi (by omega) (by omega)];omega
      have q:(!decide (jrE (all.take i)=dU (dM ((endL all all.length).getD (dM (wrap .i64 ((i:Int)-1))) 0)-dM 0) (dV (dM 0) (jrE all))))=true:=q
      rw[e,Z1x (show i-1<all.length by omega),Zb2]at q
      unfold endJ at q
      rw[show i-1+1=i by omega]at q
      obtain⟨u,hu⟩:=zD all i
      rw[hu,eI,dY rfl]at q
      exact(eG q).elim
    . have hp:(i:Int)>0:=oY hp
      have hz:(i:Int)=0:=bt hz
      omega
    rotate_left 2
    . have hz:(i:Int)=0:=bt hz
      have hz:i=0:=by omega
      have q:(!decide (jrE (all.take i)=[]))=true:=q
      rw[hz,show jrE (all.take 0)=[] from rfl,dY rfl]at q
      exact(eG q).elim
    all_goals
      refine w_lp (inv:=λv:List UInt8×Int=> ∃j:Nat,j<=all.length/\v=(jrE (all.take j),(j:Int))) (μ:=Qd5 l made cut) ⟨i,hw,rfl⟩ (dQ _) ?_
      rintro _ ⟨j,hj,rfl⟩
      refine w_br (λhb=> ?_) λhb=> ?_
      . have hb:j<all.length:=by have h:(j:Int)<(all.length:Int):=oY hb;omega
        have aw:=Z9t (fT j) (haf _ (eK hb))
        have an:Q4v (jrE (all.take j)) (all.getD (dM (j:Int)) (RK.dflt RK.apiManage)):=by rw[atN hb];exact(Tree.pp aw).1
        refine w_cn (gd4 hb rfl) (w_an an (w_lv λy hy=>w_nx ⟨⟨j+1,hb,?_⟩,?_⟩))
        . have hy:y=Q3w (jrE (all.take j)) (all.getD (dM (j:Int)) (RK.dflt RK.apiManage)):=hy
          rw[atN hb,hap j hb hb]at hy
          show(y.1,wrap .i64 ((j:Int)+1))=_
          rw[w1 (by omega),hy]
        . show(1000-wrap .i64 ((j:Int)+1)).toNat<(1000-(j:Int)).toNat
          rw[w1 (by omega)];omega
      have hb:j=all.length:=by have h: ¬(j:Int)<(all.length:Int):=oN hb;omega
      subst hb
      have rB:(Q2g (jrE (all.take all.length))).w λx=>x=(runA all,jrE all):=by rw[eN];exact rA
      refine Q0i rA λy hy=>Q0i rB λz hz=> ?_
      subst hy
      subst hz
      refine w_br (λ_=>w_br (λ_=>Q0i (xK (Z0l all)) λu hu=>w_br (λ_=>Q0i (Qus (runA all)) λv hv=>w_br (λ_=>Qvx (w_lf rfl)) λq=>absurd (hv.2 (Z0l all)) (no q)) λq=>absurd hu (no q)) λq=>absurd rfl (oN q)) λq=>absurd ?_ (oN q)
      show jrE (all.take all.length)=jrE all
      rw[eN]
theorem Q7t{t:STy}{ts:List STy}{es:List D}(h:Fits (t::ts) es):∃d ds,es=d::ds/\Fit t d/\Fits ts ds:=by
 cases es with
 |nil=>exact absurd h (by simp[Fits])
 |cons d ds=>unfold Fits at h;exact⟨d,ds,rfl,h.1,h.2⟩
theorem qE{es:List D}(h:Fits [] es):es=[]:=by
 cases es with
 |nil=>rfl
 |cons d ds=>exact absurd h (by simp[Fits])
theorem Sub1.gens{k:RK}{es:List (List D)}{fr:Bool}{l:List (RK.T k)}(h:es=l.map (RK.cells k)):Sub1 (.sl k.size (.gen es) fr) (.sl k.size (.recs k l) false):=by
 intro c w v hv
 obtain⟨a,cap,hv,hc,hes⟩:=hv
 have he:(Els.gen es).l=(Els.recs k l).l:=by subst h;rfl
 rw[he]at hv hc hes
 refine⟨a,cap,hv,hc,?_⟩
 rcases hes with hes|⟨b,off,arr,ty,fz,ha,hI,hf,hh,hE⟩
 ·exact .inl hes
 ·exact .inr ⟨b,off,arr,ty,fz,ha,hI,(λe=>by cases e),hh,hE⟩
theorem SubL.rfl:∀{l:List D},SubL l l
 |[]=>trivial
 |_::_=>⟨Sub1.rfl,SubL.rfl⟩
theorem Qo9{x:Int}(h:i64.min<=x/\x<=i64.max): -9223372036854775808<=x/\x<=9223372036854775807:=h
theorem Zbp{d:D}(h:Fit (.sl [.int .i64,.str,.int .i64,.int .i64,.int .i64,.int .i64,.int .i64,.int .i64,.int .i64,.int .i64,.bool]) d):∃l:List Q03,SubV d (.sl 11 (.recs .apiManage l) false)/\∀a∈l,fitM a:=by
 unfold Fit at h
 obtain⟨es,rfl,hl,h⟩:=h
 clear hl
 have:∃l:List Q03,es=l.map (RK.cells .apiManage)/\∀a∈l,fitM a:=by
  induction es with
  |nil=>exact⟨[],rfl,λa ha=>by cases ha⟩
  |cons x es ih=>
   obtain⟨l,h1,h2⟩:=ih (λe he=>h e (by simp[he]))
   obtain⟨d0,e0,rfl,h0,H0⟩:=Q7t (h x (by simp))
   obtain⟨x0,rfl,b0⟩:=Qfy h0
   obtain⟨d1,e1,rfl,g1,H1⟩:=Q7t H0
   obtain⟨x1,rfl,_⟩:=zQ g1
   obtain⟨d2,e2,rfl,g2,H2⟩:=Q7t H1
   obtain⟨x2,rfl,b2⟩:=Qfy g2
   obtain⟨d3,e3,rfl,g3,H3⟩:=Q7t H2
   obtain⟨x3,rfl,b3⟩:=Qfy g3
   obtain⟨d4,e4,rfl,g4,H4⟩:=Q7t H3
   obtain⟨x4,rfl,b4⟩:=Qfy g4
   obtain⟨d5,e5,rfl,g5,H5⟩:=Q7t H4
   obtain⟨x5,rfl,b5⟩:=Qfy g5
   obtain⟨d6,e6,rfl,g6,H6⟩:=Q7t H5
   obtain⟨x6,rfl,b6⟩:=Qfy g6
   obtain⟨d7,e7,rfl,g7,H7⟩:=Q7t H6
   obtain⟨x7,rfl,b7⟩:=Qfy g7
   obtain⟨d8,e8,rfl,g8,H8⟩:=Q7t H7
   obtain⟨x8,rfl,b8⟩:=Qfy g8
   obtain⟨d9,e9,rfl,g9,H9⟩:=Q7t H8
   obtain⟨x9,rfl,b9⟩:=Qfy g9
   obtain⟨d10,e10,rfl,g10,H10⟩:=Q7t H9
   obtain⟨x10,rfl⟩:=qA g10
   obtain rfl:=qE H10
   refine⟨⟨x0,x1,x2,x3,⟨x4,x5,x6,x7⟩,⟨x8,x9,x10⟩⟩::l,by rw[h1];rfl,λq hq=>?_⟩
   rcases List.mem_cons.1 hq with hq|hq
   ·rw[hq];exact⟨Qo9 b0,Qo9 b2,Qo9 b3,Qo9 b4,Qo9 b5,Qo9 b6,Qo9 b7,Qo9 b8,Qo9 b9⟩
   ·exact h2 q hq
 obtain⟨l,rfl,h2⟩:=this
 exact⟨l,Sub1.gens (k:=.apiManage) rfl,h2⟩
