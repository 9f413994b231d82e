/- An atom that stands as it should stays as it is: plain laws. -/
import Derived.Test.YtlldghknenbccaaGreatDoorPBuiltsB
set_option linter.unusedSimpArgs false
set_option linter.unusedVariables false
namespace Go.Proofs.Q
section
variable {m d:Int} {c f:Int→Int} {X T:aW} {zs:List Int} {l:aT} {g:Nat} {p:Int × Int} {no:Bool}
theorem cmpZ_anti (a b:Int):cmpZ b a=- cmpZ a b:=by
 unfold cmpZ;by_cases h1:a<b
 ·rw [if_neg (show ¬b<a by omega),if_pos h1,if_pos h1];rfl
 ·by_cases h2:b<a
  ·rw [if_pos h2,if_neg h1,if_pos h2]
  ·rw [if_neg h2,if_neg h1,if_neg h1,if_neg h2];rfl
theorem cmpL_anti:∀a b:aT,cmpL b a=- cmpL a b
 | [],[]=>rfl
 | [],_::_=>rfl
 | _::_,[]=>rfl
 | p::a,q::b=>by
  have ih:=cmpL_anti a b;have hz:=cmpZ_anti p.2 q.2;simp only [cmpL];rw [hz,ih];by_cases h1:p.1<q.1
  ·rw [if_neg (show ¬q.1<p.1 by omega),if_pos h1,if_pos h1];rfl
  ·by_cases h2:q.1<p.1
   ·rw [if_pos h2,if_neg h1,if_pos h2]
   ·rw [if_neg h2,if_neg h1,if_neg h1,if_neg h2];by_cases h3:cmpZ p.2 q.2=0
    ·rw [if_neg (show ¬(-cmpZ p.2 q.2≠0) by omega),if_neg (show ¬(cmpZ p.2 q.2≠0) by omega)]
    ·rw [if_pos (show -cmpZ p.2 q.2≠0 by omega),if_pos h3]
theorem cmpT_anti (a b:aW):cmpT b a=- cmpT a b:=by
 unfold cmpT;rw [cmpL_anti a.parts b.parts,cmpZ_anti a.k b.k];by_cases h:cmpL a.parts b.parts=0
 ·rw [if_neg (show ¬(-cmpL a.parts b.parts≠0) by omega),if_neg (show ¬(cmpL a.parts b.parts≠0) by omega)]
 ·rw [if_pos (show -cmpL a.parts b.parts≠0 by omega),if_pos h]
theorem dvd_gcdL {d:Nat} (h:∀z∈zs,(d:Int)∣z):d∣gcdL zs:=by
 have hd:∀(l:List Int) (a:Nat),d∣a→(∀z∈l,(d:Int)∣z)→d∣l.foldl (fun a z=>Nat.gcd a z.natAbs) a:=by
  intro l;induction l with
  | nil=>intro a ha _;exact ha
  | cons y l ih=>
   intro a ha hl;rw [List.foldl_cons];exact ih _ (Nat.dvd_gcd ha (Int.ofNat_dvd_left.1 (hl y (kZ1 ..)))) fun z hz=>hl z (lZ1 _ hz)
 exact hd zs 0 (Nat.dvd_zero d) h
theorem gcdL_quot (hg:g=gcdL zs) (h0:0<g):gcdL (zs.map fun z=>z.fdiv (g:Int))=1:=by
 obtain ⟨h,hh⟩:∃h,h=gcdL (zs.map fun z=>z.fdiv (g:Int)):=⟨_,rfl⟩;have h1:h*g∣gcdL zs:=dvd_gcdL fun z hz=>by
  have q1:=gcdL_dvd _ _ (iZ2.2 ⟨z,hz,rfl⟩:z.fdiv (g:Int)∈zs.map fun z=>z.fdiv (g:Int));rw [←hh] at q1;obtain ⟨k,hk⟩:=q1;have q2:(g:Int)∣z:=hg ▸ gcdL_dvd zs z hz;obtain ⟨t,ht⟩:=q2;have e:z.fdiv (g:Int)=t:=by rw [ht];exact Int.mul_fdiv_cancel_left t (by omega)
  refine ⟨k,?_⟩;rw [ht,←e,hk,Int.natCast_mul,Int.mul_comm (h:Int) (g:Int),Int.mul_assoc]
 rw [←hg] at h1;rw [←hh];have h2:h*g≤g:=Nat.le_of_dvd h0 h1;have h3:h≤1:=Nat.le_of_mul_le_mul_right (show h*g≤1*g by omega) h0;have h4:h≠0:=fun e=>by rw [e,Nat.zero_mul] at h1;have:=Nat.eq_zero_of_zero_dvd h1;omega
 omega
theorem mapL_id (h:∀p∈l,c p.2=p.2):mapL c l=l:=by
 induction l with
 | nil=>rfl
 | cons p l ih=>
  simp only [mapL,dZ2] at ih⊢;rw [ih fun q hq=>h q (lZ1 _ hq),h p (kZ1 ..)]
theorem mapL_mapL (c f:Int→Int) (l:aT):mapL c (mapL f l)=mapL (fun x=>c (f x)) l:=by simp [mapL]
theorem mapL_congr (h:∀p∈l,c p.2=f p.2):mapL c l=mapL f l:=by
 induction l with
 | nil=>rfl
 | cons p l ih=>
  simp only [mapL,dZ2] at ih⊢;rw [ih fun q hq=>h q (lZ1 _ hq),h p (kZ1 ..)]
theorem mulL_mapL (x:Int) (l:aT):mulL x l=mapL (fun c=>x*c) l:=rfl
theorem mem_mapL:p∈mapL c l↔∃q∈l,(q.1,c q.2)=p:=by simp [mapL]
theorem neat_mapL (h:l.Pairwise (fun a b=>a.1<b.1)) (hc:∀p∈l,c p.2≠0):Neat (mapL c l):=⟨rising_mapL h c,fun p hp=>by obtain ⟨q,hq,rfl⟩:=mem_mapL.1 hp;exact hc q hq⟩
theorem mappedV_neat (h:T.parts.Pairwise (fun a b=>a.1<b.1)) (hc:∀p∈T.parts,c p.2≠0):mappedV T c f=⟨mapL c T.parts,f T.k⟩:=normT_neat (T:=⟨mapL c T.parts,f T.k⟩) (neat_mapL h hc)
theorem coefs_mapL (c:Int→Int) (l:aT) (k:Int):cE ⟨mapL c l,k⟩=(cE ⟨l,k⟩).map c:=by simp [cE,mapL]
theorem fdiv_ne {c:Int} (h0:0<g) (hd:(g:Int)∣c) (hc:c≠0):c.fdiv (g:Int)≠0:=by
 obtain ⟨t,rfl⟩:=hd;rw [Int.mul_fdiv_cancel_left t (by omega)];rintro rfl;exact hc (Int.mul_zero _)
theorem lessV_idem (h:Neat T.parts) (hk:2≤(lessV T).kind):lessV (bR (lessV T).t)=lessV T:=by
 unfold lessV at hk⊢;by_cases hn:T.parts=[]
 ·rw [if_pos hn] at hk;unfold eA at hk;simp only at hk;split at hk<;>omega
 rw [if_neg hn] at hk⊢;obtain ⟨g,hg⟩:∃g,g=gcdL (cE T):=⟨_,rfl⟩;rw [←hg];obtain ⟨p0,hp0⟩:=List.exists_mem_of_ne_nil _ hn;have h0:0<g:=hg ▸ gcdL_pos ⟨p0.2,iZ2.2 ⟨p0,hp0,rfl⟩,h.some p0 hp0⟩;have hdv:∀p∈T.parts,(g:Int)∣p.2:=fun p hp=>hg ▸ gcdL_dvd _ _ (iZ2.2 ⟨p,hp,rfl⟩);have hne:∀p∈T.parts,p.2.fdiv (g:Int)≠0:=fun p hp=>fdiv_ne h0 (hdv p hp) (h.some p hp);rw [mappedV_neat h.rising hne];have hN:=neat_mapL (c:=fun c=>c.fdiv (g:Int)) h.rising hne;simp only;rw [normT_neat (T:=⟨mapL (fun c=>c.fdiv (g:Int)) T.parts,(T.k-1).fdiv (g:Int)+1⟩) hN];have h1:gcdL (cE ⟨mapL (fun c=>c.fdiv (g:Int)) T.parts,(T.k-1).fdiv (g:Int)+1⟩)=1:=by
  rw [coefs_mapL];exact gcdL_quot (zs:=cE ⟨T.parts,_⟩) hg h0
 rw [if_neg (by simp only;intro e;exact hn (by simpa [mapL] using e)),h1];rw [mappedV_neat hN.rising fun p hp=>by rw [show ((1:Nat):Int)=1 from rfl,Int.fdiv_one];exact hN.some p hp];rw [mapL_id fun p _=>by rw [show ((1:Nat):Int)=1 from rfl,Int.fdiv_one]];simp only [show ((1:Nat):Int)=1 from rfl,Int.fdiv_one];congr 2;omega
structure StdM (m:Int) (X:aW):Prop where
 neat:Neat X.parts
 mid:∀p∈X.parts,0<p.2∧p.2<m
 k:0≤X.k∧X.k<m
 some:X.parts≠[]
 gcd:gcdL (cE X++[m])=1
def negM (m:Int) (X:aW):aW:=⟨mapL (fun c=>m-c) X.parts,if X.k=0 then 0 else m-X.k⟩
theorem fmod_neg {x:Int} (h0:0<x) (h1:x<m):(-x).fmod m=m-x:=by
 rw [Int.fmod_eq_emod_of_nonneg _ (by omega),show -x=(m-x)+m*(-1) by omega,Int.add_mul_emod_self_left];exact Int.emod_eq_of_lt (by omega) (by omega)
theorem StdM.neg (h:StdM m X):StdM m (negM m X):=by
 have hm:∀p∈X.parts,m-p.2≠0:=fun p hp=>by have:=h.mid p hp;omega
 refine ⟨neat_mapL h.neat.rising hm,fun p hp=>?_,?_,fun e=>h.some (by simpa [negM,mapL] using e),?_⟩
 ·obtain ⟨q,hq,rfl⟩:=mem_mapL.1 hp;have:=h.mid q hq;simp only;omega
 ·have:=h.k;unfold negM;simp only;split<;>omega
 ·obtain ⟨g,hg⟩:∃g,g=gcdL (cE (negM m X)++[m]):=⟨_,rfl⟩;rw [←hg];have hd:=gcdL_dvd (cE (negM m X)++[m]);rw [←hg] at hd;have hgm:(g:Int)∣m:=hd m (by simp);have h1:g∣gcdL (cE X++[m]):=dvd_gcdL fun z hz=>by
   rcases jZ1.1 hz with hz|hz
   ·obtain ⟨p,hp,rfl⟩:=iZ2.1 hz;have h2:=hd (m-p.2) (jZ1.2 (.inl (iZ2.2 ⟨(p.1,m-p.2),mem_mapL.2 ⟨p,hp,rfl⟩,rfl⟩)));have h3:=Int.dvd_sub hgm h2;rwa [show m-(m-p.2)=p.2 by omega] at h3
   ·rw [dZ1.1 hz];exact hgm
  rw [h.gcd] at h1;exact Nat.dvd_one.1 h1
theorem negM_negM (h:StdM m X):negM m (negM m X)=X:=by
 obtain ⟨l,k⟩:=X;unfold negM;simp only;rw [mapL_mapL,mapL_id fun p _=>by omega];have:=h.k;simp only at this;congr 1;by_cases hk:k=0
 ·rw [if_pos hk,if_pos rfl,hk]
 ·rw [if_neg hk,if_neg (by omega)];omega
theorem partT_std (h:StdM m X):partT m X=X:=by
 have e:∀p∈X.parts,p.2.fmod m=p.2:=fun p hp=>Int.fmod_eq_of_lt (by have:=h.mid p hp;omega) (h.mid p hp).2;unfold partT;rw [mappedV_neat h.neat.rising fun p hp=>by rw [e p hp];exact h.neat.some p hp,mapL_id e,Int.fmod_eq_of_lt h.k.1 h.k.2]
theorem partG_std (h:StdM m X):partG m X=1:=by unfold partG;rw [partT_std h];exact h.gcd
theorem partC_std (h:StdM m X):dQ m X=X:=by
 unfold dQ;rw [partT_std h,partG_std h];have e:∀p∈X.parts,p.2.fdiv ((1:Nat):Int)=p.2:=fun p _=>Int.fdiv_one _;rw [mappedV_neat h.neat.rising fun p hp=>by rw [e p hp];exact h.neat.some p hp,mapL_id e,show X.k.fdiv ((1:Nat):Int)=X.k from Int.fdiv_one _]
theorem partD_std (h:StdM m X):partD m X=m:=by unfold partD;rw [partG_std h];exact Int.fdiv_one _
theorem partT_neg (h:StdM m X):partT m (sumT (-1) X 0 bH)=negM m X:=by
 rw [sumT_neg X h.neat,mulL_mapL];have e:∀p∈X.parts,((-1)*p.2).fmod m=m-p.2:=fun p hp=>by rw [show (-1)*p.2=-p.2 by omega];exact fmod_neg (h.mid p hp).1 (h.mid p hp).2
 unfold partT;rw [mappedV_neat (rising_mapL h.neat.rising _) fun p hp=>by
  obtain ⟨q,hq,rfl⟩:=mem_mapL.1 hp;have h1:=e q hq;have h2:=h.mid q hq;simp only at h1⊢;omega]
 simp only;rw [mapL_mapL,mapL_congr (f:=fun c=>m-c) e];unfold negM;congr 1;have hk:=h.k;by_cases h0:X.k=0
 ·rw [if_pos h0,h0];exact Int.zero_fmod m
 ·rw [if_neg h0];exact fmod_neg (by omega) hk.2
theorem partO_std (h:StdM m X):partO m X=negM m X:=by unfold partO;rw [partC_std h,partD_std h];exact partT_neg h
theorem std_partC (h0:0<d) (hT:Neat T.parts) (h1:(partT d T).parts≠[]) (h2:(partT d T).k.fmod (partG d T:Int)=0):StdM (partD d T) (dQ d T):=by
 have hg:=partG_pos (T:=T) h0;obtain ⟨m,hm⟩:=partG_dvd d T;have hD:partD d T=m:=by unfold partD;rw (occs:=.pos [1]) [hm];exact Int.mul_fdiv_cancel_left m (by omega)
 have hPn:Neat (partT d T).parts:=neat_neatL _;have hmid:∀p∈(partT d T).parts,0<p.2∧p.2<d:=fun p hp=>by
  have hne:=hPn.some p hp;obtain ⟨q,hq,rfl⟩:=mem_mapped hT p hp;have h3:=Int.fmod_nonneg_of_pos q.2 h0;have h4:=Int.fmod_lt_of_pos q.2 h0;simp only at hne⊢;omega
 have hPk:0≤(partT d T).k∧(partT d T).k<d:=⟨Int.fmod_nonneg_of_pos _ h0,Int.fmod_lt_of_pos _ h0⟩;have hdv:∀p∈(partT d T).parts,(partG d T:Int)∣p.2:=fun p hp=>gcdL_dvd _ _ (jZ1.2 (.inl (iZ2.2 ⟨p,hp,rfl⟩)));have hdk:(partG d T:Int)∣(partT d T).k:=by
  rw [Int.fmod_eq_emod_of_nonneg _ (by omega)] at h2;exact Int.dvd_of_emod_eq_zero h2
 have hne:∀p∈(partT d T).parts,p.2.fdiv (partG d T:Int)≠0:=fun p hp=>fdiv_ne hg (hdv p hp) (hPn.some p hp);have hC:dQ d T=⟨mapL (fun c=>c.fdiv (partG d T:Int)) (partT d T).parts,(partT d T).k.fdiv (partG d T:Int)⟩:=mappedV_neat hPn.rising hne;have hcut:∀x:Int,(partG d T:Int)∣x→x<d→x.fdiv (partG d T:Int)<m∧(0≤x→0≤x.fdiv (partG d T:Int)):=fun x hx hlt=>by
  obtain ⟨t,rfl⟩:=hx;rw [Int.mul_fdiv_cancel_left t (by omega)];have hlt2:(partG d T:Int)*t<(partG d T:Int)*m:=by rw [←hm];exact hlt
  refine ⟨Int.lt_of_mul_lt_mul_left hlt2 (by omega),fun hp=>?_⟩;rcases Int.lt_or_le t 0 with h|h
  ·have:=Int.mul_neg_of_pos_of_neg (show (0:Int)<(partG d T:Int) by omega) h;omega
  ·exact h
 rw [hC,hD];refine ⟨neat_mapL (c:=fun c=>c.fdiv (partG d T:Int)) hPn.rising hne,fun p hp=>?_,?_,fun e=>h1 (by simpa [mapL] using e),?_⟩
 ·obtain ⟨q,hq,rfl⟩:=(mem_mapL (c:=fun c=>c.fdiv (partG d T:Int))).1 hp;have q1:=hcut q.2 (hdv q hq) (hmid q hq).2;have q2:=hne q hq;have q3:=q1.2 (by have:=hmid q hq;omega);simp only;omega
 ·have q1:=hcut _ hdk hPk.2;exact⟨q1.2 hPk.1,q1.1⟩
 ·rw [coefs_mapL,←hD];have:=gcdL_quot (zs:=cE (partT d T)++[d]) (g:=partG d T) rfl hg;rw [cZ2] at this;exact this
theorem partedV_idem (h0:0<d) (hT:Neat T.parts) (hk:2≤(cH d T no).kind):0<(cH d T no).d∧(cH d T no).kind=(if no then 4 else 3)∧bR (cH d T no).t=(cH d T no).t∧cH (cH d T no).d (cH d T no).t no=cH d T no:=by
 have htr:∀b,¬(2≤(eA b).kind):=fun b=>by unfold eA;simp only;split<;>omega
 by_cases h1:(partT d T).parts=[]
 ·unfold cH at hk;rw [if_pos h1] at hk;exact absurd hk (htr _)
 by_cases h2':(partT d T).k.fmod (partG d T:Int)≠0
 ·unfold cH at hk;rw [if_neg h1,if_pos h2'] at hk;exact absurd hk (htr _)
 have h2:(partT d T).k.fmod (partG d T:Int)=0:=Decidable.not_not.1 h2';by_cases h3:partD d T=1
 ·unfold cH at hk;rw [if_neg h1,if_neg h2',if_pos h3] at hk;exact absurd hk (htr _)
 have hC:=std_partC h0 hT h1 h2;have hO:partO d T=negM (partD d T) (dQ d T):=partT_neg hC;have e:cH d T no=⟨if no then 4 else 3,partD d T,if cmpT (partO d T) (dQ d T)<0 then partO d T else dQ d T⟩:=by unfold cH;rw [if_neg h1,if_neg h2',if_neg h3]
 have hm:=partD_pos (T:=T) h0;obtain ⟨m,hm2⟩:∃m,m=partD d T:=⟨_,rfl⟩;obtain ⟨C,hC2⟩:∃C,C=dQ d T:=⟨_,rfl⟩;rw [←hm2,←hC2] at hO hC;rw [←hm2] at hm h3;rw [e,hO,←hm2,←hC2];clear e hO hC2 hm2 h1 h2 h2' hT hk;obtain ⟨X,hX⟩:∃X,X=if cmpT (negM m C) C<0 then negM m C else C:=⟨_,rfl⟩
 have hSX:StdM m X∧¬cmpT (negM m X) X<0:=by
  rw [hX];by_cases hc:cmpT (negM m C) C<0
  ·rw [if_pos hc];refine ⟨hC.neg,?_⟩;rw [negM_negM hC];have:=cmpT_anti (negM m C) C;omega
  ·rw [if_neg hc];exact⟨hC,hc⟩
 rw [←hX];clear hX hC;refine ⟨hm,rfl,normT_neat hSX.1.neat,?_⟩;simp only;unfold cH;rw [partT_std hSX.1,partG_std hSX.1,partD_std hSX.1,partO_std hSX.1,partC_std hSX.1,if_neg hSX.1.some,if_neg (by rw [show ((1:Nat):Int)=1 from rfl];simp),if_neg h3,if_neg hSX.2]
theorem normR_idem {A:bB} (h:(bV A).1=0) (hk:2≤(bV A).2.kind):bV (bV A).2=bV A:=by
 by_cases h0:A.kind=0∨A.kind=1
 ·rw [normR_const h0] at hk;simp only at hk;omega
 by_cases h2:A.kind=2
 ·rw [normR_less h2] at hk⊢;simp only at hk⊢;have e2:(lessV (bR A.t)).kind=2:=by
   unfold lessV at hk⊢;split at hk
   ·unfold eA at hk;simp only at hk;split at hk<;>omega
   ·rw [if_neg (by assumption)]
  rw [normR_less e2,lessV_idem (neat_neatL _) hk]
 by_cases h3:A.kind=3∨A.kind=4
 ·rw [normR_div h3] at h hk⊢;unfold parted2 at h hk⊢;by_cases hd:A.d=0
  ·rw [if_pos hd] at h;simp at h
  rw [if_neg hd] at hk⊢;simp only at hk⊢;obtain ⟨q1,q2,q3,q4⟩:=partedV_idem (d:=(A.d.natAbs:Int)) (T:=bR A.t) (no:=decide (A.kind=4)) (by omega) (neat_neatL _) hk;obtain ⟨B,hB⟩:∃B,B=cH (A.d.natAbs:Int) (bR A.t) (decide (A.kind=4)):=⟨_,rfl⟩;rw [←hB] at q1 q2 q3 q4⊢;have e4:decide (B.kind=4)=decide (A.kind=4):=by
   rw [q2];by_cases h4:A.kind=4
   ·simp [h4]
   ·simp [h4]
  rw [normR_div (by rw [q2];split;exact .inr rfl;exact .inl rfl)];unfold parted2;rw [if_neg (by omega),e4,q3,show ((B.d.natAbs:Nat):Int)=B.d by omega,q4]
 ·rw [normR_bad (by omega) (by omega) h2 (by omega) (by omega)] at h;simp at h
end
theorem getD_append_lt {α:Type} (l t:List α) (d:α) {i:Nat} (h:i<l.length):(l++t).getD i d=l.getD i d:=by simp [List.getD,List.getElem?_append_left h]
structure AgainN (N:aS):Prop where
 atom:N.kind≤4→2≤N.kind∧bV ⟨N.kind,N.d,N.t⟩=(0,⟨N.kind,N.d,N.t⟩)∧N=nodeB ⟨N.kind,N.d,N.t⟩
 join:N.kind=5∨N.kind=6→2≤N.kids.length∧N=⟨N.kind,0,bH,0,N.kids⟩
 bind:N.kind=7∨N.kind=8→N=⟨N.kind,0,bH,N.var,[N.kids.getD 0 0]⟩
def AllN (P:aS→Prop) (A:aF):Prop:=∀i,2≤i→i<A.nodes.length→P (A.nodes.getD i aV)
theorem AllN.add {P:aS→Prop} {A:aF} {N:aS} (h:AllN P A) (hN:P N):AllN P (addA A N):=fun i h2 hi=>by
 simp only [addA,aZ1,gZ1,gZ2] at hi⊢;rcases Nat.lt_or_ge i A.nodes.length with h1|h1
 ·rw [dO _ _ _ h1];exact h i h2 h1
 ·obtain rfl:i=A.nodes.length:=by omega
  rw [dD];exact hN
theorem AgainN.ofAtom {X B:bB} (h:bV X=(0,B)) (hk:2≤B.kind) (h4:B.kind≤4):AgainN (nodeB B):=by
 have h1:=normR_idem (A:=X) (by rw [h]) (by rw [h];exact hk);rw [h] at h1;exact⟨fun _=>⟨hk,h1,rfl⟩,fun h5=>by simp only [nodeB] at h5;omega,fun h5=>by simp only [nodeB] at h5;omega⟩
structure NodeK (V:List Int) (limbs:Int) (N:aS):Prop where
 again:AgainN N
 neat:Neat N.t.parts
 vars:∀p∈N.t.parts,p.1∈V
 nums:∀p∈N.t.parts,(nlen p.2.natAbs:Int)≤limbs
 k:(nlen N.t.k.natAbs:Int)≤limbs
 d:(nlen N.d.natAbs:Int)≤limbs
 var:I64 N.var
theorem neat_nil:Neat []:=⟨List.Pairwise.nil,fun p hp=>absurd hp hZ2⟩
theorem neat_partedV {d:Int} {T:aW} {no:Bool}:Neat (cH d T no).t.parts:=by
 unfold cH;split
 ·exact neat_nil
 split
 ·exact neat_nil
 split
 ·exact neat_nil
 ·simp only;split
  ·exact neat_neatL _
  ·exact neat_neatL _
theorem neat_normR (X:bB):Neat (bV X).2.t.parts:=by
 by_cases h0:X.kind=0∨X.kind=1
 ·rw [normR_const h0];exact neat_nil
 by_cases h2:X.kind=2
 ·rw [normR_less h2];simp only;unfold lessV;split
  ·exact neat_nil
  ·exact neat_neatL _
 by_cases h3:X.kind=3∨X.kind=4
 ·rw [normR_div h3];unfold parted2;split
  ·exact neat_nil
  ·exact neat_partedV
 ·rw [normR_bad (by omega) (by omega) h2 (by omega) (by omega)];exact neat_nil
theorem length_parts_le {V:List Int} {l:aT} (h:Neat l) (hv:∀p∈l,p.1∈V):l.length≤V.length:=by
 have:=nodup_le (V:=V) (l:=l.map (·.1)) (pair_nodup (List.pairwise_map.2 h.rising)) fun x hx=>by obtain ⟨p,hp,rfl⟩:=iZ2.1 hx;exact hv p hp
 simpa using this
section
variable {V ids ks:List Int} {limbs nodes sp ov kind:Int} {xs:List (Bool × List Nat)} {P:aS→Prop} {N:aS} {m:dG} {X:bB}
theorem madeM_ext {A:aF}:∃t,(dF A nodes limbs sp ov N xs).2.1.nodes=A.nodes++t:=by
 unfold dF;cases keyF A.nodes (bA N) with
 | some i=>exact⟨[],by simp⟩
 | none=>
  simp only [];split
  ·exact⟨[N],rfl⟩
  ·exact⟨[],by simp⟩
theorem stepR_ext {A:aF}:∃t,(stepR A nodes limbs sp ov ids m).2.1.nodes=A.nodes++t:=by
 have hj:∀kind ks,∃t,(dM A nodes limbs sp ov kind ks).2.1.nodes=A.nodes++t:=fun kind ks=>by
  unfold dM;split
  ·exact⟨[],by simp⟩
  split
  ·exact⟨[],by simp⟩
  split
  ·exact⟨[],by simp⟩
  split
  ·exact madeM_ext
  ·exact⟨[],by simp⟩
 have hb:∀kind v k,∃t,(dR A nodes limbs sp ov kind v k).2.1.nodes=A.nodes++t:=fun kind v k=>by
  unfold dR;split
  ·exact⟨[],by simp⟩
  split
  ·exact⟨[],by simp⟩
  ·exact madeM_ext
 unfold stepR;split
 ·unfold cZ atomR;split
  ·exact⟨[],by simp⟩
  split
  ·exact⟨[],by simp⟩
  ·exact madeM_ext
 split
 ·exact hj ..
 split
 ·exact hj ..
 split
 ·exact hb ..
 ·exact hb ..
theorem buildM_ext {nodes limbs:Int}:∀{l:List dG} {s:St},∃t,(buildM nodes limbs s l).A.nodes=s.A.nodes++t
 | [],s=>⟨[],by simp [buildM]⟩
 | m::l,s=>by
  obtain ⟨t,ht⟩:=buildM_ext (nodes:=nodes) (limbs:=limbs) (l:=l) (s:=stepB nodes limbs s m);obtain ⟨t2,ht2⟩:=stepR_ext (A:=s.A) (nodes:=nodes) (limbs:=limbs) (sp:=s.sp) (ov:=s.ov) (ids:=s.ids) (m:=m);refine ⟨t2++t,?_⟩;rw [show buildM nodes limbs s (m::l)=buildM nodes limbs (stepB nodes limbs s m) l from rfl,ht,show (stepB nodes limbs s m).A=(stepR s.A nodes limbs s.sp s.ov s.ids m).2.1 from rfl,ht2,mZ2]
theorem madeM_all {A:aF} (h:AllN P A) (hN:great limbs xs=false→P N):AllN P (dF A nodes limbs sp ov N xs).2.1:=by
 unfold dF;cases keyF A.nodes (bA N) with
 | some i=>exact h
 | none=>
  simp only [];by_cases he:(dK nodes limbs sp ov xs).2.2=0
  ·rw [if_pos he];exact h.add (hN (nodeM_ok he).2.2.1)
  ·rw [if_neg he];exact h
theorem nodeK_atom {L n:Nat} {B:bB} (h:bV X=(0,B)) (hb:SmallB L n V B) (hk:2≤B.kind) (hg:great limbs ((numsB B).map intX)=false):NodeK V limbs (nodeB B):=by
 have hn:=neat_normR X;rw [h] at hn;rw [great_intX,List.any_eq_false] at hg;have hg2:∀z∈numsB B,(nlen z.natAbs:Int)≤limbs:=fun z hz=>by have:=hg z hz;simp at this;exact this
 refine ⟨AgainN.ofAtom h hk hb.kind.2,hn,hb.t.vars,fun p hp=>hg2 _ ?_,hg2 _ ?_,hg2 _ ?_,?_⟩
 ·exact jZ1.2 (.inr (iZ2.2 ⟨p,hp,rfl⟩))
 ·simp [numsB,nodeB]
 ·simp [numsB,nodeB]
 ·show I64 0
  unfold I64;omega
theorem nodeK_kids {v:Int} (h0:0≤limbs) (hv:I64 v) (h:AgainN ⟨kind,0,bH,v,ks⟩):NodeK V limbs ⟨kind,0,bH,v,ks⟩:=
 ⟨h,⟨List.Pairwise.nil,fun p hp=>absurd hp hZ2⟩,fun p hp=>absurd hp hZ2,fun p hp=>absurd hp hZ2,by simp [bH,nlen0];exact h0,by simp [nlen0];exact h0,hv⟩
theorem atomM_all {A:aF} (h:AllN (NodeK V limbs) A) (hX:SmallX V X):AllN (NodeK V limbs) (cZ A nodes limbs sp ov X).2.1:=by
 have hb:=dW (k:=X.kind) hX.1 hX.2 (by decide);unfold cZ;obtain ⟨k,d,⟨l,z⟩⟩:=X;simp only at hb⊢;obtain ⟨⟨e,B⟩,hr⟩:∃r,r=bV ⟨k,d,⟨l,z⟩⟩:=⟨_,rfl⟩;rw [←hr] at hb⊢;simp only at hb;by_cases he:e=0
 ·subst he;by_cases hk:B.kind≤1
  ·rw [atomR_const hk];exact h
  ·rw [atomR_go hk];exact madeM_all h fun hg=>nodeK_atom hr.symm hb (by omega) hg
 ·rw [atomR_err he];exact h
theorem joinM_all {A:aF} (h0:0≤limbs) (h:AllN (NodeK V limbs) A):AllN (NodeK V limbs) (dM A nodes limbs sp ov kind ks).2.1:=by
 unfold dM;split
 ·exact h
 rename_i h5;split
 ·exact h
 split
 ·exact h
 split
 ·rename_i hl;exact madeM_all h fun _=>nodeK_kids h0 (by unfold I64;omega) ⟨fun h4=>by simp only at h4;omega,fun _=>⟨hl,rfl⟩,fun h7=>by simp only at h7;omega⟩
 ·exact h
theorem bindM_all {A:aF} {v k:Int} (h0:0≤limbs) (hv:I64 v) (h:AllN (NodeK V limbs) A):AllN (NodeK V limbs) (dR A nodes limbs sp ov kind v k).2.1:=by
 unfold dR;split
 ·exact h
 rename_i h7;split
 ·exact h
 ·exact madeM_all h fun _=>nodeK_kids h0 hv ⟨fun h4=>by simp only at h4;omega,fun h5=>by simp only at h5;omega,fun _=>rfl⟩
theorem stepR_all {A:aF} (h0:0≤limbs) (h:AllN (NodeK V limbs) A) (hX:SmallX V m.x):AllN (NodeK V limbs) (stepR A nodes limbs sp ov ids m).2.1:=by
 have hv:I64 (varM m):=by
  have:=pickN_lt (c:=m.v) (n:=4) (by decide);unfold varM I64;omega
 unfold stepR;split
 ·exact atomM_all h hX
 split
 ·exact joinM_all h0 h
 split
 ·exact joinM_all h0 h
 split
 ·exact bindM_all h0 hv h
 ·exact bindM_all h0 hv h
theorem buildM_all {V:List Int} {nodes limbs:Int} (h0:0≤limbs):∀{l:List dG} {s:St},AllN (NodeK V limbs) s.A→(∀m∈l,SmallX V m.x)→AllN (NodeK V limbs) (buildM nodes limbs s l).A
 | [],_,h,_=>h
 | m::l,s,h,hl=>by
  have h1:AllN (NodeK V limbs) (stepB nodes limbs s m).A:=stepR_all h0 h (hl m (kZ1 ..));exact buildM_all h0 (l:=l) (s:=stepB nodes limbs s m) h1 fun x hx=>hl x (lZ1 _ hx)
theorem AllN.start:AllN P startA:=fun i h2 hi=>by simp [startA] at hi;omega
end
end Go.Proofs.Q
