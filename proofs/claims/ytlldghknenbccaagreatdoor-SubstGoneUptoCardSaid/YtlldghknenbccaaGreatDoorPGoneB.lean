/- A relation between a node and what comes of it, through a walk; an atom that stands in an arena: plain laws. -/
import Derived.Test.YtlldghknenbccaaGreatDoorPSubsF
set_option linter.unusedSimpArgs false
set_option linter.unusedVariables false
set_option maxRecDepth 100000
set_option maxHeartbeats 8000000
namespace Go.Proofs.Q
open Go.RowKit Go.Proofs.YtlldghknenbccaaGreatDoor Go.Deep Go.ChangeShapes Go.WideShapes Go.Joins Tryz
section
variable {Q:Int→Int→Prop} {l m V:List Int} {x:Int}
theorem bW.formA {nodes limbs sp:Int} {A:aF} (h:bW V nodes limbs A sp) (hx:0≤x∧x<(A.nodes.length:Int)) (h4:(ndA A x).kind≤4):bV ⟨(ndA A x).kind,(ndA A x).d,(ndA A x).t⟩=(0,⟨(ndA A x).kind,(ndA A x).d,(ndA A x).t⟩)∧Neat (ndA A x).t.parts∧((ndA A x).kind=3∨(ndA A x).kind=4→0<(ndA A x).d):=by
 rcases Nat.lt_or_ge x.toNat 2 with h2|h2
 ·have e:ndA A x=⟨(x.toNat:Int),0,bH,0,[]⟩:=h.low h2;rw [e];refine ⟨normR_const (by simp only;omega),neat_nil,fun h3=>by simp only at h3;omega⟩
 ·have hK:NodeK V limbs (ndA A x):=h.all x.toNat h2 (by omega);have h1:=(hK.again.atom h4).2.1;refine ⟨h1,hK.neat,fun h3=>?_⟩;have h5:=h1;rw [normR_div h3] at h5;unfold parted2 at h5;simp only at h5;by_cases hd:(ndA A x).d=0
  ·rw [if_pos hd] at h5;simp at h5
  ·rw [if_neg hd] at h5;have h6:cH ((ndA A x).d.natAbs:Int) (bR (ndA A x).t) (decide ((ndA A x).kind=4))=⟨(ndA A x).kind,(ndA A x).d,(ndA A x).t⟩:=congrArg Prod.snd h5;have h7:=(partedV_idem (d:=((ndA A x).d.natAbs:Int)) (T:=bR (ndA A x).t) (no:=decide ((ndA A x).kind=4)) (by omega) (neat_neatL _) (by rw [h6];simp only;omega)).1;rw [h6] at h7;exact h7
def Cov (Q:Int→Int→Prop) (l m:List Int):Prop:=(∀y∈m,∃x∈l,Q x y)∧∀x∈l,∃y∈m,Q x y
theorem Cov.snoc {y:Int} (h:Cov Q l m) (hq:Q x y):Cov Q (l++[x]) (m++[y]):=by
 refine ⟨fun z hz=>?_,fun z hz=>?_⟩
 ·rcases jZ1.1 hz with hz|hz
  ·obtain ⟨u,hu,q⟩:=h.1 z hz;exact⟨u,jZ1.2 (.inl hu),q⟩
  ·rw [dZ1.1 hz];exact⟨x,by simp,hq⟩
 ·rcases jZ1.1 hz with hz|hz
  ·obtain ⟨u,hu,q⟩:=h.2 z hz;exact⟨u,jZ1.2 (.inl hu),q⟩
  ·rw [dZ1.1 hz];exact⟨y,by simp,hq⟩
theorem Cov.imp {Q2:Int→Int→Prop} (h:Cov Q l m) (hq:∀x y,Q x y→Q2 x y):Cov Q2 l m:=
 ⟨fun z hz=>by obtain ⟨u,hu,q⟩:=h.1 z hz;exact⟨u,hu,hq _ _ q⟩,fun z hz=>by obtain ⟨u,hu,q⟩:=h.2 z hz;exact⟨u,hu,hq _ _ q⟩⟩
structure TurnQ (T:TurnF) (I:aF→Int→Int→Prop) (R:aF→Int→Prop) (Q:aF→Int→Int→Prop):Prop where
 ok:TurnOk T I R
 q:∀{A:aF} {sp ov x:Int} {ks:List Int},I A sp ov→0≤x∧x<(A.nodes.length:Int)→Cov (Q A) (ndA A x).kids ks→(T A sp ov x ks).1.2=0→Below (T A sp ov x ks).2.1.nodes→Ext A (T A sp ov x ks).2.1→Q (T A sp ov x ks).2.1 x (T A sp ov x ks).1.1
 mono:∀{A A':aF} {x y:Int},Q A x y→Below A.nodes→Ext A A'→Q A' x y
def WQ (I:aF→Int→Int→Prop) (R:aF→Int→Prop) (Q:aF→Int→Int→Prop) (s:WSt):Prop:=WOk I R s∧∀u y,s.came u=some y→Q s.A u y
theorem kidsM_q {T:TurnF} {I:aF→Int→Int→Prop} {R:aF→Int→Prop} {Q:aF→Int→Int→Prop} (hT:TurnQ T I R Q) {W:WSt→Int→(Int × Int) × WSt} {m:Int} {N:Nat} (H:∀s k,WQ I R Q s→N≤s.A.nodes.length→0≤k→k<m→k<(N:Int)→(W s k).1.2=0→WQ I R Q (W s k).2∧Ext s.A (W s k).2.A∧Q (W s k).2.A k (W s k).1.1) :
  ∀(l:List Int) (s:WSt) (out done:List Int),WQ I R Q s→N≤s.A.nodes.length→(∀k∈l,0≤k∧k<m∧k<(N:Int))→Cov (Q s.A) done out→(cR W s out l).1.2=0→WQ I R Q (cR W s out l).2∧Cov (Q (cR W s out l).2.A) (done++l) (cR W s out l).1.1
 | [],s,out,done,hs,_,_,ho,_=>by rw [fZ2];exact⟨hs,ho⟩
 | k::l,s,out,done,hs,hN,hl,ho,he=>by
  have hk:=hl k (kZ1 ..);unfold cR at he⊢;by_cases h0:(W s k).1.2=0
  ·rw [if_pos h0] at he⊢;obtain ⟨q1,q2,q3⟩:=H s k hs hN hk.1 hk.2.1 hk.2.2 h0;have:=kidsM_q hT (W:=W) (m:=m) (N:=N) H l (W s k).2 (out++[(W s k).1.1]) (done++[k]) q1 (bZ1 hN q2.len) (fun j hj=>hl j (lZ1 _ hj)) ((ho.imp fun x y q=>hT.mono q (hT.ok.below hs.1.1) q2).snoc q3) he;rw [mZ2] at this;exact this
  ·rw [if_neg h0] at he;exact absurd he h0
theorem walkM_q {T:TurnF} {I:aF→Int→Int→Prop} {R:aF→Int→Prop} {Q:aF→Int→Int→Prop} (hT:TurnQ T I R Q):∀(f:Nat) (s:WSt) (x:Int),WQ I R Q s→x.toNat<f→0≤x→x<(s.A.nodes.length:Int)→(cI T f s x).1.2=0→WQ I R Q (cI T f s x).2∧Ext s.A (cI T f s x).2.A∧Q (cI T f s x).2.A x (cI T f s x).1.1
 | 0,_,_,_,h,_,_,_=>by omega
 | f+1,s,x,hs,hf,h0,h1,he=>by
  have hok:=walkM_ok hT.ok (f+1) s x hs.1 hf h0 h1;refine (fun q=>⟨⟨hok.1.2.2.1 he,q.1⟩,hok.1.2.1,q.2⟩:((∀u y,(cI T (f+1) s x).2.came u=some y→Q (cI T (f+1) s x).2.A u y)∧Q (cI T (f+1) s x).2.A x (cI T (f+1) s x).1.1)→_) ?_;have hB:=hT.ok.below hok.1.1;cases hc:s.came x with
  | some y=>
   rw [walkM_there hc];exact⟨hs.2,hs.2 x y hc⟩
  | none=>
   obtain ⟨r,hr⟩:∃r,cR (cI T f) s [] (ndA s.A x).kids=r:=⟨_,rfl⟩;by_cases hre:r.1.2=0
   ·have hk:=kidsM_q hT (W:=cI T f) (m:=x) (N:=s.A.nodes.length) (fun s' k hs' hN hk0 hkx hkN hke=>walkM_q hT f s' k hs' (by omega) hk0 (by omega) hke) (ndA s.A x).kids s [] [] hs (bZ2 _) (fun k hk=>by have:=(hT.ok.below hs.1.1).kid h0 h1 hk;omega) ⟨fun y hy=>(by cases hy),fun y hy=>by cases hy⟩ (by rw [hr];exact hre);rw [hr,fZ3] at hk;obtain ⟨⟨out,e⟩,t⟩:=r;obtain rfl:e=0:=hre;obtain ⟨q1,q2,q3,q4,-⟩:=kids_walk hT.ok (f:=f) (j:=(ndA s.A x).kids.length) hs.1 hf h0 h1 (bZ2 _) (by rw [List.take_length];exact hr);have hlen:x<(t.A.nodes.length:Int):=by have:=q2.len;omega
    have hst:=hT.ok.step (x:=x) (ks:=out) q1.1 h0 hlen q3 (by rw [q2.nd h0 h1];exact q4);rw [walkM_turn hc hr] at he hB⊢;simp only at he hB;have hqx:=hT.q (x:=x) (ks:=out) q1.1 ⟨h0,hlen⟩ (by rw [q2.nd h0 h1];exact hk.2) he hB hst.2.1;refine ⟨fun u y hu=>?_,hqx⟩;simp only [putC] at hu;by_cases hux:u=x
    ·rw [if_pos hux] at hu;cases hu;rw [hux];exact hqx
    ·rw [if_neg hux] at hu;exact hT.mono (hk.1.2 u y hu) (hT.ok.below q1.1) hst.2.1
   ·rw [walkM_err hc hr hre] at he;exact absurd he hre
end
section
variable {V ks ids K:List Int} {nodes limbs u sp ov kind sp' x:Int} {N:aS} {xs:List (Bool × List Nat)} {i:Nat} {T:aW} {X:bB} {L:List aS} {B:aF} {m:dG}
def namesT (T:aW):List Int:=(neatL T.parts).map (·.1)
theorem mem_namesT:u∈namesT T↔bF T.parts u≠0:=by
 unfold namesT;rw [iZ2];constructor
 ·rintro ⟨p,hp,rfl⟩;have:=((neatL_form T.parts).mem p).1 hp;rw [←this.1];exact this.2
 ·intro h;exact⟨(u,bF T.parts u),((neatL_form T.parts).mem _).2 ⟨rfl,h⟩,rfl⟩
inductive FrI (L:List aS) (u:Int):Int→Prop
 | here {x:Int}:u∈namesT (L.getD x.toNat aV).t→(7≤(L.getD x.toNat aV).kind→u≠(L.getD x.toNat aV).var)→FrI L u x
 | kid {x k:Int}:k∈(L.getD x.toNat aV).kids→FrI L u k→(7≤(L.getD x.toNat aV).kind→u≠(L.getD x.toNat aV).var)→FrI L u x
theorem frI_iff:FrI L u x↔(u∈namesT (L.getD x.toNat aV).t∨∃k∈(L.getD x.toNat aV).kids,FrI L u k)∧(7≤(L.getD x.toNat aV).kind→u≠(L.getD x.toNat aV).var):=by
 constructor
 ·intro h;cases h with
  | here h1 h2=>exact⟨.inl h1,h2⟩
  | kid h1 h2 h3=>exact⟨.inr ⟨_,h1,h2⟩,h3⟩
 ·rintro ⟨h|⟨k,h1,h2⟩,h3⟩
  ·exact .here h h3
  ·exact .kid h1 h2 h3
theorem fr_ext {A A':aF} (he:Ext A A') (hB:Below A.nodes) {u:Int}:∀(n:Nat) (x:Int),x.toNat<n→0≤x→x<(A.nodes.length:Int)→(FrI A'.nodes u x↔FrI A.nodes u x)
 | 0,_,h,_,_=>by omega
 | n+1,x,hn,h0,h1=>by
  have e:A'.nodes.getD x.toNat aV=A.nodes.getD x.toNat aV:=he.nd h0 h1;rw [frI_iff,frI_iff (L:=A.nodes),e];refine and_congr (or_congr Iff.rfl (exists_congr fun k=>and_congr_right fun hk=>?_)) Iff.rfl;have:=hB.kid h0 h1 hk;exact fr_ext he hB n k (by omega) this.1 (by omega)
theorem fr_extA {A A':aF} (he:Ext A A') (hB:Below A.nodes) (h:0≤x∧x<(A.nodes.length:Int)):FrI A'.nodes u x↔FrI A.nodes u x:=fr_ext he hB (x.toNat+1) x (Nat.lt_succ_self _) h.1 h.2
theorem fr_flat {L:List aS} {kind u:Int} (h5:kind=5∨kind=6):∀(f:Nat) (x y:Int),y∈flatN L kind f x→FrI L u y→FrI L u x
 | 0,x,y,hy,h=>by
  rw [flatN] at hy;rw [←dZ1.1 hy];exact h
 | f+1,x,y,hy,h=>by
  unfold flatN at hy;split at hy
  ·rename_i he;obtain ⟨k,hk,hy⟩:=cZ3.1 hy;exact .kid hk (fr_flat h5 f k y hy h) fun h7=>by omega
  ·rw [←dZ1.1 hy];exact h
theorem names_zero:¬u∈namesT bH:=fun h=>by rw [mem_namesT] at h;exact h rfl
theorem fr_const {A:aF} (h:bW V nodes limbs A sp) (hx:x=0∨x=1):¬FrI A.nodes u x:=fun q=>by
 have hl:=h.low (i:=x.toNat) (by omega);rw [frI_iff,hl] at q;rcases q.1 with q|⟨k,hk,-⟩
 ·exact names_zero q
 ·cases hk
theorem madeM_fr {v:Int} {A:aF} (h0:0≤limbs) (h:bW V nodes limbs A sp) (hk:5≤kind∧kind≤8) (hv:kind=5∨kind=6→v=0) (hK:∀k∈K,0≤k∧k<(A.nodes.length:Int)) (hx:Ext A (dF A nodes limbs sp ov ⟨kind,0,bH,v,K⟩ []).2.1) (he:(dF A nodes limbs sp ov ⟨kind,0,bH,v,K⟩ []).1.2=0):FrI (dF A nodes limbs sp ov ⟨kind,0,bH,v,K⟩ []).2.1.nodes u (dF A nodes limbs sp ov ⟨kind,0,bH,v,K⟩ []).1.1↔(∃k∈K,FrI A.nodes u k)∧(7≤kind→u≠v):=by
 obtain ⟨q1,q2,q3⟩:=madeM_node h.inv (N:=⟨kind,0,bH,v,K⟩) ⟨by simp only;omega,hk.2,fun h4=>by simp only at h4;omega,fun _=>⟨rfl,rfl⟩,hv⟩ he;rw [frI_iff,q3];simp only;refine and_congr ⟨fun q=>?_,fun ⟨k,hk,q⟩=>.inr ⟨k,hk,(fr_extA hx h.below (hK k hk)).2 q⟩⟩ Iff.rfl;rcases q with q|⟨k,hk,q⟩
 ·exact absurd q names_zero
 ·exact⟨k,hk,(fr_extA hx h.below (hK k hk)).1 q⟩
theorem joinM_fr {A:aF} (h0:0≤limbs) (h:bW V nodes limbs A sp) (h5:kind=5∨kind=6) (he:(dM A nodes limbs sp ov kind ks).1.2=0) (hf:FrI (dM A nodes limbs sp ov kind ks).2.1.nodes u (dM A nodes limbs sp ov kind ks).1.1):∃k∈ks,FrI A.nodes u k:=by
 have hc:=joinM_came (ov:=ov) (kind:=kind) (ks:=ks) h0 h;cases ha:ks.all (hasK A)
 ·rw [joinM_no h5 ha] at he;exact absurd he (by simp)
 rcases Nat.lt_trichotomy (dE ks).length 1 with hl|hl|hl
 ·rw [joinM_nil h5 ha (by omega)] at hf;exact absurd hf (fr_const h (by simp only;split<;>simp))
 ·rw [joinM_one h5 ha hl] at hf;exact⟨_,dI.1 (cU 0 (by omega)),hf⟩
 ·have e:=joinM_many (nodes:=nodes) (limbs:=limbs) (sp:=sp) (ov:=ov) h5 ha hl;rw [e] at he hf hc;obtain ⟨k,hk,q⟩:=((madeM_fr h0 h (by omega) (fun _=>rfl) (fun k hk=>dY.1 (kZ2.1 ha k (dI.1 hk))) hc.ext he).1 hf).1;exact⟨k,dI.1 hk,q⟩
theorem sjoinM_fr {A:aF} (h0:0≤limbs) (h:bW V nodes limbs A sp) (h5:kind=5∨kind=6) (he:(cV A nodes limbs sp ov kind ks).1.2=0) (hf:FrI (cV A nodes limbs sp ov kind ks).2.1.nodes u (cV A nodes limbs sp ov kind ks).1.1):∃k∈ks,FrI A.nodes u k:=by
 have hall:allV kind=0∨allV kind=1:=by unfold allV;split<;>simp
 cases ha:ks.all (hasK A)
 ·rw [sjoinM_no ha] at he;exact absurd he (by simp)
 by_cases hm:allV kind∈openM A kind ks
 ·rw [sjoinM_all ha hm] at hf;exact absurd hf (fr_const h hall)
 cases hcl:clashTo A kind (keptM A kind (restM A kind ks)) (keptM A kind (restM A kind ks)).length
 ·rw [sjoinM_join ha hm hcl] at he hf;obtain ⟨k,hk,q⟩:=joinM_fr h0 h h5 he hf;obtain ⟨y,hy,hxy⟩:=left_mem hk;exact⟨y,hy,fr_flat h5 _ y k hxy q⟩
 ·rw [sjoinM_clash ha hm hcl] at hf;exact absurd hf (fr_const h hall)
theorem bindM_fr {v k:Int} {A:aF} (h0:0≤limbs) (hv:I64 v) (h:bW V nodes limbs A sp) (h7:kind=7∨kind=8) (he:(dR A nodes limbs sp ov kind v k).1.2=0):FrI (dR A nodes limbs sp ov kind v k).2.1.nodes u (dR A nodes limbs sp ov kind v k).1.1↔FrI A.nodes u k∧u≠v:=by
 have hc:=bindM_came (ov:=ov) (kind:=kind) (k:=k) h0 hv h;cases ha:hasK A k
 ·rw [bindM_no h7 ha] at he;exact absurd he (by simp)
 have e:=bindM_go (nodes:=nodes) (limbs:=limbs) (sp:=sp) (ov:=ov) (v:=v) h7 ha;rw [e] at he hc⊢;rw [madeM_fr h0 h (by omega) (fun h5=>by omega) (fun j hj=>by rw [dZ1.1 hj];exact dY.1 ha) hc.ext he];constructor
 ·rintro ⟨⟨j,hj,q⟩,hn⟩;rw [dZ1.1 hj] at q;exact⟨q,hn (by omega)⟩
 ·rintro ⟨q,hn⟩;exact⟨⟨k,dZ1.2 rfl,q⟩,fun _=>hn⟩
theorem names_sub {L n:Nat} (h:bZ L n V T) (hu:u∈namesT T):u∈V:=by
 rw [mem_namesT] at hu;obtain ⟨p,hp,rfl⟩:=coefL_mem hu;exact h.vars p hp
theorem atomM_fr {W:List Int} {A:aF} (h:bW V nodes limbs A sp) (hX:SmallX V X) (hW:∀p∈X.t.parts,p.1∈W) (he:(cZ A nodes limbs sp ov X).1.2=0) (hf:FrI (cZ A nodes limbs sp ov X).2.1.nodes u (cZ A nodes limbs sp ov X).1.1):u∈W:=by
 have hc:=atomM_came (ov:=ov) hX h;have hb:=dW (k:=X.kind) hX.1 hX.2 (by decide);have hbW:=dW (V:=W) (k:=X.kind) (l:=X.t.parts) (z:=X.t.k) ⟨hX.1.len,hX.1.parts,hX.1.k,hW⟩ hX.2 (by decide);unfold cZ at he hc hf;obtain ⟨k,d,⟨l,z⟩⟩:=X;simp only at hb hbW he hc hf;obtain ⟨⟨e,B⟩,hr⟩:∃r,r=bV ⟨k,d,⟨l,z⟩⟩:=⟨_,rfl⟩;rw [←hr] at hb hbW he hc hf;simp only at hb hbW;by_cases h0:e=0
 ·subst h0;by_cases hkd:B.kind≤1
  ·rw [atomR_const hkd] at hf;have:=hb.kind;exact absurd hf (fr_const h (by simp only;omega))
  ·rw [atomR_go hkd] at he hc hf;have hform:=(fine_of_small (A:=A) hb (by omega)).form;obtain ⟨q1,q2,q3⟩:=madeM_node h.inv hform he;rw [frI_iff,q3] at hf;rcases hf.1 with q|⟨j,hj,-⟩
   ·exact names_sub hbW.t q
   ·cases hj
 ·rw [atomR_err h0] at he;exact absurd he h0
def WellA (A:aF):Prop:=∀i,i<A.nodes.length→A.free.getD i []=dU A (A.nodes.getD i aV)∧A.plain.getD i 0=plainOf A (A.nodes.getD i aV)
theorem WellA.start:WellA startA:=fun i hi=>by
 have hs:dE []=[]:=fZ1 (Nat.le_zero.1 (neatF_length []));have hi':i<2:=hi;rcases (show i=0∨i=1 by omega) with rfl|rfl
 ·refine ⟨?_,rfl⟩;show []=dU startA ⟨0,0,bH,0,[]⟩
  unfold dU;rw [if_neg (by decide),show cO startA ⟨0,0,bH,0,[]⟩=[] from rfl,hs]
 ·refine ⟨?_,rfl⟩;show []=dU startA ⟨1,0,bH,0,[]⟩
  unfold dU;rw [if_neg (by decide),show cO startA ⟨1,0,bH,0,[]⟩=[] from rfl,hs]
theorem freeOf_same {A:aF} (h:∀k∈N.kids,A.free.getD k.toNat []=B.free.getD k.toNat []):dU A N=dU B N:=by
 have:cO A N=cO B N:=by unfold cO;rw [flatMap_same h]
 unfold dU;rw [this]
theorem foldl_max_same {f g:Int→Int}:∀{l:List Int} {q:Int},(∀k∈l,f k=g k)→l.foldl (fun q k=>max q (f k)) q=l.foldl (fun q k=>max q (g k)) q
 | [],_,_=>rfl
 | k::l,q,h=>by
  rw [List.foldl_cons,List.foldl_cons,h k (kZ1 ..)];exact foldl_max_same fun j hj=>h j (lZ1 _ hj)
theorem plainOf_same {A:aF} (h:∀k∈N.kids,A.plain.getD k.toNat 0=B.plain.getD k.toNat 0):plainOf A N=plainOf B N:=by
 unfold plainOf plainUp;rw [List.take_length,foldl_max_same h]
theorem getD_snoc_lt' {α:Type} {l:List α} {x d:α} (h:i<l.length):(l++[x]).getD i d=l.getD i d:=by
 simp [List.getD,List.getElem?_append_left h]
theorem getD_snoc_eq' {α:Type} {l:List α} {x d:α} (h:i=l.length):(l++[x]).getD i d=x:=by
 subst h;simp [List.getD]
theorem WellA.add {A:aF} (h:WellA A) (hI:InvA V nodes A sp) (hk:∀k∈N.kids,0≤k∧k<(A.nodes.length:Int)):WellA (addA A N):=fun i hi=>by
 have e1:∀j,j<A.nodes.length→(addA A N).free.getD j []=A.free.getD j []:=fun j hj=>getD_snoc_lt' (by rw [hI.lf];exact hj);have e2:∀j,j<A.nodes.length→(addA A N).plain.getD j 0=A.plain.getD j 0:=fun j hj=>getD_snoc_lt' (by rw [hI.lp];exact hj);have e3:∀j,j<A.nodes.length→(addA A N).nodes.getD j aV=A.nodes.getD j aV:=fun j hj=>getD_snoc_lt' hj;have hi':i<A.nodes.length+1:=by simpa [addA] using hi
 rcases Nat.lt_or_ge i A.nodes.length with hl|hl
 ·rw [e1 i hl,e2 i hl,e3 i hl,(h i hl).1,(h i hl).2];have hkk:=(hI.kids i hl).2;exact⟨(freeOf_same fun k hk=>e1 _ (by have:=hkk k hk;omega)).symm,(plainOf_same fun k hk=>e2 _ (by have:=hkk k hk;omega)).symm⟩
 ·obtain rfl:i=A.nodes.length:=by omega
  have n1:(addA A N).nodes.getD A.nodes.length aV=N:=getD_snoc_eq' rfl;have n2:(addA A N).free.getD A.nodes.length []=dU A N:=getD_snoc_eq' hI.lf.symm;have n3:(addA A N).plain.getD A.nodes.length 0=plainOf A N:=getD_snoc_eq' hI.lp.symm;rw [n1,n2,n3];exact⟨(freeOf_same fun k hkm=>e1 _ (by have:=hk k hkm;omega)).symm,(plainOf_same fun k hkm=>e2 _ (by have:=hk k hkm;omega)).symm⟩
theorem madeM_well {A:aF} (h:WellA A) (hI:InvA V nodes A sp') (hk:∀k∈N.kids,0≤k∧k<(A.nodes.length:Int)):WellA (dF A nodes limbs sp ov N xs).2.1:=by
 unfold dF;cases keyF A.nodes (bA N) with
 | some i=>exact h
 | none=>
  simp only [];split
  ·exact h.add hI hk
  ·exact h
theorem joinM_well {A:aF} (h:WellA A) (hI:InvA V nodes A sp'):WellA (dM A nodes limbs sp ov kind ks).2.1:=by
 unfold dM;split
 ·exact h
 split
 ·exact h
 split
 ·exact h
 split
 ·rename_i h1 h2 h3 h4;refine madeM_well h hI fun k hk=>dY.1 (kZ2.1 (by simpa using h2) k (dI.1 hk))
 ·exact h
theorem bindM_well {v k:Int} {A:aF} (h:WellA A) (hI:InvA V nodes A sp'):WellA (dR A nodes limbs sp ov kind v k).2.1:=by
 unfold dR;split
 ·exact h
 split
 ·exact h
 ·rename_i h1 h2;exact madeM_well h hI fun j hj=>by rw [dZ1.1 hj];exact dY.1 (by simpa using h2)
theorem atomM_well {A:aF} (h:WellA A) (hI:InvA V nodes A sp'):WellA (cZ A nodes limbs sp ov X).2.1:=by
 unfold cZ atomR;split
 ·exact h
 split
 ·exact h
 ·exact madeM_well h hI fun j hj=>by cases hj
theorem sjoinM_well {A:aF} (h:WellA A) (hI:InvA V nodes A sp'):WellA (cV A nodes limbs sp ov kind ks).2.1:=by
 unfold cV;split
 ·exact h
 split
 ·exact h
 split
 ·exact h
 ·exact joinM_well h hI
theorem stepR_well {A:aF} (h:WellA A) (hI:InvA V nodes A sp'):WellA (stepR A nodes limbs sp ov ids m).2.1:=by
 unfold stepR;split
 ·exact atomM_well h hI
 split
 ·exact joinM_well h hI
 split
 ·exact joinM_well h hI
 split
 ·exact bindM_well h hI
 ·exact bindM_well h hI
theorem buildM_well {V:List Int} {nodes limbs:Int}:∀{l:List dG} {s:St} {j:Nat},InvS V nodes s j→(∀m∈l,SmallX V m.x)→WellA s.A→WellA (buildM nodes limbs s l).A
 | [],s,j,_,_,h=>h
 | m::l,s,j,hs,hl,h=>buildM_well (l:=l) (s:=stepB nodes limbs s m) (hs.step (limbs:=limbs) (hl m (kZ1 ..))) (fun x hx=>hl x (lZ1 _ hx)) (stepR_well (ids:=s.ids) (m:=m) h hs.inv)
theorem mem_freeOf {A:aF}:u∈dU A N↔(u∈namesT N.t∨∃k∈N.kids,u∈A.free.getD k.toNat [])∧(7≤N.kind→u≠N.var):=by
 have hr:u∈cO A N↔u∈namesT N.t∨∃k∈N.kids,u∈A.free.getD k.toNat []:=by
  unfold cO namesT;rw [jZ1,cZ3]
 unfold dU;split
 ·rename_i h7;unfold without;rw [hZ3,dI,hr];simp [h7]
 ·rename_i h7;rw [dI,hr];exact⟨fun q=>⟨q,fun h=>absurd h h7⟩,fun q=>q.1⟩
theorem fr_well {A:aF} (h:WellA A) (hB:Below A.nodes) {u:Int}:∀(n:Nat) (x:Int),x.toNat<n→0≤x→x<(A.nodes.length:Int)→(u∈A.free.getD x.toNat []↔FrI A.nodes u x)
 | 0,_,h,_,_=>by omega
 | n+1,x,hn,h0,h1=>by
  rw [(h x.toNat (by omega)).1,mem_freeOf,frI_iff];refine and_congr (or_congr Iff.rfl (exists_congr fun k=>and_congr_right fun hk=>?_)) Iff.rfl;have:=hB.kid h0 h1 hk;exact fr_well h hB n k (by omega) this.1 (by omega)
theorem free_iff {A:aF} (h:WellA A) (hB:Below A.nodes) (hx:0≤x∧x<(A.nodes.length:Int)):u∈A.free.getD x.toNat []↔FrI A.nodes u x:=fr_well h hB (x.toNat+1) x (Nat.lt_succ_self _) hx.1 hx.2
end
section
variable {nodes limbs v sp ov kind x:Int} {V ks W:List Int} {f:bB→bB} {xs:List (Bool × List Nat)} {A0:aF} {U:aW} {p:Int × Int} {Lu nu:Nat} {c:Bool} {N:aS} {X:bB}
theorem coefL_other {u v:Int} (h:u≠v):∀l:aT,bF (otherL v l) u=bF l u
 | []=>rfl
 | p::l=>by
  unfold otherL;rw [List.filter_cons];by_cases e:p.1=v
  ·rw [if_neg (by simp [e])];show bF (otherL v l) u=(if p.1=u then p.2 else 0)+bF l u
   rw [if_neg (by omega),coefL_other h l];omega
  ·rw [if_pos (by simp [e])];show (if p.1=u then p.2 else 0)+bF (otherL v l) u=(if p.1=u then p.2 else 0)+bF l u
   rw [coefL_other h l]
theorem put_names {T:aW} (hp:p∈(putT T v U).parts):(p.1∈namesT T∧p.1≠v)∨p.1∈namesT U:=by
 have h1:=((neatL_form (mulL 1 (bR ⟨otherL v T.parts,T.k⟩).parts++mulL (bF T.parts v) U.parts)).mem p).1 hp;rw [coefL_append,coefL_mul,coefL_mul] at h1;by_cases hu:bF U.parts p.1=0
 ·refine .inl ?_;rw [hu,Int.mul_zero,Int.add_zero,Int.one_mul] at h1;have h2:bF (bR ⟨otherL v T.parts,T.k⟩).parts p.1≠0:=by rw [←h1.1];exact h1.2
  obtain ⟨q,hq,hqe⟩:=coefL_mem h2;have h3:=((neatL_form (otherL v T.parts)).mem q).1 hq;have h4:bF (otherL v T.parts) p.1≠0:=by rw [←hqe,←h3.1];exact h3.2
  obtain ⟨r,hr,hre⟩:=coefL_mem h4;have h5:p.1≠v:=by
   have:=(hZ3.1 hr).2;rw [←hre];simpa using this
  rw [coefL_other h5] at h4;exact⟨mem_namesT.2 h4,h5⟩
 ·exact .inr (mem_namesT.2 hu)
theorem kind_truth (b:Bool):(eA b).kind=0∨(eA b).kind=1:=by unfold eA;simp only;split<;>simp
theorem normR_kind (A:bB):(bV A).2.kind=0∨(bV A).2.kind=1∨((bV A).1=0∧2≤(bV A).2.kind):=by
 by_cases h0:A.kind=0∨A.kind=1
 ·rw [normR_const h0];simp only;omega
 by_cases h2:A.kind=2
 ·rw [normR_less h2];simp only;unfold lessV;split
  ·exact (kind_truth _).imp id .inl
  ·simp
 by_cases h3:A.kind=3∨A.kind=4
 ·rw [normR_div h3];unfold parted2;split
  ·simp
  ·simp only;unfold cH;split
   ·exact (kind_truth _).imp id .inl
   split
   ·exact (kind_truth _).imp id .inl
   split
   ·exact (kind_truth _).imp id .inl
   ·refine .inr (.inr ⟨trivial,?_⟩);simp only;split<;>omega
 ·rw [normR_bad (by omega) (by omega) h2 (by omega) (by omega)];simp
theorem normR_fine (A:bB):(bV (bV A).2).1=0:=by
 rcases normR_kind A with h|h|⟨h1,h2⟩
 ·rw [normR_const (.inl h)]
 ·rw [normR_const (.inr h)]
 ·rw [normR_idem h1 h2];exact h1
theorem putV_fine (X:bB) (v:Int) (U:aW):(bV (putV X v U)).1=0:=by
 unfold putV;split
 ·rw [normR_const (.inl rfl)]
 ·exact normR_fine _
theorem madeM_over {A:aF} (h:(dF A nodes limbs sp ov N xs).1.2≠0):(dF A nodes limbs sp ov N xs).2.2.2=(dF A nodes limbs sp ov N xs).1.2:=by
 unfold dF at h⊢;cases hk:keyF A.nodes (bA N) with
 | some i=>rw [hk] at h;exact absurd rfl h
 | none=>
  rw [hk] at h;simp only [] at h⊢;by_cases he:(dK nodes limbs sp ov xs).2.2=0
  ·rw [if_pos he] at h;exact absurd rfl h
  ·rw [if_neg he];exact (nodeM_no he).2
theorem joinM_over {A:aF} (h5:kind=5∨kind=6) (hk:∀k∈ks,0≤k∧k<(A.nodes.length:Int)) (h:(dM A nodes limbs sp ov kind ks).1.2≠0):(dM A nodes limbs sp ov kind ks).2.2.2=(dM A nodes limbs sp ov kind ks).1.2:=by
 have ha:ks.all (hasK A)=true:=kZ2.2 fun k q=>dY.2 (hk k q);rcases Nat.lt_trichotomy (dE ks).length 1 with hl|hl|hl
 ·rw [joinM_nil h5 ha (by omega)] at h;exact absurd rfl h
 ·rw [joinM_one h5 ha hl] at h;exact absurd rfl h
 ·rw [joinM_many h5 ha hl] at h⊢;exact madeM_over h
theorem sjoinM_over {A:aF} (hB:Below A.nodes) (h5:kind=5∨kind=6) (hk:∀k∈ks,0≤k∧k<(A.nodes.length:Int)) (h:(cV A nodes limbs sp ov kind ks).1.2≠0):(cV A nodes limbs sp ov kind ks).2.2.2=(cV A nodes limbs sp ov kind ks).1.2:=by
 have ha:ks.all (hasK A)=true:=kZ2.2 fun k q=>dY.2 (hk k q);by_cases hm:allV kind∈openM A kind ks
 ·rw [sjoinM_all ha hm] at h;exact absurd rfl h
 cases hcl:clashTo A kind (keptM A kind (restM A kind ks)) (keptM A kind (restM A kind ks)).length
 ·rw [sjoinM_join ha hm hcl] at h⊢;refine joinM_over h5 (fun k hkm=>?_) h;obtain ⟨y,hy,hxy⟩:=left_mem hkm;have h1:=hk y hy;have:=flatX_mem hB h1.1 h1.2 hxy;omega
 ·rw [sjoinM_clash ha hm hcl] at h;exact absurd rfl h
theorem bindM_over {A:aF} {k:Int} (h7:kind=7∨kind=8) (hk:0≤k∧k<(A.nodes.length:Int)) (h:(dR A nodes limbs sp ov kind v k).1.2≠0):(dR A nodes limbs sp ov kind v k).2.2.2=(dR A nodes limbs sp ov kind v k).1.2:=by
 rw [bindM_go h7 (dY.2 hk)] at h⊢;exact madeM_over h
theorem atomM_over {A:aF} (hX:(bV X).1=0) (h:(cZ A nodes limbs sp ov X).1.2≠0):(cZ A nodes limbs sp ov X).2.2.2=(cZ A nodes limbs sp ov X).1.2:=by
 unfold cZ at h⊢;obtain ⟨⟨e,B⟩,hr⟩:∃r,r=bV X:=⟨_,rfl⟩;rw [←hr] at h hX⊢;obtain rfl:e=0:=hX;by_cases hkd:B.kind≤1
 ·rw [atomR_const hkd] at h;exact absurd rfl h
 ·rw [atomR_go hkd] at h⊢;exact madeM_over h
def OverT (T:TurnF) (I:aF→Int→Int→Prop) (R:aF→Int→Prop):Prop:=∀{A:aF} {sp ov x:Int} {ks:List Int},I A sp ov→0≤x→x<(A.nodes.length:Int)→(∀k∈ks,R A k)→ks.length=(ndA A x).kids.length→(T A sp ov x ks).1.2≠0→(T A sp ov x ks).2.2.2=(T A sp ov x ks).1.2
theorem kidsM_over {I:aF→Int→Int→Prop} {R:aF→Int→Prop} {W:WSt→Int→(Int × Int) × WSt} {m:Int} {N:Nat} (H:∀s k,WOk I R s→N≤s.A.nodes.length→0≤k→k<m→k<(N:Int)→WKeep I R k s (W s k).1.2 (W s k).2∧((W s k).1.2≠0→(W s k).2.ov=(W s k).1.2)) :
  ∀(l:List Int) (s:WSt) (out:List Int),WOk I R s→N≤s.A.nodes.length→(∀k∈l,0≤k∧k<m∧k<(N:Int))→(cR W s out l).1.2≠0→(cR W s out l).2.ov=(cR W s out l).1.2
 | [],s,out,hs,_,_,he=>absurd rfl he
 | k::l,s,out,hs,hN,hl,he=>by
  have hk:=hl k (kZ1 ..);obtain ⟨⟨q1,q2,q3,q4⟩,q5⟩:=H s k hs hN hk.1 hk.2.1 hk.2.2;unfold cR at he⊢;by_cases h0:(W s k).1.2=0
  ·rw [if_pos h0] at he⊢;exact kidsM_over (I:=I) (R:=R) (W:=W) (m:=m) (N:=N) H l (W s k).2 (out++[(W s k).1.1]) (q3 h0) (bZ1 hN q2.len) (fun j hj=>hl j (lZ1 _ hj)) he
  ·rw [if_neg h0] at he⊢;exact q5 h0
theorem walkM_over {T:TurnF} {I:aF→Int→Int→Prop} {R:aF→Int→Prop} (hT:TurnOk T I R) (hE:OverT T I R):∀(f:Nat) (s:WSt) (x:Int),WOk I R s→x.toNat<f→0≤x→x<(s.A.nodes.length:Int)→(cI T f s x).1.2≠0→(cI T f s x).2.ov=(cI T f s x).1.2
 | 0,_,_,_,h,_,_,_=>by omega
 | f+1,s,x,hs,hf,h0,h1,he=>by
  cases hc:s.came x with
  | some y=>
   rw [walkM_there hc] at he;exact absurd rfl he
  | none=>
   have hin:∀k∈(ndA s.A x).kids,0≤k∧k<x∧k<((s.A.nodes.length:Nat):Int):=fun k hk=>by have:=(hT.below hs.1).kid h0 h1 hk;omega
   have hk:=kidsM_ok (I:=I) (R:=R) (W:=cI T f) (m:=x) (N:=s.A.nodes.length) hT.mono (fun s' k hs' hN hk0 hkx hkN=>walkM_ok hT f s' k hs' (by omega) hk0 (by omega)) (ndA s.A x).kids s [] hs (bZ2 _) hin (fun o ho=>by cases ho);have ho:=kidsM_over (I:=I) (R:=R) (W:=cI T f) (m:=x) (N:=s.A.nodes.length) (fun s' k hs' hN hk0 hkx hkN=>⟨(walkM_ok hT f s' k hs' (by omega) hk0 (by omega)).1,walkM_over hT hE f s' k hs' (by omega) hk0 (by omega)⟩) (ndA s.A x).kids s [] hs (bZ2 _) hin;obtain ⟨r,hr⟩:∃r,cR (cI T f) s [] (ndA s.A x).kids=r:=⟨_,rfl⟩;rw [hr] at hk ho;obtain ⟨⟨q1,q2,q3,q4⟩,q5⟩:=hk;by_cases hre:r.1.2=0
   ·obtain ⟨⟨out,e⟩,t⟩:=r;obtain rfl:e=0:=hre;obtain ⟨q6,q7⟩:=q5 rfl;have hlen:x<(t.A.nodes.length:Int):=by have:=q2.len;simp only at this;omega
    rw [walkM_turn hc hr] at he⊢;exact hE (x:=x) (ks:=out) q1 h0 hlen q6 (by rw [q2.nd h0 h1];simpa using q7) he
   ·rw [walkM_err hc hr hre];exact ho hre
def SubW (V:List Int) (nodes limbs:Int) (A0:aF) (A:aF) (sp ov:Int):Prop:=SubI V nodes limbs A0 A sp ov∧WellA A
theorem substT_well {sp':Int} {A:aF} (h:WellA A) (hI:InvA V nodes A sp'):WellA (cS f nodes limbs A sp ov x ks).2.1:=by
 unfold cS;split
 ·exact sjoinM_well h hI
 split
 ·exact bindM_well h hI
 ·exact atomM_well h hI
theorem subW_ok (h0:0≤limbs) (hn:nodes≤2000) (hl:limbs≤8) (hV:V.length≤262144) (hf:SmallF V f):TurnOk (cS f nodes limbs) (SubW V nodes limbs A0) RngR:=by
 have h:=substT_ok (A0:=A0) h0 hn hl hV hf;exact⟨fun hI q0 q1 q2 q3=>by
  have:=h.step hI.1 q0 q1 q2 q3;exact⟨⟨this.1,substT_well hI.2 hI.1.1.inv⟩,this.2⟩,h.mono,h.rng,fun hI=>h.below hI.1⟩
theorem subst_over (hf:∀X,(bV (f X)).1=0):OverT (cS f nodes limbs) (SubW V nodes limbs A0) RngR:=fun {A sp ov x ks} hI h0 h1 hks hkl he=>by
 have h:=hI.1.1;unfold cS at he⊢;by_cases h5:(ndA A x).kind=5∨(ndA A x).kind=6
 ·rw [if_pos h5] at he⊢;exact sjoinM_over h.below h5 hks he
 rw [if_neg h5] at he⊢;by_cases h7:(ndA A x).kind=7∨(ndA A x).kind=8
 ·rw [if_pos h7] at he⊢;have:=(h.one h0 h1 h7).1;exact bindM_over h7 (hks _ (cU 0 (by omega))) he
 ·rw [if_neg h7] at he⊢;exact atomM_over (hf _) he
def QG (v:Int) (W:List Int) (A:aF) (x y:Int):Prop:=(0≤x∧x<(A.nodes.length:Int))∧(0≤y∧y<(A.nodes.length:Int))∧∀u,FrI A.nodes u y→(FrI A.nodes u x∧u≠v)∨u∈W
theorem QG.mono {A A':aF} {y:Int} (h:QG v W A x y) (hB:Below A.nodes) (he:Ext A A'):QG v W A' x y:=by
 obtain ⟨h1,h2,h3⟩:=h;have:=he.len;exact⟨⟨h1.1,by omega⟩,⟨h2.1,by omega⟩,fun u hu=>by rw [fr_extA he hB h1];exact h3 u ((fr_extA he hB h2).1 hu)⟩
theorem put_q (h0:0≤limbs) (hn:nodes≤2000) (hl:limbs≤8) (hV:V.length≤262144) (hU:bZ Lu nu V U) (hLu:Lu≤1148576) (hnu:nu≤16000000):TurnQ (cS (fun X=>putV X v U) nodes limbs) (SubW V nodes limbs A0) RngR (QG v (namesT U)):=by
 have hf:=putV_small (v:=v) hV hU hLu hnu;refine ⟨subW_ok h0 hn hl hV hf,fun {A sp ov x ks} hI hx hks he hB hext=>?_,fun q hB k=>q.mono hB k⟩;have h:=hI.1.1;have hxr:∀{A':aF},Ext A A'→0≤x∧x<(A'.nodes.length:Int):=fun q=>⟨hx.1,by have:=q.len;omega⟩;unfold cS at he hB hext⊢;by_cases h5:(ndA A x).kind=5∨(ndA A x).kind=6
 ·rw [if_pos h5] at he hext⊢;refine ⟨hxr hext,sjoinM_rng h h5 he,fun u hu=>?_⟩;obtain ⟨k,hk,q⟩:=sjoinM_fr h0 h h5 he hu;obtain ⟨x',hx',q1,q2,q3⟩:=hks.1 k hk;rw [fr_extA hext h.below hx];exact (q3 u q).imp (fun ⟨p1,p2⟩=>⟨.kid hx' p1 fun h7=>by have h7':7≤(ndA A x).kind:=h7;omega,p2⟩) id
 rw [if_neg h5] at he hB hext⊢;by_cases h7:(ndA A x).kind=7∨(ndA A x).kind=8
 ·rw [if_pos h7] at he hext⊢;obtain ⟨q1,q2⟩:=h.one hx.1 hx.2 h7;refine ⟨hxr hext,bindM_rng h he,fun u hu=>?_⟩;obtain ⟨p1,p2⟩:=(bindM_fr h0 q2 h h7 he).1 hu;have hkm:ks.getD 0 0∈ks:=by
   obtain ⟨y,hy,-⟩:=hks.2 ((ndA A x).kids.getD 0 0) (cU 0 (by omega));refine cU 0 ?_;cases ks with
   | nil=>cases hy
   | cons a l=>simp
  obtain ⟨x',hx',-,-,q3⟩:=hks.1 _ hkm;rw [fr_extA hext h.below hx];exact (q3 u p1).imp (fun ⟨p3,p4⟩=>⟨.kid hx' p3 fun _=>p2,p4⟩) id
 ·rw [if_neg h7] at he hB hext⊢;have hkd:=h.kinds hx.1 hx.2;have h4:(ndA A x).kind≤4:=by omega
  obtain ⟨s1,s2,s3⟩:=h.small hl hV hx.1 hx.2;have hX:=hf ⟨(ndA A x).kind,(ndA A x).d,(ndA A x).t⟩ s1 s2 s3;have hc:=atomM_alt h hX (atomM_came (ov:=ov) hX h) he;refine ⟨hxr hext,hc.1,fun u hu=>?_⟩;have hp:=(small_put s1 hU v (by omega)).1;have hW:∀p∈(putV ⟨(ndA A x).kind,(ndA A x).d,(ndA A x).t⟩ v U).t.parts,p.1∈(putT (ndA A x).t v U).parts.map (·.1):=fun p hp'=>by
   have hform:=(h.formA hx h4).1;unfold putV at hp';rw [hform,if_neg (by simp)] at hp';exact (dW (V:=(putT (ndA A x).t v U).parts.map (·.1)) (k:=(ndA A x).kind) (d:=(ndA A x).d) (l:=(putT (ndA A x).t v U).parts) (z:=(putT (ndA A x).t v U).k) (L:=8+Lu+4) (n:=262144+nu) ⟨hp.len,hp.parts,hp.k,fun p hp=>iZ2.2 ⟨p,hp,rfl⟩⟩ (by omega) (by omega)).t.vars p hp'
  obtain ⟨p,hp1,rfl⟩:=iZ2.1 (atomM_fr h hX hW he hu);rw [fr_extA hext h.below hx];exact (put_names hp1).imp (fun ⟨q1,q2⟩=>⟨.here q1 fun h8=>by have h8':7≤(ndA A x).kind:=h8;omega,q2⟩) id
theorem skipS_iff {A:aF} (h:WellA A) (hB:Below A.nodes) (hs:skipS A v x=true):(0≤x∧x<(A.nodes.length:Int))∧¬FrI A.nodes v x:=by
 unfold skipS at hs;simp only [Bool.and_eq_true,decide_eq_true_eq] at hs;refine ⟨hs.1,fun q=>?_⟩;have:=hs.2;unfold skipM at this;rw [decide_eq_true ((free_iff h hB hs.1).2 q)] at this;simp at this
theorem gone_law {A:aF} (h:bW V 2000 8 A sp) (hW:WellA A) (hG:GoodF A) (hV:V.length≤262144) (hx:0≤x∧x<(A.nodes.length:Int)) (hU:bZ Lu nu V U) (hLu:Lu≤1148576) (hnu:nu≤16000000) :
  ((sputM A 2000 8 sp ov x v U c).1.2≠0→(sputM A 2000 8 sp ov x v U c).1.2=120∨(sputM A 2000 8 sp ov x v U c).2.2.2=(sputM A 2000 8 sp ov x v U c).1.2) ∧
  ((sputM A 2000 8 sp ov x v U c).1.2=0→SubW V 2000 8 A (sputM A 2000 8 sp ov x v U c).2.1 (sputM A 2000 8 sp ov x v U c).2.2.1 (sputM A 2000 8 sp ov x v U c).2.2.2∧QG v (namesT U) (sputM A 2000 8 sp ov x v U c).2.1 x (sputM A 2000 8 sp ov x v U c).1.1):=by
 have hq:=put_q (V:=V) (nodes:=2000) (limbs:=8) (A0:=A) (U:=U) (v:=v) (by decide) (by decide) (by decide) hV hU hLu hnu;have hs:WQ (SubW V 2000 8 A) RngR (QG v (namesT U)) (mapS (skipS A v) ⟨fun _=>none,A,sp,ov⟩):=by
  have hc:∀u y,(mapS (skipS A v) ⟨fun _=>none,A,sp,ov⟩).came u=some y→y=u∧skipS A v u=true:=fun u y hu=>by
   have h1:(if skipS A v u then some u else none)=some y:=hu;by_cases hk:skipS A v u=true
   ·rw [if_pos hk] at h1;cases h1;exact⟨rfl,hk⟩
   ·rw [if_neg hk] at h1;cases h1
  refine ⟨⟨⟨⟨h,hG,ExtA.refl A⟩,hW⟩,fun u y hu=>?_⟩,fun u y hu=>?_⟩
  ·obtain ⟨rfl,hk⟩:=hc u y hu;exact (skipS_iff hW h.below hk).1
  ·obtain ⟨rfl,hk⟩:=hc u y hu;obtain ⟨q1,q2⟩:=skipS_iff hW h.below hk;exact⟨q1,q1,fun w hw=>.inl ⟨hw,fun e=>q2 (by rw [←e];exact hw)⟩⟩
 have h1:=walkM_q hq (x.toNat+1) _ x hs (by omega) hx.1 hx.2;have h2:=walkM_over hq.ok (subst_over (fun X=>putV_fine X v U)) (x.toNat+1) _ x hs.1 (by omega) hx.1 hx.2;unfold sputM;rw [if_neg (by rw [dY.2 hx];simp)];cases c
 ·rw [if_neg (by simp)];obtain ⟨r,hr⟩:∃r,cI (cS (fun X=>putV X v U) 2000 8) (x.toNat+1) (mapS (skipS A v) ⟨fun _=>none,A,sp,ov⟩) x=r:=⟨_,rfl⟩;rw [hr] at h1 h2⊢;unfold answerV;simp only;by_cases he:r.1.2=0
  ·rw [if_neg (by simpa using he)];simp only;obtain ⟨q1,q2,q3⟩:=h1 he;exact⟨fun q=>absurd rfl q,fun _=>⟨q1.1.1,q3⟩⟩
  ·rw [if_pos he];simp only;exact⟨fun _=>.inr (h2 he),fun q=>absurd q he⟩
 ·rw [if_pos rfl];exact⟨fun _=>.inl rfl,fun q=>by simp at q⟩
end
theorem built12_any {B0:Nat} {O M0 M:Nat→Prop} {w:World} {g gm:Nat} {A:aF} {V:List Int} {al:Option Addr} {nl cl:Nat} {l:List dG} {nodes limbs sp ov:Int} (hA:bX O w g gm A) (hT:Tab B0 w) (hB:∀b,O b∨b=gm→B0≤b) (hO:∀b,O b→M0 b) (hM0:MB M0 w) (hm:bK M0 w gm nodes limbs sp ov)
  (hl:MakesAt M w al nl cl l) (hMO:∀b,O b∨b=gm→M b) (hI:InvA V nodes A sp) (hn:nodes≤2000) (hV:V.length≤262144) (hV2:∀v∈V,I64 v) (hX:∀m∈l,SmallX V m.x) :
  Calls prog 29 #[.pointer (some ⟨g,0,none⟩),.slice al nl cl] w fun e w'=>∃v O',e=.returned v∧Half8 O M0 w g gm nodes limbs w' v (buildM nodes limbs ⟨A,sp,ov,[0,1]⟩ (l.take 40)) O':=by
 obtain ⟨i1,hi1⟩:=info_parts info_int;have HI:=jJ hi1;have hnl:l.length=nl:=SlOf.len hl;have hcap:=SlOf.cap hl;have hle:=SlOf.le hl;have hgm:=hm.lt;have HA:=jJ (aI13 hA hT hB hO hM0 hm hl hMO hI hV hV2 hX hnl);clear hi1 hA hT hB hO hM0 hm hl hMO hI hV hV2 hX hnl;go_enter func29,ntmps29
 go_upto_region 2 with (fail)
 have r0:=aC.alloc (w:=w) (E:=3) (xs:=[.int .i64 0,.int .i64 1]);change aC (w.alloc (.cells #[.int .i64 0,.int .i64 1] 3)) _ _ _ at r0;have k0:aA Nil w (w.alloc (.cells #[.int .i64 0,.int .i64 1] 3)):=kOf;generalize w.alloc (.cells #[.int .i64 0,.int .i64 1] 3)=w0 at *
 have H0:=jJ (start8 (ov:=ov) HA.o.1 HA.o.2.2.2.1 HA.o.r5.1 k0 r0 (bZ2 _));clear k0 r0;go_wp2_with fail
 go_loopw [5,6] (fun v i wr=>∃(j:Nat) (va:Option Addr) (vc:Nat) (s:St) (O':Nat→Prop),j≤nl∧j≤40∧i=.int .i64 (j:Int)∧s=buildM nodes limbs ⟨A,sp,ov,[0,1]⟩ (l.take j)∧v=.slice va s.ids.length vc∧Half8 O M0 w g gm nodes limbs wr (.slice va s.ids.length vc) s O') (fun _ i _=>40-(intOf i).toNat)
 case atStart=>exact⟨0,_,_,⟨A,sp,ov,[0,1]⟩,O,aZ2 _,aZ2 _,rfl,rfl,rfl,H0.o⟩
 case round=>
  obtain ⟨j,va,vc,s,O',hj,hj40,rfl,hs,rfl,hH⟩:=hrel;have hinv:InvS V nodes s j:=by
   have h1:=(InvS.start (ov:=ov) HA.o.r8.1).build (limbs:=limbs) (l:=l.take j) fun m hm=>HA.o.r11.1 m (bZ3 hm);rw [←hs,iZ1,Nat.min_eq_left (by rw [HA.o.r12];exact hj),Nat.zero_add] at h1;exact h1
  by_cases hlt:j<nl∧j<40
  ·have hjl:j<l.length:=by rw [HA.o.r12];exact hlt.1
   have hlr:MakesAt M wr al nl cl l:=HA.o.r6.1.move hH.keep (fun b _ hb=>HA.o.r7.1 b hb) fun _ _ h=>h;obtain ⟨b,off,gd,gk,ad,ap,ak,aq,nd,cd,np,cp,nk,ck,nq,cq,rfl,hb,hnM,hcs,hmk⟩:=hlr.at hlt.1;have hXm:=HA.o.r11.1 (l.getD j zeroM) (cU zeroM hjl);have htk:l.take (j+1)=l.take j++[l.getD j zeroM]:=by rw [List.take_succ_eq_append_getElem hjl];simp [List.getD,hjl]
   obtain ⟨m,hmm⟩:∃m,m=l.getD j zeroM:=⟨_,rfl⟩;rw [←hmm] at hcs hmk hXm htk;have hnext:buildM nodes limbs ⟨A,sp,ov,[0,1]⟩ (l.take (j+1))=stepB nodes limbs s m:=by rw [htk,buildM_snoc,←hs]
   obtain ⟨r,hr⟩:∃r,r=stepR s.A nodes limbs s.sp s.ov s.ids m:=⟨_,rfl⟩;obtain ⟨ai,ci,ei,hids⟩:=aL.sl (M:=Nil) (R:=RI) (d:=0) (xs:=s.ids) hH.own (fun _ _ h=>h) (by rw [aJ]) (fun i hi=>by rw [aJ] at hi;simp [RI,aM,List.getD,hi]);rw [aJ] at ei hids;have ei2:va=ai∧vc=ci:=by simpa using ei
   obtain ⟨rfl,rfl⟩:=ei2;have hof:=ofM_ok (m:=m) (by have:=hinv.two;omega) hinv.ids;have hk1:I64 m.kind:=hmk.r9.1;have hk2:I64 m.v:=hmk.r10;have hi2:=hinv.two;have hi3:=hinv.len;obtain ⟨c0,c1,c2,c3,c4,c5,c6,c7,c8⟩:=hcs;have j0:(0:Int)≤(j:Int):=by omega
   have j1:(j:Int)<(nl:Int):=by omega
   have j2:(j:Int)<40:=by omega
   have HC:=jJ (aI13 hs hH hinv hmk hXm hnext hr hids hof hk1 hk2 hb hnM);have HCS:=jJ (show Cells9 wr b (off+j*9) gd gk ad ap ak aq nd cd np cp nk ck nq cq m from ⟨c0,c1,c2,c3,c4,c5,c6,c7,c8⟩);clear hs hH hinv hmk hXm hnext hr hids hof hk1 hk2 hlr ei htk hmm hlt hnM;go_upto_region 6 with (go_at_call 78;go_loud (refine (of8_any HC.o.2.2.2.1 HC.o.r7.1 (by omega) (by omega)).mono ?_);rintro e w1 ⟨v7,rfl,ho7,hk1⟩;obtain ⟨a7,c7',rfl⟩:=ho7.isSlice;have hb1:b<w1.heap.size:=cZ1 hb hk1.size;have H1:=jJ (aI ho7 hk1);clear ho7 hk1)
   obtain ⟨c0,c1,c2,c3,c4,c5,c6,c7,c8⟩:=HCS.o.keep hb H1.o.2 id;have ho7:aL w1 wr.heap.size 3 1 (.slice a7 (ofM m s.ids).length c7') (aM (ofM m s.ids)):=by have h:=H1.o.1;rw [aJ] at h;exact h
   have H7:=jJ ho7;clear ho7;try rw [aJ]
   go_upto_block 2 with (go_at_call 79;go_loud (refine (what8_any HC.o.r9.1).mono ?_);rintro e w2 ⟨rfl,hk2⟩;have hb2:b<w2.heap.size:=cZ1 hb1 hk2.size;have H2:=jJ hk2;clear hk2)
   clear c0 c1 c2 c3 c4 c5 c6 c7 c8;have k12:aA Nil wr w2:=H1.o.2.trans H2.o;obtain ⟨c0,c1,c2,c3,c4,c5,c6,c7,c8⟩:=HCS.o.keep hb k12 id;obtain ⟨q,hq⟩:∃q,q=whatM m:=⟨_,rfl⟩;rw [←hq];have HQ:=jJ hq;have hH:=HC.o.2.1;have hinv:=HC.o.2.2.1;have HP:=jJ (show bX O' w2 g gm s.A∧Tab B0 w2∧(∀b,O' b→M0 b∨O' b∨(Value.slice va s.ids.length vc).ownBlock=some b)∧MB (fun b=>M0 b∨O' b∨(Value.slice va s.ids.length vc).ownBlock=some b) w2∧bK (fun b=>M0 b∨O' b∨(Value.slice va s.ids.length vc).ownBlock=some b) w2 gm nodes limbs s.sp s.ov∧MakeAt M w2 gd ad nd cd ap np cp gk ak nk ck aq nq cq m∧aL w2 wr.heap.size 3 1 (.slice a7 (ofM m s.ids).length c7') (aM (ofM m s.ids))∧aA Nil wr w2 from
    ⟨hH.arena.keep k12 fun _ h=>h.elim,(HA.o.2.1.keep hH.keep HA.o.2.2.1).keepNil k12,fun b hb=>.inr (.inl hb),fun b hb=>by
     have h1:=hH.keep.size;have h2:=k12.size;rcases hb with hb|hb|hb
     ·have:=HA.o.r4.1 b hb;omega
     ·have:=hH.arena.lt b hb;omega
     ·have:=(hH.own.lt b hb).2;omega,hH.meter.keepNil k12,HC.o.2.2.2.1.move k12 (fun _ _ h=>h.elim) fun _ _ h=>h,H7.o.keepNil H2.o,k12⟩)
   have g1:0≤s.sp:=hinv.inv.sp0;have g2:s.sp≤nodes:=hinv.inv.spn;have g3:s.A.cnt<1000000:=by have:=hinv.inv.cnt;omega
   have g4:s.A.nodes.length≤1000000:=by have:=hinv.inv.used;omega
   have g5:2≤s.A.nodes.length:=hinv.inv.once.two;have HI2:=jJ hinv.inv;clear k12 hH hinv hq H7;go_cut [8,9] (fun x y wx=>∃O2:Nat→Prop,x=.int .i64 r.1.1∧y=.int .i64 r.1.2∧Half8 O M0 w g gm nodes limbs wx (.slice va s.ids.length vc) ⟨r.2.1,r.2.2.1,r.2.2.2,s.ids⟩ O2)
   case first=>
    have hr:=HC.o.r6.1;rcases whatM_cases m with h|h|h|h|h
    ·obtain rfl:q=0:=HQ.o.trans h;have hr0:r=cZ s.A nodes limbs s.sp s.ov m.x:=by rw [hr];unfold stepR;rw [if_pos h]
     have HR:=jJ hr0;clear hr hr0 h;go_wp2_with (go_at_call 37;have hX:=HC.o.r4.1;have hsm:=small_norm hX.1 (by decide);go_loud (refine (aatom_any HP.o.1 HP.o.2.1 HP.o.2.2.1 HP.o.2.2.2.1 HP.o.r4.1 HP.o.r5.1.1.toNil HP.o.r5.1.2.1 HP.o.r5.1.2.2.1.toNil (by have h1:=SlOf.len HP.o.r5.1.2.1;have h2:=hX.1.len;simp only at h2;omega) (by have:=HP.o.r5.1.r4.1;omega) ⟨fun p hp=>bZ1 (hsm.parts p hp) (by decide),bZ1 hsm.k (by decide),bZ1 hsm.len (by decide)⟩ (bZ1 hX.2 (by decide)) g1 g2 hn g3 g4 g5 (fun h2=>ok_of_small HI2.o hn HA.o.r9.1 HA.o.r10.1 (dW hX.1 hX.2 (by decide)) h2 (by decide) (by decide))).mono ?_);intro e w3 hst;obtain ⟨rfl,O2,h8⟩:=HC.o.2.1.step (r:=r) HP.o.r7 hgm (by rw [HR.o];exact hst);have H8:=jJ h8;clear hst h8 hX hsm)
     go_meet
     exact⟨O2,rfl,rfl,H8.o⟩
    ·obtain rfl:q=1:=HQ.o.trans h;have hr0:r=dM s.A nodes limbs s.sp s.ov 5 (ofM m s.ids):=by rw [hr];unfold stepR;rw [if_neg (by rw [h];decide),if_pos h]
     have HR:=jJ hr0;clear hr hr0 h;obtain ⟨ax,cx,ex,hx⟩:=aL.sl (M:=Nil) (R:=RI) (d:=0) (xs:=ofM m s.ids) HP.o.r6.1 (fun _ _ h=>h) (by rw [aJ]) (fun i hi=>by rw [aJ] at hi;simp [RI,aM,List.getD,hi]);rw [aJ] at ex hx;have ex2:a7=ax∧c7'=cx:=by simpa using ex
     obtain ⟨rfl,rfl⟩:=ex2;have HX:=jJ hx;clear hx ex;go_wp2_with (go_at_call 52;go_loud (refine (ajoin_any HP.o.1 HP.o.2.1 HP.o.2.2.1 HP.o.2.2.2.1 HP.o.r4.1 HX.o g1 g2 hn g3 g4 g5 (bZ1 HC.o.r8.1.2.2 (by decide)) (room_kids HI2.o hn HA.o.r9.1 (by decide) (by decide) (fun _=>rfl) (neatF_pair _) (fun k hk=>HC.o.r8.1.1 k (dI.1 hk)))).mono ?_);intro e w3 hst;obtain ⟨rfl,O2,h8⟩:=HC.o.2.1.step (r:=r) HP.o.r7 hgm (by rw [HR.o];exact hst);have H8:=jJ h8;clear hst h8)
     go_meet
     exact⟨O2,rfl,rfl,H8.o⟩
    ·obtain rfl:q=2:=HQ.o.trans h;have hr0:r=dM s.A nodes limbs s.sp s.ov 6 (ofM m s.ids):=by rw [hr];unfold stepR;rw [if_neg (by rw [h];decide),if_neg (by rw [h];decide),if_pos h]
     have HR:=jJ hr0;clear hr hr0 h;obtain ⟨ax,cx,ex,hx⟩:=aL.sl (M:=Nil) (R:=RI) (d:=0) (xs:=ofM m s.ids) HP.o.r6.1 (fun _ _ h=>h) (by rw [aJ]) (fun i hi=>by rw [aJ] at hi;simp [RI,aM,List.getD,hi]);rw [aJ] at ex hx;have ex2:a7=ax∧c7'=cx:=by simpa using ex
     obtain ⟨rfl,rfl⟩:=ex2;have HX:=jJ hx;clear hx ex;go_wp2_with (go_at_call 52;go_loud (refine (ajoin_any HP.o.1 HP.o.2.1 HP.o.2.2.1 HP.o.2.2.2.1 HP.o.r4.1 HX.o g1 g2 hn g3 g4 g5 (bZ1 HC.o.r8.1.2.2 (by decide)) (room_kids HI2.o hn HA.o.r9.1 (by decide) (by decide) (fun _=>rfl) (neatF_pair _) (fun k hk=>HC.o.r8.1.1 k (dI.1 hk)))).mono ?_);intro e w3 hst;obtain ⟨rfl,O2,h8⟩:=HC.o.2.1.step (r:=r) HP.o.r7 hgm (by rw [HR.o];exact hst);have H8:=jJ h8;clear hst h8)
     go_meet
     exact⟨O2,rfl,rfl,H8.o⟩
    ·obtain rfl:q=3:=HQ.o.trans h;have hr0:r=dR s.A nodes limbs s.sp s.ov 7 (varM m) ((ofM m s.ids).getD 0 0):=by rw [hr];unfold stepR;rw [if_neg (by rw [h];decide),if_neg (by rw [h];decide),if_neg (by rw [h];decide),if_pos h]
     have hof:=HC.o.r8.1;obtain ⟨y,hy⟩:∃y,y=(ofM m s.ids).getD 0 0:=⟨_,rfl⟩;have hyr:0≤y∧y<(s.A.nodes.length:Int):=by rw [hy];exact hof.1 _ (cU 0 (by omega))
     rw [←hy] at hr0;have HR:=jJ hr0;have hown7:=HP.o.r6.1;obtain ⟨g7,rest7,rfl,hrow7,-⟩:=hown7.opens (by rw [aJ]) (by omega);have z7:w2.cell? ⟨g7,0,none⟩=some (.int .i64 y):=by
      have:=hrow7.el hown7.sz (i:=0) (j:=0) (by rw [aJ];omega) (by omega);rw [this,hy];simp [aM,List.getD,show 0<(ofM m s.ids).length by omega]
     have l7:=hrow7.lt;have h7:(0:Int)<((ofM m s.ids).length:Int):=by omega
     have h7n:0<(ofM m s.ids).length:=by omega
     have h7e:¬(ofM m s.ids).length=0:=by omega
     have h7m:¬(ofM m s.ids).length≤0:=by omega
     have HY:=jJ hyr;have Z7:=jJ z7;clear hr hr0 h hof hy hyr hrow7 hown7 z7 c0 c1 c2 c3 c4 c5 c6 c7 c8;go_upto_region 16 with (fail)
     refine aX 15 [9,10,11,12,13,14] [63,64,65,66,67,68,69,70,71,72,62,73,74,8,9] [63,64,65,66,67,68,69,70,71] [Un (LitV ?v1_0),Un (LitV ?v1_1),Un (LitV ?v1_2),Un (LitV ?v1_3),Un (LitV ?v1_4),Un (LitV (.int .i64 (varM m))),Un (LitV ?v1_6),Un (LitV ?v1_7),Un (LitV ?v1_8),nothing,nothing,nothing,nothing,nothing,nothing] (aB.sk (aB.sk (aB.sk (aB.sk (aB.sk (aB.sk (aB.nx ?r1_8 (aB.nx ?r1_7 (aB.nx ?r1_6 (aB.nx ?r1_5 (aB.nx ?r1_4 (aB.nx ?r1_3 (aB.nx ?r1_2 (aB.nx ?r1_1 (aB.nx ?r1_0 aB.zero))))))))))))))) ?rfn1
     case' r1_0|r1_1|r1_2|r1_3|r1_4|r1_5|r1_6|r1_7|r1_8=>
      intro us wj hk hp K hK;try simp only [aO,Act.put,sL] at hK⊢
      obtain ⟨c0,c1,c2,c3,c4,c5,c6,c7,c8⟩:=HCS.o.keep hb (HP.o.r7.trans hk) id;have hbj:=cZ1 hb2 hk.size;have z7:=hk.cellE l7 id Z7.out;have l7j:=cZ1 l7 hk.size
     case' r1_0|r1_1|r1_2|r1_6=>
      go_simp
      refine hK.out _ _ (aA.refl _ _) ?_;exact rfl
     case' r1_3=>
      have e1:us 64=_:=hp 1;have e2:us 65=_:=hp 2;rw [e1,e2] at hK⊢;go_simp
      refine hK.out _ _ (aA.refl _ _) ?_;exact rfl
     case' r1_4=>
      have e3:us 66=_:=hp 3;rw [e3] at hK⊢;go_simp
      refine hK.out _ _ (aA.refl _ _) ?_;exact rfl
     case' r1_5=>
      have e4:us 67=_:=hp 4;rw [e4] at hK⊢;go_simp
      refine (var8_any (gd:=gd) HC.o.r10.1).mono ?_;rintro e wk ⟨rfl,hk2⟩;exact hK.out _ _ hk2 (rfl)
     case' r1_7=>
      have e6:us 69=_:=hp 6;rw [e6] at hK⊢;go_simp
      refine hK.out _ _ (aA.refl _ _) ?_;exact rfl
     case' r1_8=>
      have e7:us 70=_:=hp 7;rw [e7] at hK⊢;go_simp
      refine hK.out _ _ (aA.refl _ _) ?_;exact rfl
     case' rfn1=>
     intro us wz hkz hf;simp only [aO,Act.put,sL];have e0:us 63=_:=hf 0;have e1:us 64=_:=hf 1;have e2:us 65=_:=hf 2;have e3:us 66=_:=hf 3;have e4:us 67=_:=hf 4;have e5:us 68=_:=hf 5;have e6:us 69=_:=hf 6;have e7:us 70=_:=hf 7;have e8:us 71=_:=hf 8;clear hf;simp only [e0,e1,e2,e3,e4,e5,e6,e7,e8];clear e0 e1 e2 e3 e4 e5 e6 e7 e8 us;refine aK 9 fun K hK=>?_;go_simp
     refine (abind_any (HP.o.1.keep hkz fun _ h=>h.elim) (HP.o.2.1.keepNil hkz) HP.o.2.2.1 (HP.o.2.2.2.1.keep hkz) (HP.o.r4.1.keepNil hkz) (varM_i64 m) g1 g2 hn g3 g4 g5 (room_kids HI2.o hn HA.o.r9.1 (by decide) (by decide) (fun h=>absurd h (by decide)) (List.pairwise_singleton _ _) (fun k hk=>by rw [dZ1.1 hk];exact HY.o))).mono ?_;intro e wb hst;obtain ⟨rfl,O2,h8⟩:=HC.o.2.1.step (r:=r) (HP.o.r7.trans hkz) hgm (by rw [HR.o];exact hst);have H8:=jJ h8;clear hst h8;skip
     refine mK ?_;clear hK K;refine aK 10 fun K hK=>?_;go_simp
     refine mK ?_;clear hK K;refine bS (rs:=[11,12]) (by kernel_rfl) (by simp) ?_;refine (aY.cons rfl (fun K hK=>?t2_11) (aY.cons rfl (fun K hK=>?t2_12) aY.nil))
     case t2_11=>
      go_simp
      refine mK ?_;clear hK K;refine bS (rs:=[12,13]) (by kernel_rfl) (by simp) ?_;refine (aY.cons rfl (fun K hK=>?t3_12) (aY.cons rfl (fun K hK=>?t3_13) aY.nil))
      case t3_12=>
       go_simp
       refine mK ?_;clear hK K;refine aK 13 fun K hK=>?_;go_simp
       refine mK ?_;clear hK K;refine aK 14 fun K hK=>?_;go_simp
       refine mK ?_;clear hK K;refine aP (by kernel_rfl) ?_ _;go_wp2_with fail
       go_meet
       exact⟨O2,rfl,rfl,H8.o⟩
      case t3_13=>
       go_simp
       refine mK ?_;clear hK K;refine aK 12 fun K hK=>?_;go_simp
       refine mK ?_;clear hK K;refine aK 14 fun K hK=>?_;go_simp
       refine mK ?_;clear hK K;refine aP (by kernel_rfl) ?_ _;go_wp2_with fail
       go_meet
       exact⟨O2,rfl,rfl,H8.o⟩
     case t2_12=>
      go_simp
      refine mK ?_;clear hK K;refine aK 11 fun K hK=>?_;go_simp
      refine mK ?_;clear hK K;refine aK 13 fun K hK=>?_;go_simp
      refine mK ?_;clear hK K;refine aK 14 fun K hK=>?_;go_simp
      refine mK ?_;clear hK K;refine aP (by kernel_rfl) ?_ _;go_wp2_with fail
      go_meet
      exact⟨O2,rfl,rfl,H8.o⟩
    ·obtain rfl:q=4:=HQ.o.trans h;have hr0:r=dR s.A nodes limbs s.sp s.ov 8 (varM m) ((ofM m s.ids).getD 0 0):=by rw [hr];unfold stepR;rw [if_neg (by rw [h];decide),if_neg (by rw [h];decide),if_neg (by rw [h];decide),if_neg (by rw [h];decide)]
     have hof:=HC.o.r8.1;obtain ⟨y,hy⟩:∃y,y=(ofM m s.ids).getD 0 0:=⟨_,rfl⟩;have hyr:0≤y∧y<(s.A.nodes.length:Int):=by rw [hy];exact hof.1 _ (cU 0 (by omega))
     rw [←hy] at hr0;have HR:=jJ hr0;have hown7:=HP.o.r6.1;obtain ⟨g7,rest7,rfl,hrow7,-⟩:=hown7.opens (by rw [aJ]) (by omega);have z7:w2.cell? ⟨g7,0,none⟩=some (.int .i64 y):=by
      have:=hrow7.el hown7.sz (i:=0) (j:=0) (by rw [aJ];omega) (by omega);rw [this,hy];simp [aM,List.getD,show 0<(ofM m s.ids).length by omega]
     have l7:=hrow7.lt;have h7:(0:Int)<((ofM m s.ids).length:Int):=by omega
     have h7n:0<(ofM m s.ids).length:=by omega
     have h7e:¬(ofM m s.ids).length=0:=by omega
     have h7m:¬(ofM m s.ids).length≤0:=by omega
     have HY:=jJ hyr;have Z7:=jJ z7;clear hr hr0 h hof hy hyr hrow7 hown7 z7 c0 c1 c2 c3 c4 c5 c6 c7 c8;go_upto_region 18 with (fail)
     refine aX 15 [9,10,11,12,13,14] [78,79,80,81,82,83,84,85,86,87,77,88,89,8,9] [78,79,80,81,82,83,84,85,86] [Un (LitV ?v4_0),Un (LitV ?v4_1),Un (LitV ?v4_2),Un (LitV ?v4_3),Un (LitV ?v4_4),Un (LitV (.int .i64 (varM m))),Un (LitV ?v4_6),Un (LitV ?v4_7),Un (LitV ?v4_8),nothing,nothing,nothing,nothing,nothing,nothing] (aB.sk (aB.sk (aB.sk (aB.sk (aB.sk (aB.sk (aB.nx ?r4_8 (aB.nx ?r4_7 (aB.nx ?r4_6 (aB.nx ?r4_5 (aB.nx ?r4_4 (aB.nx ?r4_3 (aB.nx ?r4_2 (aB.nx ?r4_1 (aB.nx ?r4_0 aB.zero))))))))))))))) ?rfn4
     case' r4_0|r4_1|r4_2|r4_3|r4_4|r4_5|r4_6|r4_7|r4_8=>
      intro us wj hk hp K hK;try simp only [aO,Act.put,sL] at hK⊢
      obtain ⟨c0,c1,c2,c3,c4,c5,c6,c7,c8⟩:=HCS.o.keep hb (HP.o.r7.trans hk) id;have hbj:=cZ1 hb2 hk.size;have z7:=hk.cellE l7 id Z7.out;have l7j:=cZ1 l7 hk.size
     case' r4_0|r4_1|r4_2|r4_6=>
      go_simp
      refine hK.out _ _ (aA.refl _ _) ?_;exact rfl
     case' r4_3=>
      have e1:us 79=_:=hp 1;have e2:us 80=_:=hp 2;rw [e1,e2] at hK⊢;go_simp
      refine hK.out _ _ (aA.refl _ _) ?_;exact rfl
     case' r4_4=>
      have e3:us 81=_:=hp 3;rw [e3] at hK⊢;go_simp
      refine hK.out _ _ (aA.refl _ _) ?_;exact rfl
     case' r4_5=>
      have e4:us 82=_:=hp 4;rw [e4] at hK⊢;go_simp
      refine (var8_any (gd:=gd) HC.o.r10.1).mono ?_;rintro e wk ⟨rfl,hk2⟩;exact hK.out _ _ hk2 (rfl)
     case' r4_7=>
      have e6:us 84=_:=hp 6;rw [e6] at hK⊢;go_simp
      refine hK.out _ _ (aA.refl _ _) ?_;exact rfl
     case' r4_8=>
      have e7:us 85=_:=hp 7;rw [e7] at hK⊢;go_simp
      refine hK.out _ _ (aA.refl _ _) ?_;exact rfl
     case' rfn4=>
     intro us wz hkz hf;simp only [aO,Act.put,sL];have e0:us 78=_:=hf 0;have e1:us 79=_:=hf 1;have e2:us 80=_:=hf 2;have e3:us 81=_:=hf 3;have e4:us 82=_:=hf 4;have e5:us 83=_:=hf 5;have e6:us 84=_:=hf 6;have e7:us 85=_:=hf 7;have e8:us 86=_:=hf 8;clear hf;simp only [e0,e1,e2,e3,e4,e5,e6,e7,e8];clear e0 e1 e2 e3 e4 e5 e6 e7 e8 us;refine aK 9 fun K hK=>?_;go_simp
     refine (abind_any (HP.o.1.keep hkz fun _ h=>h.elim) (HP.o.2.1.keepNil hkz) HP.o.2.2.1 (HP.o.2.2.2.1.keep hkz) (HP.o.r4.1.keepNil hkz) (varM_i64 m) g1 g2 hn g3 g4 g5 (room_kids HI2.o hn HA.o.r9.1 (by decide) (by decide) (fun h=>absurd h (by decide)) (List.pairwise_singleton _ _) (fun k hk=>by rw [dZ1.1 hk];exact HY.o))).mono ?_;intro e wb hst;obtain ⟨rfl,O2,h8⟩:=HC.o.2.1.step (r:=r) (HP.o.r7.trans hkz) hgm (by rw [HR.o];exact hst);have H8:=jJ h8;clear hst h8;skip
     refine mK ?_;clear hK K;refine aK 10 fun K hK=>?_;go_simp
     refine mK ?_;clear hK K;refine bS (rs:=[11,12]) (by kernel_rfl) (by simp) ?_;refine (aY.cons rfl (fun K hK=>?t5_11) (aY.cons rfl (fun K hK=>?t5_12) aY.nil))
     case t5_11=>
      go_simp
      refine mK ?_;clear hK K;refine bS (rs:=[12,13]) (by kernel_rfl) (by simp) ?_;refine (aY.cons rfl (fun K hK=>?t6_12) (aY.cons rfl (fun K hK=>?t6_13) aY.nil))
      case t6_12=>
       go_simp
       refine mK ?_;clear hK K;refine aK 13 fun K hK=>?_;go_simp
       refine mK ?_;clear hK K;refine aK 14 fun K hK=>?_;go_simp
       refine mK ?_;clear hK K;refine aP (by kernel_rfl) ?_ _;go_wp2_with fail
       go_meet
       exact⟨O2,rfl,rfl,H8.o⟩
      case t6_13=>
       go_simp
       refine mK ?_;clear hK K;refine aK 12 fun K hK=>?_;go_simp
       refine mK ?_;clear hK K;refine aK 14 fun K hK=>?_;go_simp
       refine mK ?_;clear hK K;refine aP (by kernel_rfl) ?_ _;go_wp2_with fail
       go_meet
       exact⟨O2,rfl,rfl,H8.o⟩
     case t5_12=>
      go_simp
      refine mK ?_;clear hK K;refine aK 11 fun K hK=>?_;go_simp
      refine mK ?_;clear hK K;refine aK 13 fun K hK=>?_;go_simp
      refine mK ?_;clear hK K;refine aK 14 fun K hK=>?_;go_simp
      refine mK ?_;clear hK K;refine aP (by kernel_rfl) ?_ _;go_wp2_with fail
      go_meet
      exact⟨O2,rfl,rfl,H8.o⟩
   case rest=>
    rename World=>wx;obtain ⟨O2,rfl,rfl,h8⟩:=hcut;obtain ⟨x,hx⟩:∃x,x=r.1.1:=⟨_,rfl⟩;obtain ⟨er,her⟩:∃er,er=r.1.2:=⟨_,rfl⟩;rw [←hx,←her];have hr:=HC.o.r6.1;have hnext:=HC.o.r5.1;have hws:=h8.keep.size;have hlen:s.ids.length≤1000:=by omega
    have HX:=jJ (aI6 hx her hr hnext h8 (aJ s.ids));clear hx her hr hnext h8;by_cases he:er=0
    ·have e1:(er==0)=true:=by simpa using he
     have HE:=jJ he;clear he;go_wp2_with (at_builtin;go_loud (refine cC _ rfl (.tmp 92) (.tmp 94) 56 rfl w.heap.size 3 i1 (.int .i64 0) 1 8 underlying56 HI.o.1 HI.o.2.1 HI.o.2.2.1 HI.o.2.2.2 rfl (by decide) (.slice va s.ids.length vc) _ rfl (HX.o.r4.1.own.keepNil (w':=wx.alloc (.cells #[.int .i64 x] 3)) kOf) ⟨wx.heap.size,0,none⟩ 1 1 [[.int .i64 x]] rfl rfl (by simp) (alloc_news _ _ _) (by simp [Value.oneCell']) (by rw [HX.o.r5];omega) (by rw [HX.o.r5];omega) (by simp;omega) ?_);intro v' w9 ho hk9 hf9 _;obtain ⟨a9,c9,rfl⟩:=ho.isSlice;have e9:(aM s.ids++[[Value.int .i64 x]]).length=(s.ids++[x]).length:=(by have q:=HX.o.r5;have q2:(aM s.ids++[[Value.int .i64 x]]).length=(aM s.ids).length+1:=aZ1;have q3:(s.ids++[x]).length=s.ids.length+1:=aZ1;omega);rw [e9] at ho hf9⊢;have HO:=jJ (aI3 ho hk9 hf9);clear ho hk9 hf9 e9)
     go_roundw
     case rel=>
      have hpush:=HX.o.r4.1.push (i:=x) (v':=.slice a9 (s.ids++[x]).length c9) (w2:=wx.alloc (.cells #[.int .i64 x] 3)) kOf (by rw [cells1_snoc];exact HO.o.1) HO.o.2.1 HO.o.2.2;refine ⟨j+1,a9,c9,⟨r.2.1,r.2.2.1,r.2.2.2,s.ids++[x]⟩,O2,by omega,by omega,by go_num,?_,by simp,hpush⟩;rw [HX.o.2.2.2.1];unfold stepB putR;rw [←HX.o.2.2.1,if_pos (HX.o.2.1.symm.trans HE.o),←HX.o.1]
     case measure=>simp [intOf];omega
    ·have e1:(er==0)=false:=by simpa using he
     have HE:=jJ he;clear he;go_wp2_with fail
     go_roundw
     case rel=>
      refine ⟨j+1,va,vc,⟨r.2.1,r.2.2.1,r.2.2.2,s.ids⟩,O2,by omega,by omega,by go_num,?_,rfl,HX.o.r4.1⟩;rw [HX.o.2.2.2.1];unfold stepB putR;rw [←HX.o.2.2.1,if_neg (fun h=>HE.o (HX.o.2.1.trans h))]
     case measure=>simp [intOf];omega
  ·have hend:s=buildM nodes limbs ⟨A,sp,ov,[0,1]⟩ (l.take 40):=by
    rw [hs];rcases Nat.lt_or_ge j 40 with h|h
    ·rw [eZ1 (by have:=HA.o.r12;omega),eZ1 (by have:=HA.o.r12;omega)]
    ·rw [show j=40 by omega]
   have HE:=jJ (aI hH hend);clear hH hend hs hinv;rcases Nat.lt_or_ge j nl with h|h
   ·have h40:j=40:=by omega
    subst h40;have e0:decide (((40:Nat):Int)<(nl:Int))=true:=by simp;omega
    clear hlt;go_wp2_with fail
    go_ret
    exact⟨_,O',rfl,by rw [←HE.o.2];exact HE.o.1⟩
   ·have e0:decide ((j:Int)<(nl:Int))=false:=by simp;omega
    clear hlt;go_wp2_with fail
    go_ret
    exact⟨_,O',rfl,by rw [←HE.o.2];exact HE.o.1⟩
section
variable {l:List Int} {a:Option Addr} {M:Nat→Prop} {f v u:Int} {w:World}
def metW (f v:Int) (l:List Int):Bool:=l.any fun u=>decide (u=f∧f≠v)
def metH (f:Int) (l:List Int):Bool:=l.any fun u=>decide (u=f)
theorem metW_snoc:metW f v (l++[u])=(metW f v l||decide (u=f∧f≠v)):=by simp [metW,List.any_append]
theorem metH_snoc:metH f (l++[u])=(metH f l||decide (u=f)):=by simp [metH,List.any_append]
theorem met_of {was has:List Int} (h:(f∈was∧f≠v)∨f∈has):(metW f v was||metH f has)=true:=by
 rw [Bool.or_eq_true];rcases h with ⟨h1,h2⟩|h
 ·exact .inl (List.any_eq_true.2 ⟨f,h1,by simp [h2]⟩)
 ·exact .inr (List.any_eq_true.2 ⟨f,h,by simp⟩)
theorem nums_here {n c i:Nat} (h:cB M w a n c l) (hi:i<n):∃b off,a=some ⟨b,off,none⟩∧w.cell? ⟨b,off+i,none⟩=some (.int .i64 (l.getD i 0))∧∀(M':Nat→Prop) (w':World),aA Nil w w'→w'.cell? ⟨b,off+i,none⟩=some (.int .i64 (l.getD i 0)):=by
 obtain ⟨b,off,e,q⟩:=aZ h hi;refine ⟨b,off,e,q,fun M' w' k=>?_⟩;obtain ⟨b',off',e',q'⟩:=aZ (h.keepNil k) hi;rw [e] at e';cases e';exact q'
end
def LoopsGone (w:World) (v:Int) (fl was has:List Int):Prop:=∀f∈fl,(f∈was∧f≠v)∨f∈has
theorem substGone_walk {w:World} {a1 bp ab:Option Addr} {n1 c1 mp dp nb cb k1 k2:Nat} {gb:Bool} {l:List dG} {i v:Int} {lb:aT} {zb:Int} (hT:Tab w.heap.size w) (h1:MakesAt Nil w a1 n1 c1 l∧5*(varsM l).length+l.length≤k1+20) (hi:I64 i) (hv:I64 v) (h4:(bU Nil Nil w bp mp dp lb∧ZAt Nil w gb ab nb cb zb∧nb≤1048576∧∀p∈lb,BPart p)∧5*lb.length≤k2) (hb:k1+k2≤1048576) :
  Calls prog 6 #[.slice a1 n1 c1,.int .i64 i,.int .i64 v,.agg #[.slice bp mp dp,.bool gb,.slice ab nb cb]] w fun e w'=>e=.returned (.bool true)∧aA Nil w w':=by
 obtain ⟨V,hV⟩:∃V,V=varsM l++lb.map (·.1):=⟨_,rfl⟩;have hVl:V.length≤262144:=by rw [hV,aZ1,hZ1];omega
 have sm1:=h1.1.small (V:=V) (fun v hv=>by rw [hV];exact jZ1.2 (.inl hv)) (by omega);have hX1:∀m∈l.take 40,SmallX V m.x:=fun m hm=>sm1.1 m (bZ3 hm);obtain ⟨s1,e1⟩:∃s,s=buildM 2000 8 ⟨startA,0,0,[0,1]⟩ (l.take 40):=⟨_,rfl⟩;have i0:InvA V 2000 startA 0:=InvA.start (by decide) (by decide);have j1:=(InvS.start (ov:=0) i0).build (limbs:=8) hX1;have hall1:=buildM_all (V:=V) (nodes:=2000) (limbs:=8) (by decide) (s:=⟨startA,0,0,[0,1]⟩) AllN.start hX1;have hext:=buildM_ext (nodes:=2000) (limbs:=8) (s:=⟨startA,0,0,[0,1]⟩) (l:=l.take 40);have hfive:=buildM_five (nodes:=2000) (limbs:=8) (l:=l.take 40) (s:=⟨startA,0,0,[0,1]⟩) AllN.start;have hwell:=buildM_well (nodes:=2000) (limbs:=8) (l:=l.take 40) (InvS.start (ov:=0) i0) hX1 WellA.start;rw [←e1] at j1 hall1 hext hfive hwell;have hS:bW V 2000 8 s1.A s1.sp:=⟨j1.inv,hall1,hext⟩;have hlen42:s1.A.nodes.length≤42:=by have h4:=hfive.2;have h5:(l.take 40).length≤40:=(by rw [iZ1];omega);have h6:startA.nodes.length=2:=rfl;simp only at h4;omega
 have hids2:=j1.two;have hidsl:s1.ids.length≤42:=by have h4:=j1.len;have h5:(l.take 40).length≤40:=(by rw [iZ1];omega);omega
 obtain ⟨n,hn⟩:∃n,n=s1.ids.length:=⟨_,rfl⟩;obtain ⟨q,hq⟩:∃q,q=pickN i n:=⟨_,rfl⟩;have hqn:q<n:=by rw [hq];exact pickN_lt (by omega)
 obtain ⟨x,hx⟩:∃x,x=s1.ids.getD q 0:=⟨_,rfl⟩;have hxr:0≤x∧x<(s1.A.nodes.length:Int):=by rw [hx];exact j1.ids _ (cU 0 (by omega))
 have m1:MakesAt (fun b=>w.heap.size≤b) w a1 n1 c1 l:=h1.1.move (aA.refl Nil w) (fun _ _ h=>h.elim) fun b hb hx=>by omega
 have m4:bU (fun b=>w.heap.size≤b) (fun b=>w.heap.size≤b) w bp mp dp lb:=h4.1.1.widen (aA.refl Nil w) (fun _ _ h=>h.elim) fun b hb hx=>by omega
 have z4:ZAt (fun b=>w.heap.size≤b) w gb ab nb cb zb:=h4.1.2.1.move (aA.refl Nil w) (fun _ _ h=>h.elim) fun b hb hx=>by omega
 have hU:bZ 1048576 (lb.length) V ⟨lb,zb⟩:=⟨bZ2 _,fun p hp=>(h4.1.2.2.2 p hp).1,bZ1 (zat_nlen h4.1.2.1) h4.1.2.2.1,fun p hp=>by rw [hV];exact jZ1.2 (.inr (iZ2.2 ⟨p,hp,rfl⟩))⟩;have hVi:∀v∈V,I64 v:=fun v hv=>by
  rw [hV] at hv;rcases jZ1.1 hv with hv|hv
  ·exact sm1.2 v hv
  ·obtain ⟨p,hp,rfl⟩:=iZ2.1 hv;exact (h4.1.2.2.2 p hp).2
 have hmp:mp≤16777216:=by have:=SlOf.len h4.1.1;omega
 have hin:=putIn_small (v:=v) hS hfive.1 hlen42 hVl hU (by decide) (by omega);have HV:=jJ (aI6 hVl hVi sm1.1 i0 hS hin);have HE:=jJ (aI6 e1 hn hq hqn hx hxr);have HM:=jJ (aI6 m1 m4 z4 hi hmp h4.1.2.2.1);have HG:=jJ (fun (sp ov:Int) (c:Bool)=>gone_law (sp:=s1.sp) (ov:=s1.ov) (x:=x) (v:=v) (c:=c) hS hwell (GoodF.raw hS hfive.1 hlen42) hVl hxr hU (by decide) (by omega));have HW:=jJ hwell;have HT:=jJ hT;have HD:=jJ (aI hids2 hidsl);clear hVi hV hVl sm1 hX1 e1 i0 j1 hall1 hext hfive hwell hS hlen42 hids2 hidsl hn hq hqn hx hxr m1 m4 z4 hU hmp hin h1 h4 hb hT hi hv;go_enter func6,ntmps6
 go_upto_region 1 with (fail)
 obtain ⟨w0,e_1,k0,r0⟩:=bx1 w 27 [.slice bp mp dp,.bool gb,.slice ab nb cb];rw [e_1];clear e_1;have H0:=jJ (aI k0 r0);clear k0 r0;go_upto_region 2 with (go_at_call 8;go_loud (refine (awake12_any (HT.o.keepNil H0.o.1)).mono ?_);rintro e w1 ⟨rfl,hk1⟩;have H1:=jJ (aI hk1 (H0.o.1.trans hk1));clear hk1)
 go_upto_region 3 with (go_at_call 28;refine (anew_nil (M:=Nil) (MB.nil _)).mono ?_;rintro e w2 ⟨g,b2,b3,b4,b5,gm,hm,hgm,rfl,r0,r2,r3,r4,r5,hk,h1,h2,h3,h4,h5⟩;have H2:=jJ (Up.start hm hgm r0 r2 r3 r4 r5 hk h1 h2 h3 h4 h5);clear hm hgm r0 r2 r3 r4 r5 hk h1 h2 h3 h4 h5)
 obtain ⟨O,hU⟩:=H2.o;have z1:=H1.o.2.size;have zb1:w.heap.size<w1.heap.size:=(H0.o.2.keep H1.o.1 id).lt;have k02:aA Nil w w2:=H1.o.2.trans hU.keep;have mk2:=HM.o.1.move k02 (M2:=fun b=>w.heap.size≤b) (fun _ _ h=>h.elim) fun _ _ h=>h;have HU:=jJ hU;have HB2:=jJ (aI k02 mk2);clear k02 mk2 hU H2;go_upto_region 4 with (go_at_call 29;go_loud (refine (built12_any (B0:=w.heap.size) (M0:=O) HU.o.arena (HT.o.keepNil HB2.o.1) (fun b hb=>bZ1 z1 (HU.o.low b hb)) (fun _ h=>h) HU.o.mb HU.o.meter HB2.o.2 (fun b hb=>bZ1 z1 (HU.o.low b hb)) HV.o.2.2.2.1 (by decide) HV.o.1 HV.o.2.1 HV.o.2.2.1).mono ?_);rintro e w3 ⟨v3,O3,rfl,h3⟩;rw [←HE.o.1] at h3;obtain ⟨a3,d3,rfl⟩:=h3.own.isSlice;rw [aJ] at h3⊢;have H3:=jJ h3;clear h3)
 rw [show s1.ids.length=n from HE.o.2.1.symm];have z3:=H3.o.keep.size;have u3:Up w1 w3 O3 g gm 2000 8 s1.A s1.sp s1.ov:=⟨H3.o.arena,H3.o.meter.move (aA.refl Nil w3) (fun _ _ h=>h.elim) fun b _ hb=>.inr (.inl hb),fun b hb=>by
  rcases hb with hb|hb
  ·rcases H3.o.down b hb with h|h
   ·exact HU.o.low b (.inl h)
   ·exact bZ1 HU.o.keep.size h
  ·exact HU.o.low b (.inr hb),HU.o.keep.newer H3.o.keep HU.o.low⟩
 have hid3:cB Nil w3 a3 n d3 s1.ids:=by rw [show n=s1.ids.length from HE.o.2.1];exact eB (M:=Nil) H3.o.own (fun _ _ h=>h) rfl
 obtain ⟨ib,io,rfl,ci⟩:=aZ hid3 HE.o.2.2.2.1;rw [←HE.o.r4.1] at ci;have ri:(0:Int)≤(q:Int):=by omega
 have rj:(q:Int)<(n:Int):=by have:=HE.o.2.2.2.1;omega
 have k03:aA Nil w w3:=H1.o.2.trans u3.keep;have rt:=(H0.o.2.keep (H1.o.1.trans u3.keep) id);have lrt:=rt.lt;obtain ⟨t0,t1,t2⟩:=rt.three;have hps:=sput_any (V:=V) (B0:=w.heap.size) (O:=O3) (M0:=O3) (x:=x) (v:=v) (sp:=s1.sp) (ov:=s1.ov) (bp:=bp) (mp:=mp) (dp:=dp) (gb:=gb) (ab:=ab) (nb:=nb) (cb:=cb) (lb:=lb) (zb:=zb) u3.arena (HT.o.keepNil k03) (fun _ h=>h) u3.mb u3.meter (fun b hb=>bZ1 z1 (u3.low b hb)) HV.o.r5.1 HV.o.r6.1 HV.o.r7.1 HV.o.1 HV.o.2.1 (HM.o.2.1.keepNil k03) (HM.o.2.2.1.keepNil k03) (fun b hb=>by have:=u3.low b hb;exact⟨by omega,by omega,by omega⟩) (bZ1 HM.o.r5 (by decide)) HM.o.r4.1 HV.o.r8.1 HV.o.r9;have HP:=jJ (aI4 hps u3 k03 rt);clear hps u3 hid3 k03 rt;go_upto_region 5 with (go_at_call 30;refine (pick8_any HM.o.2.2.2.1 (by have:=HE.o.2.2.2.1;omega) (by have:=HE.o.2.1;have:=HD.o.2;omega)).mono ?_;rintro e w4 ⟨rfl,rfl⟩;rw [←HE.o.2.2.1])
 go_upto_region 6 with (go_at_call 9;go_loud (refine HP.o.1.mono ?_);rintro e w4 ⟨cf,-,hst⟩;have hg:=HG.o s1.sp s1.ov cf;obtain ⟨r,hr⟩:∃r,sputM s1.A 2000 8 s1.sp s1.ov x v ⟨lb,zb⟩ cf=r:=⟨_,rfl⟩;rw [hr] at hst hg;clear hr;obtain ⟨⟨y,er⟩,A4,sp4,ov4⟩:=r;obtain ⟨rfl,O4,hu⟩:=HP.o.2.1.step hst;simp only at hg;have H4:=jJ (aI hu hg);clear hu hg hst)
 have zw:w1.heap.size≤w4.heap.size:=H4.o.1.keep.size;have k04:aA Nil w w4:=H1.o.2.trans H4.o.1.keep;have rt:=H0.o.2.keep (H1.o.1.trans H4.o.1.keep) id;have lrt4:=rt.lt;clear t0 t1 t2 ci;obtain ⟨t0,t1,t2⟩:=rt.three;have HK:=jJ (aI k04 rt);clear k04 rt;by_cases he:er=0
 ·subst he;obtain ⟨hW4,q1,q2,q3⟩:=H4.o.2.2 rfl;obtain ⟨y',hy'⟩:∃k:Nat,y=(k:Int):=⟨y.toNat,by omega⟩;obtain ⟨x',hx'⟩:∃k:Nat,x=(k:Int):=⟨x.toNat,by omega⟩;subst hy';subst hx';have hfr1:=fun u:Int=>free_iff (u:=u) hW4.2 hW4.1.1.below (x:=(y':Int)) q2;have hfr2:=fun u:Int=>free_iff (u:=u) hW4.2 hW4.1.1.below (x:=(x':Int)) q1;have hf1:=hW4.1.1.freeLen HV.o.1 (i:=y') (by omega);have hf2:=hW4.1.1.freeLen HV.o.1 (i:=x') (by omega);rw [Int.toNat_natCast] at hfr1 hfr2;obtain ⟨fl,hfl⟩:∃fl,A4.free.getD y' []=fl:=⟨_,rfl⟩;obtain ⟨was,hwas⟩:∃fl,A4.free.getD x' []=fl:=⟨_,rfl⟩;obtain ⟨has,hhas⟩:∃fl,(neatL lb).map (·.1)=fl:=⟨_,rfl⟩;have hlaw:LoopsGone w v fl was has:=fun f hf=>by
   rw [←hfl] at hf;rcases q3 f ((hfr1 f).1 hf) with ⟨p1,p2⟩|p
   ·exact .inl ⟨by rw [←hwas];exact (hfr2 f).2 p1,p2⟩
   ·exact .inr (by rw [←hhas];exact p)
  have haf1:=fun (W:World) (k:aA Nil w4 W)=>afree_any (H4.o.1.on k).arena (i:=y') (by omega) (by rw [hfl] at hf1⊢;omega);have haf2:=fun (W:World) (k:aA Nil w4 W)=>afree_any (H4.o.1.on k).arena (i:=x') (by omega) (by rw [hwas] at hf2⊢;omega);rw [hfl] at haf1;rw [hwas] at haf2;have hvs:=fun (W:World) (k:aA Nil w W)=>tvars_any (HM.o.2.1.keepNil k) (HM.o.2.2.1.toNil.keepNil k) (bZ1 HM.o.r5 (by decide)) HM.o.r4.1;rw [hhas] at hvs;have HF:=jJ (aI4 haf1 haf2 hvs hlaw);clear haf1 haf2 hvs hlaw hfr1 hfr2 hf1 hf2 hfl hwas hhas q1 q2 q3 hW4;go_upto_region 9 with (go_at_call 33;refine (HF.o.1 w4 (aA.refl _ _)).mono ?_;rintro e w5 ⟨v5,rfl,ho,hk⟩;obtain ⟨a5,c5,rfl⟩:=ho.isSlice;rw [aJ] at ho⊢;have H5:=jJ (aI (eB (M:=Nil) ho (fun _ _ h=>h) rfl) hk);clear ho hk)
  go_upto_region 10 with (go_at_call 33;refine (HF.o.2.1 w5 H5.o.2).mono ?_;rintro e w6 ⟨v6,rfl,ho,hk⟩;obtain ⟨a6,c6,rfl⟩:=ho.isSlice;rw [aJ] at ho⊢;have H6:=jJ (aI3 (eB (M:=Nil) ho (fun _ _ h=>h) rfl) (H5.o.2.trans hk) (H5.o.1.keepNil hk));clear ho hk)
  clear t0 t1 t2;obtain ⟨t0,t1,t2⟩:=(HK.o.2.keep H6.o.2.1 id).three;have lrt6:=(HK.o.2.keep H6.o.2.1 id).lt;go_upto_region 11 with (go_at_call 34;refine (HF.o.2.2.1 w6 (HK.o.1.trans H6.o.2.1)).mono ?_;rintro e w7 ⟨v7,rfl,⟨a7,c7,rfl,ho⟩,hk⟩;have H7:=jJ (aI4 (eB (M:=Nil) ho (fun _ _ h=>h) rfl) (H6.o.1.keepNil hk) (H6.o.2.2.keepNil hk) ((HK.o.1.trans H6.o.2.1).trans hk));clear ho hk)
  obtain ⟨nf,hnf⟩:∃k,k=fl.length:=⟨_,rfl⟩;obtain ⟨nw,hnw⟩:∃k,k=was.length:=⟨_,rfl⟩;obtain ⟨nh,hnh⟩:∃k,k=has.length:=⟨_,rfl⟩;have hN7:=H7.o;rw [←hnf,←hnw,←hnh] at hN7⊢;have lf:=SlOf.le hN7.2.2.1;have lw:=SlOf.le hN7.2.1;have lh:=SlOf.le hN7.1;have cf:=SlOf.cap hN7.2.2.1;have cw:=SlOf.cap hN7.2.1;have ch:=SlOf.cap hN7.1;have HN:=jJ (aI4 hN7 hnf hnw hnh);clear hN7 hnf hnw hnh H7 H5 H6 t0 t1 t2;go_wp2_with fail
  go_loopw [18] (fun iv wr=>∃j:Nat,j≤nf∧iv=.int .i64 (j:Int)∧aA Nil w7 wr) (fun iv _=>nf-(intOf iv).toNat)
  case atStart=>exact⟨0,aZ2 _,rfl,aA.refl _ _⟩
  case round=>
   obtain ⟨j,hj,rfl,hkr⟩:=hrel;rename World=>wr;by_cases hlt:j<nf
   ·obtain ⟨fb,fo,rfl,xf,xf2⟩:=nums_here (HN.o.1.2.2.1.keepNil hkr) hlt;have j0:(0:Int)≤(j:Int):=by omega
    have j1:(j:Int)<(nf:Int):=by omega
    obtain ⟨f,hf⟩:∃f,f=fl.getD j 0:=⟨_,rfl⟩;rw [←hf] at xf xf2;have hmem:f∈fl:=by rw [hf];exact cU 0 (by have:=HN.o.2.1;omega)
    have hgone:=HF.o.2.2.2 f hmem;have HC:=jJ (aI3 hkr xf2 hgone);clear hkr xf xf2 hf hmem hgone hlt;go_wp2_with fail
    go_loopw [19,20] (fun mv kv wk=>∃k:Nat,k≤nw∧kv=.int .i64 (k:Int)∧mv=.bool (metW f v (was.take k))∧aA Nil wr wk) (fun _ kv _=>nw-(intOf kv).toNat)
    case atStart=>exact⟨0,aZ2 _,rfl,rfl,aA.refl _ _⟩
    case round=>
     obtain ⟨k,hk,rfl,rfl,hkk⟩:=hrel;rename World=>wk;by_cases hlt:k<nw
     ·obtain ⟨wb,wo,rfl,xw,-⟩:=nums_here (HN.o.1.2.1.keepNil (HC.o.1.trans hkk)) hlt;have xf:=HC.o.2.1 Nil wk hkk;have k0:(0:Int)≤(k:Int):=by omega
      have k1:(k:Int)<(nw:Int):=by omega
      have htk:=takeI_snoc (l:=was) (k:=k) (by have:=HN.o.2.2.1;omega);obtain ⟨u,hu⟩:∃u,u=was.getD k 0:=⟨_,rfl⟩;rw [←hu] at xw htk;have hsn:metW f v (was.take (k+1))=(metW f v (was.take k)||decide (u=f∧f≠v)):=by rw [htk,metW_snoc]
      have HS:=jJ (aI hkk hsn);clear hkk hsn htk hu hlt;cases hm:metW f v (was.take k) with
      | true=>
       have HS2:=jJ hm;clear hm;go_upto_region 18 with (fail)
       go_quiet (fail)
       go_wp2_with fail
       go_roundw
       case rel=>exact⟨k+1,by omega,by go_num,by rw [HS.o.2,HS2.o];rfl,HS.o.1.trans kOf⟩
       case measure=>simp [intOf];omega
      | false=>
       have HS2:=jJ hm;clear hm;by_cases huf:u=f
       ·have e1:(u==f)=true:=by simpa using huf
        by_cases hfv:f=v
        ·have e2:(f != v)=false:=by simpa using hfv
         have HE2:=jJ (aI huf hfv);clear huf hfv;go_upto_region 18 with (fail)
         go_quiet (fail)
         go_wp2_with fail
         go_roundw
         case rel=>exact⟨k+1,by omega,by go_num,by rw [HS.o.2,HS2.o,decide_eq_false (fun h=>h.2 HE2.o.2)];rfl,HS.o.1.trans kOf⟩
         case measure=>simp [intOf];omega
        ·have e2:(f != v)=true:=by simpa using hfv
         have HE2:=jJ (aI huf hfv);clear huf hfv;go_upto_region 18 with (fail)
         go_quiet (fail)
         go_wp2_with fail
         go_roundw
         case rel=>exact⟨k+1,by omega,by go_num,by rw [HS.o.2,HS2.o,decide_eq_true (aI HE2.o.1 HE2.o.2)];rfl,HS.o.1.trans kOf⟩
         case measure=>simp [intOf];omega
       ·have e1:(u==f)=false:=by simpa using huf
        have HE2:=jJ huf;clear huf;go_upto_region 18 with (fail)
        go_quiet (fail)
        go_wp2_with fail
        go_roundw
        case rel=>exact⟨k+1,by omega,by go_num,by rw [HS.o.2,HS2.o,decide_eq_false (fun h=>HE2.o h.1)];rfl,HS.o.1.trans kOf⟩
        case measure=>simp [intOf];omega
     ·have hkn:k=nw:=by omega
      subst hkn;have hall:was.take k=was:=eZ1 (by have:=HN.o.2.2.1;omega);rw [hall];obtain ⟨m1,hm1⟩:∃m,m=metW f v was:=⟨_,rfl⟩;rw [←hm1];have HS:=jJ (aI hkk hm1);clear hkk hm1 hall hlt;go_wp2_with fail
      go_loopw [19,21] (fun mv kv wk2=>∃k:Nat,k≤nh∧kv=.int .i64 (k:Int)∧mv=.bool (m1||metH f (has.take k))∧aA Nil wr wk2) (fun _ kv _=>nh-(intOf kv).toNat)
      case atStart=>exact⟨0,aZ2 _,rfl,by simp [metH],HS.o.1⟩
      case round=>
       obtain ⟨k2,hk2,rfl,rfl,hkk⟩:=hrel;rename World=>wk2;by_cases hlt:k2<nh
       ·obtain ⟨wb,wo,rfl,xw,-⟩:=nums_here (HN.o.1.1.keepNil (HC.o.1.trans hkk)) hlt;have xf:=HC.o.2.1 Nil wk2 hkk;have k0:(0:Int)≤(k2:Int):=by omega
        have k1:(k2:Int)<(nh:Int):=by omega
        have htk:=takeI_snoc (l:=has) (k:=k2) (by have:=HN.o.2.2.2;omega);obtain ⟨u,hu⟩:∃u,u=has.getD k2 0:=⟨_,rfl⟩;rw [←hu] at xw htk;have hsn:(m1||metH f (has.take (k2+1)))=((m1||metH f (has.take k2))||decide (u=f)):=by rw [htk,metH_snoc,Bool.or_assoc]
        have HS3:=jJ (aI hkk hsn);clear hkk hsn htk hu hlt;cases hm:(m1||metH f (has.take k2)) with
        | true=>
         have HS2:=jJ hm;clear hm;go_upto_region 22 with (fail)
         go_quiet (fail)
         go_wp2_with fail
         go_roundw
         case rel=>exact⟨k2+1,by omega,by go_num,by rw [HS3.o.2,HS2.o];rfl,HS3.o.1.trans kOf⟩
         case measure=>simp [intOf];omega
        | false=>
         have HS2:=jJ hm;clear hm;by_cases huf:u=f
         ·have e1:(u==f)=true:=by simpa using huf
          have HE2:=jJ huf;clear huf;go_upto_region 22 with (fail)
          go_quiet (fail)
          go_wp2_with fail
          go_roundw
          case rel=>exact⟨k2+1,by omega,by go_num,by rw [HS3.o.2,HS2.o,decide_eq_true HE2.o];rfl,HS3.o.1.trans kOf⟩
          case measure=>simp [intOf];omega
         ·have e1:(u==f)=false:=by simpa using huf
          have HE2:=jJ huf;clear huf;go_upto_region 22 with (fail)
          go_quiet (fail)
          go_wp2_with fail
          go_roundw
          case rel=>exact⟨k2+1,by omega,by go_num,by rw [HS3.o.2,HS2.o,decide_eq_false HE2.o];rfl,HS3.o.1.trans kOf⟩
          case measure=>simp [intOf];omega
       ·have hkn:k2=nh:=by omega
        subst hkn;have hall:has.take k2=has:=eZ1 (by have:=HN.o.2.2.2;omega);have hmet:(m1||metH f (has.take k2))=true:=by rw [hall,HS.o.2];exact met_of HC.o.2.2
        rw [hmet];have HS3:=jJ hkk;clear hkk hall hmet hlt;go_wp2_with fail
        go_roundw
        case rel=>exact⟨j+1,by omega,by go_num,HC.o.1.trans HS3.o⟩
        case measure=>simp [intOf];omega
   ·have hjn:j=nf:=by omega
    subst hjn;have HS:=jJ hkr;clear hkr hlt;go_wp2_with fail
    go_ret
    exact⟨rfl,HN.o.1.2.2.2.trans HS.o⟩
 ·have hov:=H4.o.2.1 he;have e1:(er != 0)=true:=by simpa using he
  obtain ⟨an,cn,v1,v2,v3,hbox⟩:=H4.o.1.arena.box;have hmt:=H4.o.1.meter;by_cases h120:er=120
  ·subst h120;go_wp2_with fail
   go_ret
   exact⟨rfl,HK.o.1⟩
  ·have e2:(er==120)=false:=by simpa using h120
   have hov2:ov4=er:=hov.resolve_left h120;subst hov2;have e3:(ov4==ov4)=true:=by simp
   have HO:=jJ (aI hbox hmt);clear hov he h120 hbox hmt t0 t1 t2;go_wp2_with (first|(go_at_call 31;refine (ameter_any HO.o.1).mono ?_;rintro e w5 ⟨rfl,hk5⟩;have H5:=jJ hk5;clear hk5)|(go_at_call 32;refine (mover_any (HO.o.2.keepNil H5.o)).mono ?_;rintro e w6 ⟨rfl,hk6⟩;have H6:=jJ (H5.o.trans hk6);clear hk6))
   go_ret
   exact⟨rfl,HK.o.1.trans H6.o⟩
section
section
variable {H:Type} {enc:TypeId × Value→H} {w:World}
theorem termB_of_trod {fuel:Nat} {cs:List Value} {x:DataW H × List MemPlace} (h:DataW.trod enc prog w 0 (fun _=>true) true fuel 27 cs=some x) (hb:Rows.uptoBulk x.1≤1048576):∃a n c g b m d l z,cs=[.slice a n c,.bool g,.slice b m d]∧(bU Nil Nil w a n c l∧ZAt Nil w g b m d z∧m≤1048576∧∀p∈l,BPart p)∧5*l.length≤Rows.uptoBulk x.1:=by
 obtain ⟨t0,t1,m,hx2,hl2,g0,g1⟩:=trod_struct2 underlying27 h;have hc:prog.cellsOf 27=3:=by kernel_rfl
 have hc1:prog.cellsOf 25=2:=by kernel_rfl
 have hc3:prog.cellsOf 22=1:=by kernel_rfl
 rw [hc] at hl2;rw [hx2] at hb⊢;simp only [Rows.uptoBulk,Rows.uptoBulkAll] at hb⊢
 match cs,hl2 with
 | [c0,c1,c2],_=>
  simp only [hc1,hc3,List.drop_zero,List.take_succ_cons,List.take_zero,List.drop_succ_cons] at g0 g1;obtain ⟨ap,np,cp,l,e2,q2,s2,p2⟩:=partsB_of_trod g0 (by omega);obtain ⟨z,g',a',nk,c',e3,q3,r3⟩:=numB_of_trod g1 (by omega);cases e2;cases e3;exact⟨ap,np,cp,g',a',nk,c',l,z,rfl,⟨q2,q3,r3,p2⟩,by omega⟩
end
end
end Go.Proofs.Q
