/- What the closures of simp's joined tell. -/
import Derived.Test.YtlldghknenbccaaGreatDoorPJoinA
set_option linter.unusedSimpArgs false
set_option linter.unusedVariables false
set_option maxRecDepth 100000
set_option maxHeartbeats 4000000
namespace Go.Proofs.Q
open Go.RowKit Tryz
section
variable {M:Nat→Prop} {D:Int→Int} {w:World} {b:Nat} {k:Int}
theorem joined1_pred (h:aC w b 3 [.int .i64 k]) (hM:¬M b):PredB prog w M 150 #[.pointer (some ⟨b,0,none⟩)] (fun i=>decide (i=k)):=by
 refine ⟨enters_of func150 (by kernel_rfl) rfl,fun W x q hx=>?_⟩;obtain ⟨d0,-⟩:=(h.keep q hM).one;clear h q;show Calls prog 150 #[.int .i64 x,.pointer (some ⟨b,0,none⟩)] W _
 go_enter func150,ntmps150
 go_wp2_with fail
 go_ret
 exact⟨cX (by first|rfl|simp),kOf⟩
def ThereB (w:World) (b:Nat) (D:Int→Int):Prop:=∃bm n,aC w b 86 [.map (some bm)]∧IMap prog 3 3 w bm n D
theorem ThereB.keep {M:Nat→Prop} {w w':World} {b:Nat} {D:Int→Int} (h:ThereB w b D) (k:aA M w w') (h1:∀b',b'<w.heap.size→M b'→b'≠b) (h2:∀bm,aC w b 86 [.map (some bm)]→¬M bm):ThereB w' b D:=by
 obtain ⟨bm,n,q1,q2⟩:=h;exact⟨bm,n,q1.keep k fun hm=>h1 b q1.lt hm rfl,q2.keep k (h2 bm q1)⟩
theorem ThereB.keepNil {w':World} (h:ThereB w b D) (k:aA Nil w w'):ThereB w' b D:=h.keep k (fun _ _ h=>h.elim) fun _ _ h=>h
def SeenB (M:Nat→Prop) (w:World) (b:Nat) (C:Int→aS):Prop:=∃bm n,aC w b 190 [.map (some bm)]∧NMap prog 3 M w bm n C
theorem zero_node (w:World):(zeroValue 59).run prog w=.ok zvN w:=zeroValue59 w
theorem joined21_pred (h:∀W,aA M w W→ThereB W b D):PredB prog w M 155 #[.pointer (some ⟨b,0,none⟩)] (fun k=>decide (D k=1)):=by
 refine ⟨enters_of func155 (by kernel_rfl) rfl,fun W x q hx=>?_⟩;obtain ⟨bm,n,q1,q2⟩:=h W q;obtain ⟨d0,-⟩:=q1.one;have HQ:=jJ (aI q2 hx);clear h q q1 q2 hx;obtain ⟨y,hy⟩:∃y,y=D x:=⟨_,rfl⟩;rw [←hy];have HY:=jJ hy;clear hy;show Calls prog 155 #[.int .i64 x,.pointer (some ⟨b,0,none⟩)] W _
 go_enter func155,ntmps155
 go_wp2_with (at_lookup;refine wpList_imap_look _ rfl _ _ 86 rfl 3 3 underlying3 underlying86 underlying3 (zeroValue3 _) bm n D rfl HQ.o.1 x rfl HQ.o.2 ?_;rw [←HY.o])
 go_ret
 exact⟨cX (by first|rfl|simp),kOf⟩
end
section
variable {M:Nat→Prop} {a:Option Addr} {w:World} {zs:List Int} {x:Int} {D:Int→Int} {C:Int→aS} {n c:Nat}
theorem index_any (h:cB M w a n c zs) :
  Calls prog 97 #[.slice a n c,.int .i64 x] w fun e w'=>(∃r:Int,e=.returned (.int .i64 r)∧FirstP (fun y=>decide (x=y)) zs r)∧aA Nil w w':=by
 have hln:zs.length=n:=SlOf.len h;have hcap:=SlOf.cap h;have hle:=SlOf.le h;have HA:=jJ (aI h hln);clear h hln;go_enter func97,ntmps97
 go_wp2_with fail
 go_loopw [8] (fun i wr=>∃k:Nat,i=.int .i64 k∧k≤n∧(∀j,j<k→decide (x=zs.getD j 0)=false)∧aA Nil w wr) (fun i _=>n-(intOf i).toNat)
 case atStart=>exact⟨0,rfl,aZ2 _,fun j hj=>by omega,aA.refl _ _⟩
 case round=>
  obtain ⟨k,rfl,hk,hj,hkr⟩:=hrel;by_cases hkn:k<n
  ·obtain ⟨b,off,rfl,ck⟩:=aZ (HA.o.1.keepNil hkr) hkn;have j0:(0:Int)≤(k:Int):=by omega
   have j1:(k:Int)<(n:Int):=by omega
   obtain ⟨y,hy⟩:∃y,y=zs.getD k 0:=⟨_,rfl⟩;rw [←hy] at ck;have HK:=jJ (aI3 hj hkr hy);clear hj hkr hy;by_cases hxy:x=y
   ·subst hxy;go_wp2_with fail
    go_ret
    exact⟨⟨_,rfl,.inr ⟨k,rfl,by rw [HA.o.2];exact hkn,by rw [←HK.o.2.2];exact decide_eq_true rfl,HK.o.1⟩⟩,HK.o.2.1⟩
   ·have HXY:=jJ hxy;go_wp2_with fail
    go_roundw
    case rel=>
     refine ⟨k+1,by go_num,hkn,fun j hj=>?_,HK.o.2.1⟩;rcases Nat.lt_succ_iff_lt_or_eq.1 hj with h|rfl
     ·exact HK.o.1 j h
     ·rw [←HK.o.2.2];exact decide_eq_false HXY.o
    case measure=>simp [intOf];omega
  ·obtain rfl:n=k:=by omega
   have HK:=jJ (aI hj hkr);clear hj hkr;go_wp2_with fail
   go_ret
   refine ⟨⟨-1,rfl,.inl ⟨rfl,fun x hx=>?_⟩⟩,HK.o.2⟩;obtain ⟨i,hi,rfl⟩:=List.mem_iff_getElem.1 hx;have h1:=HK.o.1 i (by rw [←HA.o.2];exact hi);simpa [List.getD,hi] using h1
theorem contains_any (h:cB M w a n c zs) :
  Calls prog 46 #[.slice a n c,.int .i64 x] w fun e w'=>e=.returned (.bool (decide (x∈zs)))∧aA Nil w w':=by
 have hx:=index_any (x:=x) h;have HX:=jJ hx;clear h hx;go_enter func46,ntmps46
 go_wp2_with (go_at_call 97;refine HX.o.mono ?_;rintro e w1 ⟨⟨r,rfl,hr⟩,hk1⟩;have H1:=jJ (aI hr hk1);clear hr hk1)
 go_ret
 have e:decide (x∈zs)=zs.any fun y=>decide (x=y):=by
  rw [Bool.eq_iff_iff,decide_eq_true_eq,List.any_eq_true];exact⟨fun h=>⟨x,h,by simp⟩,fun ⟨y,h1,h2⟩=>by rw [of_decide_eq_true h2];exact h1⟩
 exact⟨by rw [e,←H1.o.1.any];rfl,H1.o.2⟩
theorem joined2_pred {M0:Nat→Prop} {bs bo bt:Nat} {oth:Int} (h:∀W,aA M w W→SeenB M0 W bs C∧aC W bo 3 [.int .i64 oth]∧ThereB W bt D) (hC:∀i,I64' i→(C i).kids.length≤1000000000∧∀k∈(C i).kids,I64' k) :
  PredB prog w M 154 #[.pointer (some ⟨bs,0,none⟩),.pointer (some ⟨bo,0,none⟩),.pointer (some ⟨bt,0,none⟩)] (fun i=>decide ((C i).kind=oth)&&(C i).kids.any fun k=>decide (D k=1)):=by
 refine ⟨enters_of func154 (by kernel_rfl) rfl,fun W x q hx=>?_⟩;obtain ⟨⟨bm,n,q1,q2⟩,q3,q4⟩:=h W q;obtain ⟨d0,-⟩:=q1.one;obtain ⟨e0,-⟩:=q3.one;have hCx:=hC x hx;obtain ⟨N,hN⟩:∃N,C x=N:=⟨_,rfl⟩;rw [hN] at hCx⊢;have l0:=q3.lt;have HQ:=jJ (aI6 q2 hx q4 hCx hN q3);clear h q q1 q2 q3 q4 hx hCx hC hN;show Calls prog 154 #[.int .i64 x,.pointer (some ⟨bs,0,none⟩),.pointer (some ⟨bo,0,none⟩),.pointer (some ⟨bt,0,none⟩)] W _
 go_enter func154,ntmps154
 go_upto_region 2 with (at_lookup;refine dH _ rfl _ _ 190 rfl 3 59 underlying3 underlying190 zero_node bm n C rfl HQ.o.1 x rfl HQ.o.2.1 ?_;rintro cs ⟨gd,ad,nd,cd,ap,np,cp,gk,ak,nk,ck,aq,nq,cq,rfl,hn⟩;rw [HQ.o.r4.1] at hn⊢;have HNN:=jJ hn;clear hn)
 have rp:=aC.alloc (w:=W) (E:=59) (xs:=[.int .i64 N.kind,.bool gd,.slice ad nd cd,.slice ap np cp,.bool gk,.slice ak nk ck,.int .i64 N.var,.slice aq nq cq]);change aC (W.alloc (.cells #[.int .i64 N.kind,.bool gd,.slice ad nd cd,.slice ap np cp,.bool gk,.slice ak nk ck,.int .i64 N.var,.slice aq nq cq] 59)) _ _ _ at rp;have kb:aA Nil W (W.alloc (.cells #[.int .i64 N.kind,.bool gd,.slice ad nd cd,.slice ap np cp,.bool gk,.slice ak nk ck,.int .i64 N.var,.slice aq nq cq] 59)):=kOf;generalize W.alloc (.cells #[.int .i64 N.kind,.bool gd,.slice ad nd cd,.slice ap np cp,.bool gk,.slice ak nk ck,.int .i64 N.var,.slice aq nq cq] 59)=wb at *
 have hkd:=(HNN.o.kids.keepNil kb);obtain ⟨f0,-⟩:=(HQ.o.r5.keep kb id).one;obtain ⟨d0,d1,d2,d3,d4,d5,d6,d7⟩:=rp.cells8;have hnl:N.kids.length=nq:=SlOf.len hkd;have hcf:=containsFuncP_any hkd (joined21_pred (M:=Nil) fun W' k=>(HQ.o.2.2.1.keepNil kb).keepNil k) HQ.o.2.2.2.1.2 (by rw [←hnl];exact HQ.o.2.2.2.1.1);have HF:=jJ (aI hcf kb);clear hcf kb rp hkd hnl e0;generalize hkd:N.kind=kd at *
 have HKD:=jJ hkd;clear hkd;generalize N.var=vr at *
 by_cases hk:kd=oth
 ·subst hk;go_wp2_with (go_at_call 95;refine HF.o.1.mono ?_;rintro e w2 ⟨rfl,hk2⟩;have H2:=jJ (HF.o.2.trans hk2);clear hk2)
  go_ret
  exact⟨cX (by simp [HKD.o]),H2.o⟩
 ·go_wp2_with fail
  go_ret
  exact⟨cX (by simp [HKD.o,hk]),HF.o.2⟩
end
end Go.Proofs.Q
