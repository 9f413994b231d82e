/- What the closures of simp's joined tell. -/
import Derived.Test.YtlldghknenbccaaGreatDoorRJoinA
set_option linter.unusedSimpArgs false
set_option linter.unusedVariables false
set_option maxRecDepth 100000
set_option maxHeartbeats 4000000
namespace Go.Proofs.Q
open Go.RowKit Tryz
section
variable {M:Nat→Prop} {D:Int→Int} {w:World} {b:Nat} {k:Int}
theorem aNB (h:aF w b 3 [.int .i64 k]) (hM:¬M b):FP prog w M 150 #[.pointer (some ⟨b,0,none⟩)] (fun i=>decide (i=k)):=by
 refine ⟨enters_of func150 zX rfl,fun W x q hx=>?_⟩;obtain ⟨d0,-⟩:=(h.keep q hM).one;clear h q;show Calls prog 150 #[.int .i64 x,.pointer (some ⟨b,0,none⟩)] W _
 go_enter func150,ntmps150
 go_wp2_with fail
 go_ret
 exact⟨dF (by first|rfl|simp),kOf⟩
def DX (w:World) (b:Nat) (D:Int→Int):Prop:=∃bm n,aF w b 86 [.map (some bm)]∧jW prog 3 3 w bm n D
theorem DX.keep {M:Nat→Prop} {w w':World} {b:Nat} {D:Int→Int} (h:DX w b D) (k:aA M w w') (h1:∀b',b'<w.heap.size→M b'→b'≠b) (h2:∀bm,aF w b 86 [.map (some bm)]→¬M bm):DX w' b D:=by
 obtain ⟨bm,n,q1,q2⟩:=h;exact⟨bm,n,q1.keep k fun hm=>h1 b q1.lt hm rfl,q2.keep k (h2 bm q1)⟩
theorem DX.eO {w':World} (h:DX w b D) (k:aA Nil w w'):DX w' b D:=h.keep k (fun _ _ h=>h.elim) fun _ _ h=>h
def bCU (M:Nat→Prop) (w:World) (b:Nat) (C:Int→aS):Prop:=∃bm n,aF w b 190 [.map (some bm)]∧kF prog 3 M w bm n C
theorem CJ (w:World):(zeroValue 59).run prog w=.ok zvN w:=zeroValue59 w
theorem aMA (h:∀W,aA M w W→DX W b D):FP prog w M 155 #[.pointer (some ⟨b,0,none⟩)] (fun k=>decide (D k=1)):=by
 refine ⟨enters_of func155 zX rfl,fun W x q hx=>?_⟩;obtain ⟨bm,n,q1,q2⟩:=h W q;obtain ⟨d0,-⟩:=q1.one;have HQ:=jJ (aI q2 hx);clear h q q1 q2 hx;obtain ⟨y,hy⟩:∃y,y=D x:=⟨_,rfl⟩;rw [←hy];have HY:=jJ hy;clear hy;show Calls prog 155 #[.int .i64 x,.pointer (some ⟨b,0,none⟩)] W _
 go_enter func155,ntmps155
 go_wp2_with (at_lookup;refine YN _ rfl _ _ 86 rfl 3 3 underlying3 underlying86 underlying3 (zeroValue3 _) bm n D rfl HQ.o.1 x rfl HQ.o.2 ?_;rw [←HY.o])
 go_ret
 exact⟨dF (by first|rfl|simp),kOf⟩
end
section
variable {M:Nat→Prop} {a:Option Addr} {w:World} {zs:List Int} {x:Int} {D:Int→Int} {C:Int→aS} {n c:Nat}
theorem aWE (h:cE M w a n c zs) :
  Calls prog 97 #[.slice a n c,.int .i64 x] w fun e w'=>(∃r:Int,e=.returned (.int .i64 r)∧FD (fun y=>decide (x=y)) zs r)∧aA Nil w w':=by
 have hln:zs.length=n:=eU.len h;have hcap:=eU.cap h;have hle:=eU.le h;have HA:=jJ (aI h hln);clear h hln;go_enter func97,ntmps97
 go_wp2_with fail
 go_loopw [8] (fun i wr=>∃k:Nat,i=.int .i64 k∧k≤n∧(∀j,j<k→decide (x=zs.getD j 0)=false)∧aA Nil w wr) (fun i _=>n-(intOf i).toNat)
 case atStart=>exact xW
 case round=>
  obtain ⟨k,rfl,hk,hj,hkr⟩:=hrel;by_cases hkn:k<n
  ·obtain ⟨b,off,rfl,ck⟩:=bA (HA.o.1.eO hkr) hkn;have j0:(0:Int)≤(k:Int):=zZ;have j1:(k:Int)<(n:Int):=zZ;obtain ⟨y,hy⟩:∃y,y=zs.getD k 0:=⟨_,rfl⟩;rw [←hy] at ck;have HK:=jJ (aI3 hj hkr hy);clear hj hkr hy;by_cases hxy:x=y
   ·subst hxy;go_wp2_with fail
    go_ret
    exact⟨⟨_,rfl,.inr ⟨k,rfl,by rw [HA.o.2];exact hkn,by rw [←HK.o.2.2];exact decide_eq_true rfl,HK.o.1⟩⟩,HK.o.2.1⟩
   ·have HXY:=jJ hxy;go_wp2_with fail
    go_roundw
    case rel=>
     refine ⟨k+1,zF,hkn,fun j hj=>?_,HK.o.2.1⟩;rcases Nat.lt_succ_iff_lt_or_eq.1 hj with h|rfl
     ·exact HK.o.1 j h
     ·rw [←HK.o.2.2];exact decide_eq_false HXY.o
    case measure=>exact zI
  ·obtain rfl:n=k:=zZ;have HK:=jJ (aI hj hkr);clear hj hkr;go_wp2_with fail
   go_ret
   refine ⟨⟨-1,rfl,.inl ⟨rfl,fun x hx=>?_⟩⟩,HK.o.2⟩;obtain ⟨i,hi,rfl⟩:=List.mem_iff_getElem.1 hx;have h1:=HK.o.1 i (by rw [←HA.o.2];exact hi);simpa [List.getD,hi] using h1
theorem MU (h:cE M w a n c zs) :
  Calls prog 46 #[.slice a n c,.int .i64 x] w fun e w'=>e=.returned (.bool (decide (x∈zs)))∧aA Nil w w':=by
 have hx:=aWE (x:=x) h;have HX:=jJ hx;clear h hx;go_enter func46,ntmps46
 go_wp2_with (go_at_call 97;refine HX.o.mono ?_;rintro e w1 ⟨⟨r,rfl,hr⟩,hk1⟩;have H1:=jJ (aI hr hk1);clear hr hk1)
 go_ret
 have e:decide (x∈zs)=zs.any fun y=>decide (x=y):=by
  rw [Bool.eq_iff_iff,decide_eq_true_eq,eZ3];exact⟨fun h=>⟨x,h,zW⟩,fun ⟨y,h1,h2⟩=>by rw [of_decide_eq_true h2];exact h1⟩
 exact⟨by rw [e,←H1.o.1.any];rfl,H1.o.2⟩
theorem aOA {M0:Nat→Prop} {bs bo bt:Nat} {oth:Int} (h:∀W,aA M w W→bCU M0 W bs C∧aF W bo 3 [.int .i64 oth]∧DX W bt D) (hC:∀i,fI i→(C i).kids.length≤1000000000∧∀k∈(C i).kids,fI k) :
  FP prog w M 154 #[.pointer (some ⟨bs,0,none⟩),.pointer (some ⟨bo,0,none⟩),.pointer (some ⟨bt,0,none⟩)] (fun i=>decide ((C i).kind=oth)&&(C i).kids.any fun k=>decide (D k=1)):=by
 refine ⟨enters_of func154 zX rfl,fun W x q hx=>?_⟩;obtain ⟨⟨bm,n,q1,q2⟩,q3,q4⟩:=h W q;obtain ⟨d0,-⟩:=q1.one;obtain ⟨e0,-⟩:=q3.one;have hCx:=hC x hx;obtain ⟨N,hN⟩:∃N,C x=N:=⟨_,rfl⟩;rw [hN] at hCx⊢;have l0:=q3.lt;have HQ:=jJ (aI6 q2 hx q4 hCx hN q3);clear h q q1 q2 q3 q4 hx hCx hC hN;show Calls prog 154 #[.int .i64 x,.pointer (some ⟨bs,0,none⟩),.pointer (some ⟨bo,0,none⟩),.pointer (some ⟨bt,0,none⟩)] W _
 go_enter func154,ntmps154
 go_upto_region 2 with (at_lookup;refine dP _ rfl _ _ 190 rfl 3 59 underlying3 underlying190 CJ bm n C rfl HQ.o.1 x rfl HQ.o.2.1 ?_;rintro cs ⟨gd,ad,nd,cd,ap,np,cp,gk,ak,nk,ck,aq,nq,cq,rfl,hn⟩;rw [HQ.o.r4.1] at hn⊢;have HNN:=jJ hn;clear hn)
 have rp:=aF.alloc (w:=W) (E:=59) (xs:=[.int .i64 N.kind,.bool gd,.slice ad nd cd,.slice ap np cp,.bool gk,.slice ak nk ck,.int .i64 N.var,.slice aq nq cq]);change aF (W.alloc (.cells #[.int .i64 N.kind,.bool gd,.slice ad nd cd,.slice ap np cp,.bool gk,.slice ak nk ck,.int .i64 N.var,.slice aq nq cq] 59)) _ _ _ at rp;have kb:aA Nil W (W.alloc (.cells #[.int .i64 N.kind,.bool gd,.slice ad nd cd,.slice ap np cp,.bool gk,.slice ak nk ck,.int .i64 N.var,.slice aq nq cq] 59)):=kOf;generalize W.alloc (.cells #[.int .i64 N.kind,.bool gd,.slice ad nd cd,.slice ap np cp,.bool gk,.slice ak nk ck,.int .i64 N.var,.slice aq nq cq] 59)=wb at *
 have hkd:=(HNN.o.kids.eO kb);obtain ⟨f0,-⟩:=(HQ.o.r5.keep kb id).one;obtain ⟨d0,d1,d2,d3,d4,d5,d6,d7⟩:=rp.fV;have hnl:N.kids.length=nq:=eU.len hkd;have hcf:=aKT hkd (aMA (M:=Nil) fun W' k=>(HQ.o.2.2.1.eO kb).eO k) HQ.o.2.2.2.1.2 (by rw [←hnl];exact HQ.o.2.2.2.1.1);have HF:=jJ (aI hcf kb);clear hcf kb rp hkd hnl e0;generalize hkd:N.kind=kd at *
 have HKD:=jJ hkd;clear hkd;generalize N.var=vr at *
 by_cases hk:kd=oth
 ·subst hk;go_wp2_with (go_at_call 95;refine HF.o.1.mono ?_;rintro e w2 ⟨rfl,hk2⟩;have H2:=jJ (HF.o.2.trans hk2);clear hk2)
  go_ret
  exact⟨dF (by simp [HKD.o]),H2.o⟩
 ·go_wp2_with fail
  go_ret
  exact⟨dF (by simp [HKD.o,hk]),HF.o.2⟩
end
end Go.Proofs.Q
