/- What term.Valid does: where it says so the parts rise and none is nought. -/
import Derived.Test.YtlldghknenbccaaGreatDoorRTermsA
import Derived.Laws.AppendOwnNone
set_option linter.unusedSimpArgs false
set_option linter.unusedVariables false
set_option maxRecDepth 100000
set_option maxHeartbeats 4000000
namespace Go.Proofs.Q
open Go.RowKit Tryz
theorem fF.snoc {l:aM} {k:Nat} (h:fF (l.take k)) (hk:k<l.length) (h2:(pth l k).2≠0) (h1:0<k→(pth l (k-1)).1<(pth l k).1):fF (l.take (k+1)):=by
 rw [List.take_succ_eq_append_getElem hk,←iR hk];refine ⟨List.pairwise_append.2 ⟨h.rising,zW,fun a ha b hb=>?_⟩,fun p hp=>?_⟩
 ·rw [dZ1.1 hb];obtain ⟨i,hi,rfl⟩:=List.mem_iff_getElem.1 ha;rw [iZ1,Nat.min_eq_left zZ] at hi;have hlast:=h1 zZ;rcases Nat.lt_or_ge i (k-1) with h3|h3
  ·have:=List.pairwise_iff_getElem.1 h.rising i (k-1) xV xV h3;rw [List.getElem_take,List.getElem_take] at this;rw [iR (show k-1<l.length by omega)] at hlast;rw [List.getElem_take];omega
  ·obtain rfl:i=k-1:=zZ;rw [List.getElem_take,←iR (show k-1<l.length by omega)];exact hlast
 ·rcases jZ1.1 hp with hp|hp
  ·exact h.some p hp
  ·rw [dZ1.1 hp];exact h2
theorem aWF (l:aM):fF (l.take 0):=⟨zW,zW⟩
theorem aQY {M M' M3:Nat→Prop} {ap ak:Option Addr} {np cp nk ck:Nat} {gk:Bool} {l:aM} {z:Int} {w:World} (h:bI M' M w ap np cp l) (hk:ZAt M3 w gk ak nk ck z) :
  Calls prog 122 #[.agg #[.slice ap np cp,.bool gk,.slice ak nk ck]] w fun e w'=>∃b,e=.returned (.bool b)∧(b=true→fF l)∧aA Nil w w':=by
 have hln:l.length=np:=eU.len h;have hcap:=eU.cap h;have hle:=eU.le h;have hk0:aA Nil w (w.alloc (.cells #[.slice ap np cp,.bool gk,.slice ak nk ck] 27)):=kOf;have r0:=aF.alloc (w:=w) (E:=27) (xs:=[.slice ap np cp,.bool gk,.slice ak nk ck]);change aF (w.alloc (.cells #[.slice ap np cp,.bool gk,.slice ak nk ck] 27)) _ _ _ at r0;obtain ⟨lk,k1,k2,k3⟩:=hk;have HK:=jJ (k1.gK.eO hk0);have HP:=jJ (h.eO hk0);have HL:=jJ hln;clear h hln k1 k2 k3;go_enter func122,ntmps122
 go_upto_region 1 with (fail)
 generalize w.alloc (.cells #[.slice ap np cp,.bool gk,.slice ak nk ck] 27)=w0 at *
 obtain ⟨d0,d1,d2⟩:=r0.three;have b0:=r0.lt;have HB:=jJ (aI r0 hk0);clear r0 hk0;go_wp2_with fail
 go_loopw [8] (fun iv wr=>∃k:Nat,k≤np∧iv=.int .i64 (k:Int)∧fF (l.take k)∧aA Nil w0 wr) (fun iv _=>np-(intOf iv).toNat)
 case atStart=>exact⟨0,aZ2 _,rfl,aWF l,aA.refl _ _⟩
 case round=>
  obtain ⟨k,hk,rfl,hn,hkr⟩:=hrel;by_cases hlt:k<np
  ·have j0:(0:Int)≤(k:Int):=zZ;have j1:(k:Int)<(np:Int):=zZ;obtain ⟨b,off,g,a',n',c',hae,hb,-,x0,x1,x2,hz,hroom,i1,i2⟩:=(HP.o.eO hkr).at hlt;subst hae;obtain ⟨le,q1,q2,q3⟩:=hz;have e0:=hkr.eY b0 id d0;have l0:=Live.of (cZ1 b0 hkr.size);have l1:=Live.of hb;have HN:=jJ (aI hn hkr);have hr4:=aF.alloc (w:=wr) (E:=96) (xs:=[.int .i64 (pth l k).1,.bool g,.slice a' n' c']);change aF (wr.alloc (.cells #[.int .i64 (pth l k).1,.bool g,.slice a' n' c'] 96)) _ _ _ at hr4;have hkb:aA Nil wr (wr.alloc (.cells #[.int .i64 (pth l k).1,.bool g,.slice a' n' c'] 96)):=kOf;obtain ⟨rc,rf,ra⟩:=hkb.live;have e0':=hkb.eY l0.lt id e0;have hprev:0<k→(wr.alloc (.cells #[.int .i64 (pth l k).1,.bool g,.slice a' n' c'] 96)).cell? ⟨b,off+(k-1)*3,none⟩=some (.int .i64 (pth l (k-1)).1):=fun h0=>by
    obtain ⟨b2,off2,g2,a2,n2,c2,hae,hb2,-,y0,_⟩:=(HP.o.eO (hkr.trans hkb)).at (i:=k-1) zZ;cases hae;exact y0
   clear hn hkr;go_upto_region 4 with (fail)
   have lb:=ra _ l1;have l0':=ra _ l0;generalize wr.alloc (.cells #[.int .i64 (pth l k).1,.bool g,.slice a' n' c'] 96)=wb at *
   obtain ⟨f0,f1,f2⟩:=hr4.three;have l4:=Live.of hr4.lt;have HQ:=jJ (aI4 (q1.gK.eO hkb) q2 q3 hkb);clear hr4 q1 q2 q3 hkb x0 x1 x2 e0 rc rf ra l0 l1 hb;obtain ⟨vb,hvb⟩:∃vb,vb=FI g le:=⟨_,rfl⟩;obtain ⟨zs,hzs⟩:∃zs,zs=(pth l k).2.sign:=⟨_,rfl⟩;obtain ⟨v,hv⟩:∃v,v=(pth l k).1:=⟨_,rfl⟩;rw [←hv] at f0;have HV:=jJ (aI3 hvb hzs hv);clear hvb hzs hv i1 i2;have bt:=l4.lt;have bt2:=l0'.lt;have bt3:=lb.lt;cases vb with
   | false=>
    refine dJ (aA Nil wb) [] zX ?_;have hS:aA Nil wb (World.drew wb):=kOf;refine aH 0 (bM9 0 26) hS ?_;refine aH 1 (bM9 1 26) hS ?_;refine aK 2 fun K hK=>?_;go_simp
    refine (GL (HQ.o.1.eO hS)).mono ?_;rintro e w1 ⟨rfl,hk⟩;refine hK.out _ _ (fun h=>h.trans hk) ?_;clear hK K;try simp only [Act.put,sN,sL]
    replace hS:=hS.trans hk;rw [←HV.o.1];refine aH 3 (bM9 7 26) hS ?_;refine aH 4 (bM9 15 26) hS ?_;refine aH 5 (bM9 31 26) hS ?_;refine aH 6 (bM9 63 26) hS ?_;refine aH 7 (bM9 127 26) hS ?_;refine aH 8 (bM9 255 26) hS ?_;refine aH 9 (bM9 511 26) hS ?_;refine aH 10 (bM9 1023 26) hS ?_;refine aH 11 (bM9 2047 26) hS ?_;refine aH 12 (bM9 4095 26) hS ?_;refine aH 13 (bM9 8191 26) hS ?_;refine aH 14 (bM9 6504447 26) hS ?_;refine aH 15 (bM9 6520831 26) hS ?_;refine aH 16 (bM9 6356991 26) hS ?_;refine aH 17 (bM9 6422527 26) hS ?_;refine aH 18 (bM9 6553599 26) hS ?_;refine aH 19 (bM9 6815743 26) hS ?_;refine aH 20 (bM9 7340031 26) hS ?_;refine aH 21 (bM9 2097151 26) hS ?_;refine aH 22 (bM9 4194303 26) hS ?_;refine aH 23 (bM9 8388607 26) hS ?_;refine aH 24 (bM9 16777215 26) hS ?_;refine aH 25 (bM9 33554431 26) hS ?_;refine BA zX ?_ _;go_wp2_with fail
    go_ret
    exact⟨false,rfl,(fun h=>wZ),HB.o.2.trans (HN.o.2.trans (HQ.o.2.2.2.trans (show aA Nil wb _ from kkA)))⟩
   | true=>
    by_cases hz0:zs=0
    ·subst hz0;refine dJ (aA Nil wb) [] zX ?_;have hS:aA Nil wb (World.drew wb):=kOf;refine aH 0 (bM9 0 26) hS ?_;refine aH 1 (bM9 1 26) hS ?_;refine aK 2 fun K hK=>?_;go_simp
     refine (GL (HQ.o.1.eO hS)).mono ?_;rintro e w1 ⟨rfl,hk⟩;refine hK.out _ _ (fun h=>h.trans hk) ?_;clear hK K;try simp only [Act.put,sN,sL]
     replace hS:=hS.trans hk;rw [←HV.o.1];refine aH 3 (bM9 7 26) hS ?_;refine aH 4 (bM9 15 26) hS ?_;refine aH 5 (bM9 31 26) hS ?_;refine aH 6 (bM9 63 26) hS ?_;refine aK 7 fun K hK=>?_;go_simp
     refine (kY (ZAt.eO ⟨le,HQ.o.1,HQ.o.2.1,HQ.o.2.2.1⟩ hS)).mono ?_;rintro e w1 ⟨rfl,hk⟩;refine hK.out _ _ (fun h=>h.trans hk) ?_;clear hK K;try simp only [Act.put,sN,sL]
     replace hS:=hS.trans hk;rw [←HV.o.2.1];refine aH 8 (bM9 255 26) hS ?_;refine aH 9 (bM9 511 26) hS ?_;refine aH 10 (bM9 1023 26) hS ?_;refine aH 11 (bM9 2047 26) hS ?_;refine aH 12 (bM9 4095 26) hS ?_;refine aH 13 (bM9 8191 26) hS ?_;refine aH 14 (bM9 6504447 26) hS ?_;refine aH 15 (bM9 6520831 26) hS ?_;refine aH 16 (bM9 6356991 26) hS ?_;refine aH 17 (bM9 6422527 26) hS ?_;refine aH 18 (bM9 6553599 26) hS ?_;refine aH 19 (bM9 6815743 26) hS ?_;refine aH 20 (bM9 7340031 26) hS ?_;refine aH 21 (bM9 2097151 26) hS ?_;refine aH 22 (bM9 4194303 26) hS ?_;refine aH 23 (bM9 8388607 26) hS ?_;refine aH 24 (bM9 16777215 26) hS ?_;refine aH 25 (bM9 33554431 26) hS ?_;refine BA zX ?_ _;go_wp2_with fail
     go_ret
     exact⟨false,rfl,(fun h=>wZ),HB.o.2.trans (HN.o.2.trans (HQ.o.2.2.2.trans (show aA Nil wb _ from kkA)))⟩
    ·have hz1:(zs==0)=false:=by simpa using hz0
     have hne:(pth l k).2≠0:=fun e=>hz0 (by rw [HV.o.2.1,e];rfl);have HNE:=jJ hne;clear hne;by_cases hk0:0<k
     ·have hk1:(0:Int)<(k:Int):=zZ;have y0:=hprev hk0;obtain ⟨u,hu⟩:∃u,u=(pth l (k-1)).1:=⟨_,rfl⟩;obtain ⟨k1,hk1'⟩:∃k1,k1=k-1:=⟨_,rfl⟩;rw [←hu,←hk1'] at y0;have j2:(k:Int)-1=(k1:Int):=zZ;have j3:IntKind.i64.wrap (k1:Int)=(k1:Int):=IntWalk.i64_in _ zZ;have j4:(0:Int)≤(k1:Int):=zZ;have j5:(k1:Int)<(np:Int):=zZ;have HU:=jJ (aI hu hk0);have hkd:decide (0<k)=true:=decide_eq_true hk0;clear hprev hu hk1';by_cases huv:v≤u
      ·have huv':u ≥ v:=huv;refine dJ (aA Nil wb) [] zX ?_;have hS:aA Nil wb (World.drew wb):=kOf;refine aH 0 (bM9 0 26) hS ?_;refine aH 1 (bM9 1 26) hS ?_;refine aK 2 fun K hK=>?_;go_simp
       refine (GL (HQ.o.1.eO hS)).mono ?_;rintro e w1 ⟨rfl,hk⟩;refine hK.out _ _ (fun h=>h.trans hk) ?_;clear hK K;try simp only [Act.put,sN,sL]
       replace hS:=hS.trans hk;rw [←HV.o.1];refine aH 3 (bM9 7 26) hS ?_;refine aH 4 (bM9 15 26) hS ?_;refine aH 5 (bM9 31 26) hS ?_;refine aH 6 (bM9 63 26) hS ?_;refine aK 7 fun K hK=>?_;go_simp
       refine (kY (ZAt.eO ⟨le,HQ.o.1,HQ.o.2.1,HQ.o.2.2.1⟩ hS)).mono ?_;rintro e w1 ⟨rfl,hk⟩;refine hK.out _ _ (fun h=>h.trans hk) ?_;clear hK K;try simp only [Act.put,sN,sL]
       replace hS:=hS.trans hk;rw [←HV.o.2.1];refine aH 8 (bM9 255 26) hS ?_;refine aH 9 (bM9 511 26) hS ?_;refine aH 10 (bM9 1023 26) hS ?_;refine aH 11 (bM9 2047 26) hS ?_;refine aH 12 (bM9 4095 26) hS ?_;refine aH 13 (bM9 8191 26) hS ?_;refine aH 14 (bM9 6504447 26) hS ?_;refine aH 15 (bM9 6520831 26) hS ?_;refine aH 16 (bM9 6356991 26) hS ?_;refine aH 17 (bM9 6422527 26) hS ?_;refine aH 18 (bM9 6553599 26) hS ?_;refine aH 19 (bM9 6815743 26) hS ?_;refine aH 20 (bM9 7340031 26) hS ?_;refine aH 21 (bM9 2097151 26) hS ?_;refine aH 22 (bM9 4194303 26) hS ?_;refine aH 23 (bM9 8388607 26) hS ?_;refine aH 24 (bM9 16777215 26) hS ?_;refine aH 25 (bM9 33554431 26) hS ?_;refine BA zX ?_ _;go_wp2_with fail
       go_ret
       exact⟨false,rfl,(fun h=>wZ),HB.o.2.trans (HN.o.2.trans (HQ.o.2.2.2.trans (show aA Nil wb _ from kkA)))⟩
      ·have huv2:u<v:=zZ;refine dJ (aA Nil wb) [] zX ?_;have hS:aA Nil wb (World.drew wb):=kOf;refine aH 0 (bM9 0 26) hS ?_;refine aH 1 (bM9 1 26) hS ?_;refine aK 2 fun K hK=>?_;go_simp
       refine (GL (HQ.o.1.eO hS)).mono ?_;rintro e w1 ⟨rfl,hk⟩;refine hK.out _ _ (fun h=>h.trans hk) ?_;clear hK K;try simp only [Act.put,sN,sL]
       replace hS:=hS.trans hk;rw [←HV.o.1];refine aH 3 (bM9 7 26) hS ?_;refine aH 4 (bM9 15 26) hS ?_;refine aH 5 (bM9 31 26) hS ?_;refine aH 6 (bM9 63 26) hS ?_;refine aK 7 fun K hK=>?_;go_simp
       refine (kY (ZAt.eO ⟨le,HQ.o.1,HQ.o.2.1,HQ.o.2.2.1⟩ hS)).mono ?_;rintro e w1 ⟨rfl,hk⟩;refine hK.out _ _ (fun h=>h.trans hk) ?_;clear hK K;try simp only [Act.put,sN,sL]
       replace hS:=hS.trans hk;rw [←HV.o.2.1];refine aH 8 (bM9 255 26) hS ?_;refine aH 9 (bM9 511 26) hS ?_;refine aH 10 (bM9 1023 26) hS ?_;refine aH 11 (bM9 2047 26) hS ?_;refine aH 12 (bM9 4095 26) hS ?_;refine aH 13 (bM9 8191 26) hS ?_;refine aH 14 (bM9 6504447 26) hS ?_;refine aH 15 (bM9 6520831 26) hS ?_;refine aH 16 (bM9 6356991 26) hS ?_;refine aH 17 (bM9 6422527 26) hS ?_;refine aH 18 (bM9 6553599 26) hS ?_;refine aH 19 (bM9 6815743 26) hS ?_;refine aH 20 (bM9 7340031 26) hS ?_;refine aH 21 (bM9 2097151 26) hS ?_;refine aH 22 (bM9 4194303 26) hS ?_;refine aH 23 (bM9 8388607 26) hS ?_;refine aH 24 (bM9 16777215 26) hS ?_;refine aH 25 (bM9 33554431 26) hS ?_;refine BA zX ?_ _;have HS:=jJ hS;clear hS;go_wp2_with fail
       go_roundw
       case rel=>exact⟨k+1,zZ,zF,HN.o.1.snoc xB HNE.o (fun _=>by have h1:=HU.o.1;have h2:=HV.o.2.2;omega),HN.o.2.trans (HQ.o.2.2.2.trans (show aA Nil wb _ from kkA))⟩
       case measure=>exact zI
     ·have hk1:¬(0:Int)<(k:Int):=zZ;have HK0:=jJ hk0;have hkd:decide (0<k)=false:=decide_eq_false hk0;clear hprev;refine dJ (aA Nil wb) [] zX ?_;have hS:aA Nil wb (World.drew wb):=kOf;refine aH 0 (bM9 0 26) hS ?_;refine aH 1 (bM9 1 26) hS ?_;refine aK 2 fun K hK=>?_;go_simp
      refine (GL (HQ.o.1.eO hS)).mono ?_;rintro e w1 ⟨rfl,hk⟩;refine hK.out _ _ (fun h=>h.trans hk) ?_;clear hK K;try simp only [Act.put,sN,sL]
      replace hS:=hS.trans hk;rw [←HV.o.1];refine aH 3 (bM9 7 26) hS ?_;refine aH 4 (bM9 15 26) hS ?_;refine aH 5 (bM9 31 26) hS ?_;refine aH 6 (bM9 63 26) hS ?_;refine aK 7 fun K hK=>?_;go_simp
      refine (kY (ZAt.eO ⟨le,HQ.o.1,HQ.o.2.1,HQ.o.2.2.1⟩ hS)).mono ?_;rintro e w1 ⟨rfl,hk⟩;refine hK.out _ _ (fun h=>h.trans hk) ?_;clear hK K;try simp only [Act.put,sN,sL]
      replace hS:=hS.trans hk;rw [←HV.o.2.1];refine aH 8 (bM9 255 26) hS ?_;refine aH 9 (bM9 511 26) hS ?_;refine aH 10 (bM9 1023 26) hS ?_;refine aH 11 (bM9 2047 26) hS ?_;refine aH 12 (bM9 4095 26) hS ?_;refine aH 13 (bM9 8191 26) hS ?_;refine aH 14 (bM9 6504447 26) hS ?_;refine aH 15 (bM9 6520831 26) hS ?_;refine aH 16 (bM9 6356991 26) hS ?_;refine aH 17 (bM9 6422527 26) hS ?_;refine aH 18 (bM9 6553599 26) hS ?_;refine aH 19 (bM9 6815743 26) hS ?_;refine aH 20 (bM9 7340031 26) hS ?_;refine aH 21 (bM9 2097151 26) hS ?_;refine aH 22 (bM9 4194303 26) hS ?_;refine aH 23 (bM9 8388607 26) hS ?_;refine aH 24 (bM9 16777215 26) hS ?_;refine aH 25 (bM9 33554431 26) hS ?_;refine BA zX ?_ _;have HS:=jJ hS;clear hS;go_wp2_with fail
      go_roundw
      case rel=>exact⟨k+1,zZ,zF,HN.o.1.snoc xB HNE.o (fun h=>absurd h HK0.o),HN.o.2.trans (HQ.o.2.2.2.trans (show aA Nil wb _ from kkA))⟩
      case measure=>exact zI
  ·have e0:=hkr.eY b0 id d1;have e1:=hkr.eY b0 id d2;have l0:=Live.of (cZ1 b0 hkr.size);obtain rfl:k=np:=zZ;rw [eZ1 xB] at hn;have HN:=jJ (aI hn hkr);clear hn hkr;go_wp2_with (go_at_call 174;refine (GL (HK.o.eO HN.o.2)).mono ?_;rintro e w5 ⟨rfl,hk5⟩)
   go_ret
   exact⟨FI gk lk,rfl,fun _=>HN.o.1,HB.o.2.trans (HN.o.2.trans hk5)⟩
def Copy {α:Type} (R:List Value→α→Prop) (d:α) (E:TypeId) (sz n:Nat) (xs:List α) (w:World) (e:Ending) (w':World):Prop:=
 ∃(va:Option Addr) (vc:Nat) (els:List (List Value)),e=.returned (.slice va n vc)∧aL w' w.heap.size E sz (.slice va n vc) els∧els.length=n∧(∀i,i<n→R (els.getD i []) (xs.getD i d))∧aA Nil w w'
theorem aL.made {w:World} {E:TypeId} {sz:Nat}:aL (w.alloc (.cells #[] E)) w.heap.size E sz (.slice (some ⟨w.heap.size,0,none⟩) 0 0) []:=⟨.of (World.ownsRow_made w #[] 0 (bZ2 _) (aZ2 _) zW),zW⟩
section
variable {w:World} {M M':Nat→Prop} {a:Option Addr}
theorem RV {α:Type} {R:List Value→α→Prop} {d:α} {n c:Nat} {xs:List α} (h1:∀cs x,R cs x→∀v∈cs,v.oneCell'=true) (h:eU M' w 3 R d a n c xs) (hn:n≤16777216) :
  Calls prog 74 #[.slice a n c] w fun e w'=>Copy R d 96 3 n xs w e w':=by
 have q:∀(w:World) (a:Option Addr) (n c n' c':Nat),(binOp .eql 22 (.slice a n c) (.slice none n' c')).run prog w=.ok (.bool a.isNone) w:=fun w a n c n' c'=>Lib.run_eql_slice_nil w _ _ a n c n' c' underlying22;cases a with
 | none=>
  obtain ⟨rfl,rfl⟩:=h.none;clear h;go_enter func74,ntmps74
  go_wp2
  go_ret
  exact⟨none,0,[],rfl,aL.nil _ _ _ _,rfl,(fun i hi=>zZ),aA.refl _ _⟩
 | some p=>
  obtain ⟨i1,hi1⟩:=info_parts VB;have HI:=jJ hi1;obtain ⟨els,e1,e2,e3,e4⟩:=h.els;have HE:=jJ (aI5 e1 e2 e3 (e4 p rfl) h1);have hlt:∀(o:Obj) j u,els.flatten[j]?=some u→(w.alloc o).cell? (p.add j)=some u:=fun o j u hj=>by
   have hj':=(List.getElem?_eq_some_iff.1 hj).1;rw [bL _ e2,e1] at hj';obtain ⟨f,hs,_⟩:=h.ex;obtain ⟨q1,q2,_⟩:=hs.some p rfl zZ;have q3:=e4 p rfl j u hj;obtain ⟨b,off,spot⟩:=p;subst q1;rw [Addr.add_lit] at q3⊢;exact ((aA.refl Nil w).alloc o).eY q2 id q3
  have HL:=jJ hlt;have hcap:=h.cap;have hle:=h.le;clear h e1 e2 e3 e4 hi1 hlt h1;go_enter func74,ntmps74
  go_wp2_with (at_builtin;refine bY _ rfl _ _ 22 rfl w.heap.size 96 i1 (.agg #[.int .i64 0,.bool false,.slice none 0 0]) 3 40 underlying22 HI.o.1 HI.o.2.1 HI.o.2.2.1 HI.o.2.2.2 rfl zY _ [] rfl aL.made p c n els rfl HE.o.1 HE.o.2.1 ?qc2 ?qc3 zV zV zW ?_)
  case qc2=>
   intro j u hj;exact HL.o _ j u hj
  case qc3=>
   intro u hu;obtain ⟨cs,hcs,hu⟩:=List.mem_flatten.1 hu;obtain ⟨i,hi,rfl⟩:=List.mem_iff_getElem.1 hcs;have h2:=HE.o.2.2.1 i (by have:=HE.o.1;omega);rw [show els.getD i []=els[i] by simp [List.getD,jZ2 hi]] at h2;exact HE.o.r4 _ _ h2 u hu
  intro v' w1 hown hk hf hnil;obtain ⟨va,vc,rfl⟩:=hown.isSlice;have e1:=HE.o.1;rw [e1] at hown⊢;go_wp2
  go_ret
  exact⟨_,_,els,rfl,hown,HE.o.1,HE.o.2.2.1,((aA.refl Nil w).alloc _).trans' hk (fun b hb=>.inr (by simp [Own,Value.ownBlock] at hb;omega))⟩
theorem VX:∀cs x,iM M w cs x→∀v∈cs,v.oneCell'=true:=fun cs x ⟨g,a,n,c,e,_⟩ v hv=>by
 rw [e] at hv;simp at hv;rcases hv with rfl|rfl|rfl<;>rfl
theorem aUX:∀cs x,dZ M w cs x→∀v∈cs,v.oneCell'=true:=fun cs x ⟨g,a,n,c,e,_⟩ v hv=>by
 rw [e] at hv;simp at hv;rcases hv with rfl|rfl|rfl<;>rfl
end
theorem aZF (l:aM):mulL 1 l=l:=by
 unfold mulL;rw [List.map_congr_left (g:=id) (fun p _=>zW),List.map_id]
theorem aYC (l:aM) (z:Int):gU 1 ⟨l,z⟩ 0 ⟨[],0⟩=bC ⟨l,z⟩:=by
 unfold gU bC;rw [aZF];simp [mulL]
theorem BK:eP (1:Int).natAbs≤1:=dD (by rw [cY];decide)
theorem PK (w:World):ZAt Nil w false none 0 0 0:=(nR Nil w).zat sP
theorem DN {M M1 M2:Nat→Prop} {w:World} {ap ak:Option Addr} {np cp nk ck:Nat} {gk:Bool} {l:aM} {z:Int} (hM:MB M w) (h:bI M1 M2 w ap np cp l) (hk:ZAt Nil w gk ak nk ck z) (h1:np≤16777216) (h2:nk≤1073741824) :
  Calls prog 83 #[.agg #[.slice ap np cp,.bool gk,.slice ak nk ck]] w fun e w'=>Gives Nil (TV M (bC ⟨l,z⟩)) w e w':=by
 have hlen:=eU.len h;have HH:=jJ (aI5 h hk h1 h2 hlen);have HM:=jJ hM;clear h hk hM hlen;go_enter func83,ntmps83
 go_upto_region 1 with (fail)
 obtain ⟨w0,e_1,k0,r0,r1⟩:=bx2 w 27 [.slice ap np cp,.bool gk,.slice ak nk ck] 27 [.slice none 0 0,.bool false,.slice none 0 0];rw [e_1];clear e_1;obtain ⟨c0,c1,c2⟩:=r0.three;have H0:=jJ (aI3 k0 r0 r1);have lr1:=r1.lt;clear k0 r0 r1;go_wp2_with (go_at_call 122;refine (aQY (HH.o.1.eO H0.o.1) (HH.o.2.1.eO H0.o.1)).mono ?_;rintro e w1 ⟨b,rfl,hb,hk1⟩;have H1:=jJ (aI hb hk1);clear hb hk1;cases b)
 ·skip
  refine aX 6 [5] [9,10,11,12,13,1018] [9,10,11,12,13] [Un (ZV Nil 1),Un (eT ?v2_1),Un (eT ?v2_2),Un (eT ?v2_3),Un (TV (Old w0) (gU 1 ⟨l,z⟩ 0 ⟨[],0⟩)),nothing] (aB.sk (aB.nx ?r2_4 (aB.nx ?r2_3 (aB.nx ?r2_2 (aB.nx ?r2_1 (aB.nx ?r2_0 aB.zero)))))) ?rfn2
  case' r2_0|r2_1|r2_2|r2_3|r2_4=>
   intro us wj hk hp K hK;try simp only [aQ,Act.put,sL] at hK⊢
   obtain ⟨d0,d1,d2⟩:=((H0.o.2.1.keep H1.o.2 id).keep hk id).three
  case' r2_0=>
   go_simp
   refine (kZ (M:=Nil) (z:=1) (MB.nil _) zZ zZ).mono ?_;rintro e wk ⟨g,a,n,c,rfl,h,hk2⟩;exact hK.out _ _ hk2 (⟨g,a,n,c,rfl,h⟩)
  case' r2_1|r2_2|r2_3=>
   go_simp
   refine hK.out _ _ (aA.refl _ _) ?_;exact rfl
  case' r2_4=>
   obtain ⟨g0,a0,n0,c0,e0,h0⟩:(ZV Nil 1) (us 9) wj:=hp 0;have e1:us 10=_:=hp 1;have e2:us 11=_:=hp 2;have e3:us 12=_:=hp 3;rw [e0,e1,e2,e3] at hK⊢;go_simp
   refine (LC (M:=Old w0) (M3:=Nil) (M4:=Nil) (lb:=[]) (zb:=0) (MB.gY (bZ1 H1.o.2.size hk.size)) (h0.zat nQ) (PK _) (HH.o.1.eO (H0.o.1.trans (H1.o.2.trans hk))) eU.nil (HH.o.2.1.eO (H0.o.1.trans (H1.o.2.trans hk))) (PK _) vI zZ HH.o.2.2.2.1 zZ HH.o.2.2.1 zZ).mono ?_;rintro e wk ⟨v,rfl,hv,hk2⟩;exact hK.out _ _ hk2 (hv)
  case' rfn2=>
  intro us wz hkz hf;simp only [aQ,Act.put,sL];obtain ⟨g0,a0,n0,c0,e0,h0⟩:(ZV Nil 1) (us 9) wz:=hf 0;have e1:us 10=_:=hf 1;have e2:us 11=_:=hf 2;have e3:us 12=_:=hf 3;obtain ⟨ap4,np4,cp4,gk4,ak4,nk4,ck4,e4,h4⟩:(TV (Old w0) (gU 1 ⟨l,z⟩ 0 ⟨[],0⟩)) (us 13) wz:=hf 4;clear hf;simp only [e0,e1,e2,e3,e4];clear e0 e1 e2 e3 e4 us;refine aK 5 fun K hK=>?_;obtain ⟨z0,z1,z2⟩:=((H0.o.2.2.keep H1.o.2 id).keep hkz id).three;obtain ⟨z3,z4,z5⟩:=((H0.o.2.2.keep H1.o.2 id).keep hkz id).iZ;go_simp
  refine mK ?_;clear hK K;refine aR zX ?_ _;go_wp2_with fail
  have r6:=((H0.o.2.2.keep H1.o.2 id).keep hkz id).triple (.slice ap4 np4 cp4) (.bool gk4) (.slice ak4 nk4 ck4);obtain ⟨y0,y1,y2⟩:=r6.three;exact bodyPost_ret (v:=.agg #[.slice ap4 np4 cp4,.bool gk4,.slice ak4 nk4 ck4]) pN rfl ⟨_,rfl,⟨_,_,_,_,_,_,_,rfl,by have:=h4.out (M:=M) lr1 (fun b hb=>yL) (aA.triple (g:=w.heap.size+1) (.slice ap4 np4 cp4) (.bool gk4) (.slice ak4 nk4 ck4));rw [aYC] at this;exact this⟩,(H0.o.1.trans (H1.o.2.trans hkz)).own zZ (aA.triple _ _ _)⟩
 ·have hneat:fF l:=H1.o.1 trivial;have H1':=jJ (aI H1.o.2 hneat);clear H1 hneat;go_upto_region 3 with (fail)
  refine aX 9 [8] [14,15,16,17,18,19,20,3,1028] [14,15,16,17,18,19,20,3] [Un (eT ?v3_0),Un (eT ?v3_1),Un (nH (iM M2 w) (0,0) 96 3 w0.heap.size np l),Un (eT ?v3_3),Un (eT ?v3_4),⟨[2],fun vs=>ZV (lI (Old w0) (vs.getD 0 undef)) z⟩,⟨[2,5],fun vs=>eT (lX [(vs.getD 0 undef),(vs.getD 1 undef)])⟩,Un (CZ ?b3_7 27 ?x3_7),nothing] (aB.sk (aB.nx ?r3_7 (aB.nx ?r3_6 (aB.nx ?r3_5 (aB.nx ?r3_4 (aB.nx ?r3_3 (aB.nx ?r3_2 (aB.nx ?r3_1 (aB.nx ?r3_0 aB.zero))))))))) ?rfn3
  case' r3_0|r3_1|r3_2|r3_3|r3_4|r3_5|r3_6|r3_7=>
   intro us wj hk hp K hK;try simp only [aQ,Act.put,sL] at hK⊢
   obtain ⟨d0,d1,d2⟩:=((H0.o.2.1.keep H1'.o.1 id).keep hk id).three
  case' r3_0|r3_3=>
   go_simp
   refine hK.out _ _ (aA.refl _ _) ?_;exact rfl
  case' r3_1=>
   have e0:us 14=_:=hp 0;rw [e0] at hK⊢;go_simp
   refine hK.out _ _ (aA.refl _ _) ?_;exact rfl
  case' r3_2=>
   have e1:us 15=_:=hp 1;rw [e1] at hK⊢;go_simp
   refine (RV VX (eU.move HH.o.1 (H0.o.1.trans (H1'.o.1.trans hk)) (fun _ _ h=>h.elim) (fun _ _=>id) fun _ _ hx=>hx) HH.o.2.2.1).mono ?_;rintro e wk ⟨va,vc,els,rfl,o,n,r,hk2⟩;exact hK.out _ _ hk2 (⟨va,vc,els,rfl,o.base (bZ1 H1'.o.1.size hk.size),n,r⟩)
  case' r3_4=>
   have e3:us 17=_:=hp 3;rw [e3] at hK⊢;go_simp
   refine hK.out _ _ (aA.refl _ _) ?_;exact rfl
  case' r3_5=>
   obtain ⟨va2,vc2,els2,e2,o2,n2,r2⟩:(nH (iM M2 w) (0,0) 96 3 w0.heap.size np l) (us 16) wj:=hp 2;have e4:us 18=_:=hp 4;rw [e2,e4] at hK⊢;go_simp
   refine (EX (M:=lI (Old w0) (.slice va2 np vc2)) (MB.and (MB.gY (bZ1 H1'.o.1.size hk.size)) o2 (bZ2 _)) (HH.o.2.1.eO (H0.o.1.trans (H1'.o.1.trans hk)))).mono ?_;rintro e wk ⟨g,a,n,c,rfl,h,hk2⟩;refine hK.out _ _ ?_ ?_
   ·exact hk2
   ·rw [←e2] at h;exact⟨g,a,n,c,rfl,h⟩
  case' r3_6=>
   obtain ⟨va2,vc2,els2,e2,o2,n2,r2⟩:(nH (iM M2 w) (0,0) 96 3 w0.heap.size np l) (us 16) wj:=hp 2;obtain ⟨g5,a5,n5,c5,e5,h5⟩:(ZV (lI (Old w0) (us 16)) z) (us 19) wj:=hp 5;rw [e2,e5] at hK⊢;go_simp
   refine hK.out _ _ ?_ ?_
   ·exact aA.refl _ _
   ·show _=lX [us 16,us 19]
    rw [e2,e5];exact rfl
  case' r3_7=>
   go_simp
   refine hK.out _ _ ?_ ?_
   ·exact uK
   ·exact xU
  case' rfn3=>
  intro us wz hkz hf;simp only [aQ,Act.put,sL];have e0:us 14=_:=hf 0;have e1:us 15=_:=hf 1;obtain ⟨va2,vc2,els2,e2,o2,n2,r2⟩:(nH (iM M2 w) (0,0) 96 3 w0.heap.size np l) (us 16) wz:=hf 2;have e3:us 17=_:=hf 3;have e4:us 18=_:=hf 4;obtain ⟨g5,a5,n5,c5,e5,h5⟩:(ZV (lI (Old w0) (us 16)) z) (us 19) wz:=hf 5;have e6:us 20=lX [us 16,us 19]:=hf 6;rw [e2,e5] at e6;simp only [lX,cellsOf,eZ2,List.flatMap_nil,fZ2,hZ3,iZ3] at e6;obtain ⟨b7,e7,h7,q7⟩:(CZ ?b3_7 27 ?x3_7) (us 3) wz:=hf 7;clear hf;simp only [e0,e1,e2,e3,e4,e5,e6,e7] at h5⊢;clear e0 e1 e2 e3 e4 e5 e6 e7 us;refine aK 8 fun K hK=>?_;obtain ⟨z0,z1,z2⟩:=h7.three;obtain ⟨z3,z4,z5⟩:=h7.iZ;go_simp
  refine mK ?_;clear hK K;refine aR zX ?_ _;skip
  have hkt:=aA.triple (w:=wz) (g:=b7) (.slice va2 np vc2) (.bool g5) (.slice a5 n5 c5);have hrt:=h7.triple (.slice va2 np vc2) (.bool g5) (.slice a5 n5 c5);have hot:=o2.keep hkt (fun b hb (hm:b=b7)=>o2.ne h7 zY (by rw [hb,hm]));have hzt:=(h5.apart h7 zW).less hkt;have kwq:aA Nil w (((wz.setCell ⟨b7,0,none⟩ (.slice va2 np vc2)).setCell ⟨b7,1,none⟩ (.bool g5)).setCell ⟨b7,2,none⟩ (.slice a5 n5 c5)):=(H0.o.1.trans (H1'.o.1.trans hkz)).own (by have h1:=H0.o.1.size;have h2:=H1'.o.1.size;omega) hkt;have kwq0:w0.heap.size≤(((wz.setCell ⟨b7,0,none⟩ (.slice va2 np vc2)).setCell ⟨b7,1,none⟩ (.bool g5)).setCell ⟨b7,2,none⟩ (.slice a5 n5 c5)).heap.size:=by have h1:=H1'.o.1.size;have h2:=hkz.size;simp [World.setCell];omega
  have hne7:(Value.slice va2 np vc2).ownBlock≠some b7:=o2.ne h7 zY;have k0q:aA Nil w0 (((wz.setCell ⟨b7,0,none⟩ (.slice va2 np vc2)).setCell ⟨b7,1,none⟩ (.bool g5)).setCell ⟨b7,2,none⟩ (.slice a5 n5 c5)):=(H1'.o.1.trans hkz).own (by have h2:=H1'.o.1.size;omega) hkt;clear z0 z1 z2 z3 z4 z5 h7 o2 h5 hkz hkt c0 c1 c2;generalize ((wz.setCell ⟨b7,0,none⟩ (.slice va2 np vc2)).setCell ⟨b7,1,none⟩ (.bool g5)).setCell ⟨b7,2,none⟩ (.slice a5 n5 c5)=wq at *
  obtain ⟨t0,t1,t2⟩:=hrt.three;have HT:=jJ (FU hrt hot hzt kwq kwq0 hne7 n2 r2 k0q q7);have lt7:=hrt.lt;clear hrt hot hzt kwq kwq0 hne7 n2 r2 k0q q7;go_wp2_with fail
  clear t0 t1 t2;go_loopw [24] (fun iv wr=>∃(k:Nat) (els:List (List Value)),k≤np∧iv=.int .i64 (k:Int)∧els.length=np∧aL wr w0.heap.size 96 3 (.slice va2 np vc2) els∧(∀i,i<k→dZ (Old wq) wr (els.getD i []) (pth l i))∧(∀i,k≤i→i<np→els.getD i []=els2.getD i [])∧aA (Own (.slice va2 np vc2)) wq wr) (fun iv _=>np-(intOf iv).toNat)
  case atStart=>exact⟨0,els2,aZ2 _,rfl,HT.o.r6.1,HT.o.2.1,(fun i hi=>zZ),(fun i _ _=>rfl),aA.refl _ _⟩
  case round=>
   obtain ⟨k,els,hk,rfl,hel,hown,hdone,hrest,hkr⟩:=hrel;have hr7:=HT.o.1.keep hkr (HT.o.r5.1);have hn7:=HT.o.r5.1;by_cases hlt:k<np
   ·have j0:(0:Int)≤(k:Int):=zZ;have j1:(k:Int)<(np:Int):=zZ;obtain ⟨g,rest,hva,hrow,hbg,hnc,hcm,hback⟩:=hown.opens hel zZ;subst hva;have hsz:=hown.sz;have hpart:=HT.o.r7.1 k hlt;rw [←hrest k (bZ2 _) hlt] at hpart;obtain ⟨gx,ax,nx,cx,hcs,hzx,hnx,i1,i2⟩:=hpart;have x0:=hrow.el hsz (i:=k) (j:=0) zZ zZ;have x1:=hrow.el hsz (i:=k) (j:=1) zZ zZ;have x2:=hrow.el hsz (i:=k) (j:=2) zZ zZ;rw [hcs] at x0 x1 x2;simp only [List.getD_cons_zero,List.getD_cons_succ,Nat.add_zero] at x0 x1 x2;change wr.cell? _=some (.int .i64 (pth l k).1) at x0;obtain ⟨v,hv⟩:∃v,v=(pth l k).1:=⟨_,rfl⟩;rw [←hv] at x0;have hgb:¬g=b7:=fun e=>hn7 (by simp [Value.ownBlock,e]);have lg:=Live.of hrow.lt;have HC:=jJ (RF hel hown hdone hrest hkr hr7 hrow hback hsz hcs hzx hnx hv);have hkb:aA Nil wr (wr.alloc (.cells #[.int .i64 v,.bool gx,.slice ax nx cx] 96)):=kOf;have rp:=aF.alloc (w:=wr) (E:=96) (xs:=[.int .i64 v,.bool gx,.slice ax nx cx]);change aF (wr.alloc (.cells #[.int .i64 v,.bool gx,.slice ax nx cx] 96)) _ _ _ at rp;clear hel hown hdone hrest hkr hr7 hrow hback hsz hcs hzx hnx hv hn7;go_upto_region 7 with (fail)
    generalize wr.alloc (.cells #[.int .i64 v,.bool gx,.slice ax nx cx] 96)=wb at *
    have HB:=jJ (aI rp hkb);clear rp hkb x0 x1 x2 lg;have kwb:aA Nil w wr:=HT.o.2.2.2.1.trans' HC.o.r4.1 (fun b hb=>.inr (by have h1:=(HT.o.2.1.lt b hb).1;have h2:=H0.o.1.size;omega));have KW:=jJ kwb;clear kwb;refine aX 9 [8] [29,30,31,32,33,34,35,36,1044] [29,30,31,32,33,34,35,36] [Un (eT ?v4_0),Un (eT ?v4_1),Un (eT ?v4_2),Un (eT ?v4_3),Un (eT ?v4_4),Un (ZV (Old wq) (pth l k).2),Un (eT ?v4_6),Un (eT ?v4_7),nothing] (aB.sk (aB.nx ?r4_7 (aB.nx ?r4_6 (aB.nx ?r4_5 (aB.nx ?r4_4 (aB.nx ?r4_3 (aB.nx ?r4_2 (aB.nx ?r4_1 (aB.nx ?r4_0 aB.zero))))))))) ?rfn4
    case' r4_0|r4_1|r4_2|r4_3|r4_4|r4_5|r4_6|r4_7=>
     intro us wj hk hp K hK;try simp only [aQ,Act.put,sL] at hK⊢
     obtain ⟨d0,d1,d2⟩:=((HC.o.r5.1.keep HB.o.2 id).keep hk id).three;obtain ⟨f0,f1,f2⟩:=(HB.o.1.keep hk id).three
    case' r4_0|r4_2|r4_3=>
     go_simp
     refine hK.out _ _ (aA.refl _ _) ?_;exact rfl
    case' r4_1=>
     have e0:us 29=_:=hp 0;rw [e0] at hK⊢;go_simp
     refine hK.out _ _ (aA.refl _ _) ?_;exact rfl
    case' r4_4=>
     have e3:us 32=_:=hp 3;rw [e3] at hK⊢;go_simp
     refine hK.out _ _ (aA.refl _ _) ?_;exact rfl
    case' r4_5=>
     have e4:us 33=_:=hp 4;rw [e4] at hK⊢;go_simp
     refine (EX (M:=Old wq) (MB.gY (bZ1 HC.o.r4.1.size (HB.o.2.trans hk).size)) (HC.o.r10.1.gK.eO (KW.out.trans (HB.o.2.trans hk)))).mono ?_;rintro e wk ⟨g,a,n,c,rfl,h,hk2⟩;exact hK.out _ _ hk2 (⟨g,a,n,c,rfl,h⟩)
    case' r4_6=>
     have e1:us 30=_:=hp 1;have e2:us 31=_:=hp 2;rw [e1,e2] at hK⊢;go_simp
     refine hK.out _ _ (aA.refl _ _) ?_;exact rfl
    case' r4_7=>
     have e6:us 35=_:=hp 6;rw [e6] at hK⊢;go_simp
     refine hK.out _ _ (aA.refl _ _) ?_;exact rfl
    case' rfn4=>
    intro us wz hkz hf;simp only [aQ,Act.put,sL];have e0:us 29=_:=hf 0;have e1:us 30=_:=hf 1;have e2:us 31=_:=hf 2;have e3:us 32=_:=hf 3;have e4:us 33=_:=hf 4;obtain ⟨g5,a5,n5,c5,e5,h5⟩:(ZV (Old wq) (pth l k).2) (us 34) wz:=hf 5;have e6:us 35=_:=hf 6;have e7:us 36=_:=hf 7;clear hf;simp only [e0,e1,e2,e3,e4,e5,e6,e7];clear e0 e1 e2 e3 e4 e5 e6 e7 us;refine aK 8 fun K hK=>?_;have hrz:=(HC.o.r6.1.keep HB.o.2 id).keep hkz id;have x1:=hrz.el HC.o.r8.1 (i:=k) (j:=1) wV zZ;have x2:=hrz.el HC.o.r8.1 (i:=k) (j:=2) wV zZ;have x3:=hrz.frozen (k*3+1);have x4:=hrz.frozen (k*3+2);go_simp
    refine mK ?_;clear hK K;refine aR zX ?_ _;skip
    have hke:k<els.length:=wV;have hsz:=HC.o.r8.1;have hpk:(pth l k)=l.getD k (0,0):=rfl;have hr1:=hrz.QV hsz (i:=k) (t:=1) hke zZ (.bool g5);have hsz1:=NR hsz (i:=k) (x:=(els.getD k []).set 1 (.bool g5)) (by rw [HC.o.r9.1];rfl);have hr2:=hr1.QV hsz1 (i:=k) (t:=2) (by simpa using hke) zZ (.slice a5 n5 c5);rw [MO _ _ _ hke,List.set_set,HC.o.r9.1] at hr2;simp only [List.set_cons_succ,List.set_cons_zero] at hr2;have hsz2:=NR hsz (i:=k) (x:=[.int .i64 (pth l k).1,.bool g5,.slice a5 n5 c5]) rfl;have hown2:=HC.o.r7.1 _ (els.set k [.int .i64 (pth l k).1,.bool g5,.slice a5 n5 c5]) vH hsz2 hr2;have hgq:g<wq.heap.size:=(HT.o.2.1.lt g rfl).2;have kst:aA (One g) wz ((wz.setCell ⟨g,k*3+1,none⟩ (.bool g5)).setCell ⟨g,k*3+2,none⟩ (.slice a5 n5 c5)):=((aA.refl (One g) wz).set1 (k*3+1) _).set1 (k*3+2) _;have HF:=jJ (aI8 hown2 hgq kst hke h5 hkz i1 i2);clear hr1 hsz1 hr2 hsz2 hown2 kst hrz x1 x2 x3 x4 h5 hkz;go_wp2_with fail
    go_roundw
    case rel=>
     refine ⟨k+1,_,zZ,zF,vH,HF.o.1,fun i hi=>?_,fun i hi hi2=>?_,(HC.o.r4.1.WR (HB.o.2.trans HF.o.r5.1)).trans (HF.o.2.2.1.mono fun b hb=>by have hb':b=g:=hb;subst hb';rfl)⟩
     ·rcases Nat.lt_or_ge i k with hik|hik
      ·rw [RS _ _ _ zZ];exact dZ.moves (dZ.moves (HC.o.2.2.1 i hik) (HB.o.2.trans HF.o.r5.1) (fun _ _ h=>h.elim) fun _ _=>id) HF.o.2.2.1 (fun b _ hb=>by have hb':b=g:=hb;rw [hb'];exact hgq) fun _ _=>id
      ·obtain rfl:i=k:=zZ;rw [MO _ _ _ hke];exact⟨g5,a5,n5,c5,rfl,HF.o.r4.1.move HF.o.2.2.1 (fun b _ hb=>by have hb':b=g:=hb;rw [hb'];exact hgq) fun _ _=>id,HF.o.r6.1,HF.o.r7⟩
     ·exact qF
    case measure=>exact zI
   ·have ekn:np=k:=zZ;subst ekn;obtain ⟨t0,t1,t2⟩:=hr7.three;have rT:=(H0.o.2.2.keep HT.o.r8.1 id).keep hkr (fun hb=>by have:=(HT.o.2.1.lt _ hb).1;omega);obtain ⟨z0,z1,z2⟩:=rT.three;obtain ⟨z3,z4,z5⟩:=rT.iZ;have HF:=jJ (aI5 hel hown hdone hkr rT);clear hel hown hdone hkr rT hr7 hrest;go_wp2_with fail
    have r6:=HF.o.r4.triple (.slice va2 np vc2) (.bool g5) (.slice a5 n5 c5);have ks:=aA.triple (w:=wr) (g:=w.heap.size+1) (.slice va2 np vc2) (.bool g5) (.slice a5 n5 c5);obtain ⟨y0,y1,y2⟩:=r6.three;have hll:l.length=np:=HH.o.r4;have hnew:∀b,(Value.slice va2 np vc2).ownBlock=some b→w0.heap.size≤b:=fun b hb=>(HF.o.2.1.lt b hb).1;have hown3:=HF.o.2.1.keep ks (fun b hb (hm:b=w.heap.size+1)=>by have:=hnew b hb;omega);obtain ⟨a',c',e',hsl⟩:=hown3.sl (M:=M) (R:=dZ M _) (d:=(0,0)) (xs:=l) (fun b hb hm=>by have:=hnew b hb;have:=HM.o b hm;have:=H0.o.1.size;omega) (by rw [HF.o.1,hll]) (fun i hi=>dZ.moves (HF.o.2.2.1 i (by have:=HF.o.1;omega)) ks (fun b _ (hm:b=w.heap.size+1)=>by show b<wq.heap.size;have:=HT.o.r4.1;omega) fun b _ hm=>by show b<wq.heap.size;have:=HM.o b hm;have:=HT.o.r4.1;omega);rw [HF.o.1] at e' hsl;cases e';have hzk:=(HT.o.2.2.1.move (M2:=lI (Old w0) (Value.slice va2 np vc2)) HF.o.2.2.2.1 (fun b _ hb=>.inr hb) fun _ _=>id).move (M2:=M) ks (fun b _ (hm:b=w.heap.size+1)=>.inl xO) (fun b _ hm=>.inl wH);have kw:aA Nil w wr:=HT.o.2.2.2.1.trans' HF.o.2.2.2.1 (fun b hb=>.inr (by have h1:=hnew b hb;omega));refine bodyPost_ret (v:=.agg #[.slice va2 np vc2,.bool g5,.slice a5 n5 c5]) pN rfl ⟨_,rfl,⟨_,_,_,_,_,_,_,rfl,?_,hzk⟩,kw.own zZ ks⟩;show cV M M _ _ _ _ (dR l)
    rw [MQ H1'.o.2];exact hsl
theorem SB (x:Int):∀l:List Int,(ins x l).length≤l.length+1
 | []=>by simp [ins]
 | y::l=>by
  unfold ins;split
  ·simp
  ·split
   ·simp
   ·have:=SB x l;simp only [gZ1];omega
def cmpL:aM→aM→Int
 | [],[]=>0
 | [],_::_=>-1
 | _::_,[]=>1
 | p::a,q::b=>if p.1<q.1 then -1 else if q.1<p.1 then 1 else if fT p.2 q.2≠0 then fT p.2 q.2 else cmpL a b
def kE (a b:aV):Int:=if cmpL a.parts b.parts≠0 then cmpL a.parts b.parts else fT a.k b.k
def AY (p q:Int × Int):Int:=if p.1<q.1 then -1 else if q.1<p.1 then 1 else fT p.2 q.2
theorem aFF (p q:Int × Int) (a b:aM):cmpL (p::a) (q::b)=if AY p q≠0 then AY p q else cmpL a b:=by
 unfold AY;simp only [cmpL];split
 ·simp
 ·split
  ·simp
  ·rfl
theorem TQ (w:World) (o:Obj) (cs:List Value) (E:TypeId):∀j u,[cs].flatten[j]?=some u→((w.alloc o).alloc (.cells cs.toArray E)).cell? ((⟨w.heap.size+1,0,none⟩:Addr).add j)=some u:=by
 have h:=EI (w.alloc o) cs E;simpa using h
def aO (zs:List Int):List (List Value):=zs.map fun z=>[.int .i64 z]
theorem aJ (zs:List Int):(aO zs).length=zs.length:=tR
theorem FZ (zs:List Int) (z:Int):aO (zs++[z])=aO zs++[[.int .i64 z]]:=tR
def XZ (E:TypeId) (B:Nat) (zs:List Int):Value→World→Prop:=fun v w=>∃(va:Option Addr) (vc:Nat),v=.slice va zs.length vc∧aL w B E 1 (.slice va zs.length vc) (aO zs)
instance {E:TypeId} {B:Nat} {zs:List Int}:Stable (XZ E B zs):=⟨fun _ _ _ k ⟨va,vc,e,h⟩=>⟨va,vc,e,h.eO k⟩⟩
section
variable {w:World} {M1 M2 M:Nat→Prop} {l l2:aM} {aa ap:Option Addr} {ga:Bool} {z v:Int} {na ca np cp k:Nat}
theorem BI:(prog.info? 3).map (fun i=>(i.zero,i.size,i.bytes))=some (some (.int .i64 0),1,8):=zX
theorem WS (hM:MB M w) (hv:fI v) :
  Calls prog 39 #[.int .i64 v] w fun e w'=>Gives Nil (TV M ⟨[(v,1)],0⟩) w e w':=by
 have HM:=jJ hM;have HV:=jJ hv;clear hM hv;go_enter func39,ntmps39
 go_upto_region 1 with (fail)
 have r0:=aF.alloc (w:=w) (E:=27) (xs:=[.slice none 0 0,.bool false,.slice none 0 0]);change aF (w.alloc (.cells #[.slice none 0 0,.bool false,.slice none 0 0] 27)) _ _ _ at r0;have k0:aA Nil w (w.alloc (.cells #[.slice none 0 0,.bool false,.slice none 0 0] 27)):=kOf;generalize w.alloc (.cells #[.slice none 0 0,.bool false,.slice none 0 0] 27)=w0 at *
 have lr:=r0.lt;have H0:=jJ (aI k0 r0);clear k0 r0;go_wp2_with (go_at_call 42;refine (kZ (M:=Old w0) (MB.old w0) zZ zZ).mono ?_;rintro e w1 ⟨g,a,n,c,rfl,h1,hk1⟩;have r1:=(H0.o.2.keep hk1 id).keep (M:=Nil) (w':=w1.alloc (.cells #[.int .i64 v,.bool g,.slice a n c] 96)) kOf id;obtain ⟨z0,z1,z2⟩:=r1.three;obtain ⟨z3,z4,z5⟩:=r1.iZ;have ll:=Live.of r1.lt;have H1:=jJ (aI3 h1 hk1 r1);clear h1 hk1 r1)
 have r6:=H1.o.2.2.triple (.slice (some ⟨w1.heap.size,0,none⟩) 1 1) (.bool false) (.slice none 0 0);obtain ⟨y0,y1,y2⟩:=r6.three;have kal:aA Nil w1 (w1.alloc (.cells #[.int .i64 v,.bool g,.slice a n c] 96)):=kOf;have ks:=aA.triple (w:=w1.alloc (.cells #[.int .i64 v,.bool g,.slice a n c] 96)) (g:=w.heap.size) (.slice (some ⟨w1.heap.size,0,none⟩) 1 1) (.bool false) (.slice none 0 0);have hs1:=H1.o.2.1.size;have hrow:=(aF.alloc (w:=w1) (E:=96) (xs:=[.int .i64 v,.bool g,.slice a n c])).keep (w':=_) ks (by show ¬_=_;omega);refine bodyPost_ret (v:=.agg #[.slice (some ⟨w1.heap.size,0,none⟩) 1 1,.bool false,.slice none 0 0]) (by simp [results,results39,go_sem,y0,y1,y2]) rfl ⟨_,rfl,⟨_,_,_,_,_,_,_,rfl,?_,?_⟩,?_⟩
 ·refine eU.ofRow (els:=[[.int .i64 v,.bool g,.slice a n c]]) (by simpa using hrow) zW (fun hm=>by have:=HM.o _ hm;have:=H0.o.1.size;omega) zW rfl fun i hi=>?_;obtain rfl:i=0:=uI;exact⟨g,a,n,c,rfl,(H1.o.1.eO kal).move ks (fun b _ (hm:b=w.heap.size)=>by rw [hm];exact lr) (fun b _ hm=>by show b<w0.heap.size;have:=HM.o b hm;have:=H0.o.1.size;omega),HV.o.1,HV.o.2⟩
 ·exact nR _ _
 ·exact ((H0.o.1.trans H1.o.2.1).trans kal).own (bZ2 _) ks
theorem aRF {gk:Bool} {ak:Option Addr} {nk ck:Nat} {x:Int} (hM:MB M w) (hk:ZAt Nil w gk ak nk ck x) (ha:bI M1 M2 w ap np cp l) (hz:ZAt Nil w ga aa na ca z) (h1:nk≤1073741824) (h3:na≤1073741824) (h5:np≤16777216) :
  Calls prog 58 #[.agg #[.bool gk,.slice ak nk ck],.agg #[.slice ap np cp,.bool ga,.slice aa na ca]] w fun e w'=>Gives Nil (TV M (gU x ⟨l,z⟩ 0 ⟨[],0⟩)) w e w':=by
 have HM:=jJ hM;have HA:=jJ (aI6 hk ha hz h1 h3 h5);clear hM hk ha hz h1 h3 h5;go_enter func58,ntmps58
 go_upto_region 1 with (fail)
 obtain ⟨w0,e_1,k0,r0,r1,r2⟩:=bx3 w 25 [.bool gk,.slice ak nk ck] 27 [.slice ap np cp,.bool ga,.slice aa na ca] 27 [.slice none 0 0,.bool false,.slice none 0 0];rw [e_1];clear e_1;obtain ⟨c0,c1,-,-⟩:=r0.two;obtain ⟨d0,d1,d2⟩:=r1.three;have lr:=r2.lt;have H0:=jJ (aI k0 r2);clear k0 r0 r1 r2;go_wp2_with (go_at_call 90;refine (LC (M:=Old w0) (M3:=Nil) (M4:=Nil) (lb:=[]) (y:=0) (zb:=0) (MB.old w0) (HA.o.1.eO H0.o.1) (PK _) (HA.o.2.1.eO H0.o.1) eU.nil (HA.o.2.2.1.eO H0.o.1) (PK _) HA.o.2.2.2.1 zZ HA.o.r4.1 zZ HA.o.r5 zZ).mono ?_;rintro e w1 ⟨v,rfl,⟨bp,mp,dp,gb,ab,nb,cb,rfl,ht⟩,hk1⟩;have r1:=H0.o.2.keep hk1 id;obtain ⟨z0,z1,z2⟩:=r1.three;obtain ⟨z3,z4,z5⟩:=r1.iZ;have H1:=jJ (aI3 ht hk1 r1);clear ht hk1 r1)
 have r6:=H1.o.2.2.triple (.slice bp mp dp) (.bool gb) (.slice ab nb cb);obtain ⟨y0,y1,y2⟩:=r6.three;exact bodyPost_ret (v:=.agg #[.slice bp mp dp,.bool gb,.slice ab nb cb]) (by simp [results,results58,go_sem,y0,y1,y2]) rfl ⟨_,rfl,⟨_,_,_,_,_,_,_,rfl,H1.o.1.out lr (fun b hb=>yL) (aA.triple _ _ _)⟩,(H0.o.1.trans H1.o.2.1).own zZ (aA.triple _ _ _)⟩
theorem aYF (w:World) (a:Option Addr) (n c:Nat) (g:Bool) (a2:Option Addr) (n2 c2:Nat):(Instr.field 27 (.agg #[.slice a n c,.bool g,.slice a2 n2 c2]) 0).run prog w=.ok (.slice a n c) w:=zX
theorem aFV (ha:bI M1 M2 w ap np cp l) (hz:ZAt Nil w ga aa na ca z) (h3:na≤1073741824) (h5:np≤16777216) :
  Calls prog 34 #[.agg #[.slice ap np cp,.bool ga,.slice aa na ca]] w fun e w'=>Gives Nil (XZ 3 w.heap.size ((dR l).map (·.1))) w e w':=by
 obtain ⟨i1,hi1⟩:=info_parts BI;have HI:=jJ hi1;have hln:=eU.len ha;have HA:=jJ (aI5 ha hz h3 h5 hln);have hql:(dR l).length≤l.length:=by
  unfold dR;refine bZ1 (List.length_filterMap_le _ _) ?_;have:∀vs:List Int,(vs.foldr ins []).length≤vs.length:=fun vs=>by
   induction vs with
   | nil=>simp
   | cons v vs ih=>rw [List.foldr_cons];exact bZ1 (SB _ _) (by simpa using ih)
  simpa using this (l.map (·.1))
 have HQ:=jJ hql;clear ha hz hi1 hln hql;go_enter func34,ntmps34
 go_upto_region 1 with (fail)
 have r0:=aF.alloc (w:=w) (E:=27) (xs:=[.slice ap np cp,.bool ga,.slice aa na ca]);change aF (w.alloc (.cells #[.slice ap np cp,.bool ga,.slice aa na ca] 27)) _ _ _ at r0;have k0:aA Nil w (w.alloc (.cells #[.slice ap np cp,.bool ga,.slice aa na ca] 27)):=kOf;generalize w.alloc (.cells #[.slice ap np cp,.bool ga,.slice aa na ca] 27)=w0 at *
 obtain ⟨d0,d1,d2⟩:=r0.three;have H0:=jJ k0;clear k0 r0;generalize hq:dR l=q at *
 have HQE:=jJ hq;have hfield:=aYF;clear hq;go_wp2_with (go_at_call 83;refine (DN (M:=Nil) (MB.nil _) (HA.o.1.eO H0.o) (HA.o.2.1.eO H0.o) HA.o.2.2.2.1 HA.o.2.2.1).mono ?_;rintro e w1 ⟨v,rfl,⟨bp,mp,dp,gb,ab,nb,cb,rfl,ht⟩,hk1⟩;have hp:=ht.1;rw [show (bC ⟨l,z⟩).parts=q from HQE.o] at hp;have hmp:=eU.len hp;have hcap:=eU.cap hp;have hle:=eU.le hp;have H1:=jJ (aI3 hp hmp hk1);clear ht hk1 hp hmp)
 have hm:mp≤16777216:=by have h1:=H1.o.2.1;have h2:=HQ.o;have h3:=HA.o.r4;omega
 go_loopw [3,10] (fun v iv wr=>∃(k:Nat) (va:Option Addr) (vc:Nat),k≤mp∧iv=.int .i64 (k:Int)∧v=.slice va k vc∧aL wr w1.heap.size 3 1 (.slice va k vc) (aO ((q.take k).map (·.1)))∧aA Nil w1 wr) (fun _ iv _=>mp-(intOf iv).toNat)
 case atStart=>exact⟨0,none,0,aZ2 _,rfl,rfl,aL.nil _ _ _ _,aA.refl _ _⟩
 case round=>
  obtain ⟨k,va,vc,hk,rfl,rfl,hown,hkr⟩:=hrel;have hql:q.length=mp:=H1.o.2.1;by_cases hlt:k<mp
  ·have j0:(0:Int)≤(k:Int):=zZ;have j1:(k:Int)<(mp:Int):=zZ;obtain ⟨b,off,g,a',n',c',hae,hb,-,x0,x1,x2,hzz,i1',i2'⟩:=(H1.o.1.eO hkr).at hlt;subst hae;have hs:(q.take (k+1)).map (·.1)=(q.take k).map (·.1)++[(pth q k).1]:=by
    rw [List.take_succ_eq_append_getElem zZ,cZ2,iR zZ];rfl
   have hcl:(aO ((q.take k).map (·.1))).length=k:=by rw [aJ,hZ1,iZ1];omega
   have hws:w1.heap.size≤wr.heap.size:=hkr.size;have HC:=jJ (aI5 hown hkr hs hcl hws);clear hown hkr hs hcl hws hzz hql;generalize (pth q k).1=v at *
   go_wp2_with (at_builtin;refine bY _ rfl (.tmp 14) (.tmp 17) 56 rfl w1.heap.size 3 i1 (.int .i64 0) 1 8 underlying56 HI.o.1 HI.o.2.1 HI.o.2.2.1 HI.o.2.2.2 rfl zY (.slice va k vc) _ rfl ((HC.o.1.eO (w':=wr.alloc (.cells #[.int .i64 v,.bool g,.slice a' n' c'] 96)) kOf).eO kOf) ⟨wr.heap.size+1,0,none⟩ 1 1 [[.int .i64 v]] rfl rfl zW (TQ _ _ _ _) yO uA uA (by have:=HC.o.r4;simp;omega) ?_;intro v' w2 ho hk2 hf2 _;obtain ⟨a7,c7,rfl⟩:=ho.isSlice;have e7:(aO ((q.take k).map (·.1))++[[Value.int .i64 v]]).length=k+1:=(by rw [aZ1,HC.o.2.2.2.1];rfl);rw [e7] at ho⊢;have HO:=jJ (aI ho hk2);clear ho hk2 hf2 e7)
   go_roundw
   case rel=>exact⟨k+1,a7,c7,zZ,zF,rfl,by rw [HC.o.2.2.1,FZ];exact HO.o.1,((HC.o.2.1.trans (c:=wr.alloc (.cells #[.int .i64 v,.bool g,.slice a' n' c'] 96)) kOf).trans kOf).trans' HO.o.2 (fun b hb=>.inr (HC.o.1.lt b hb).1)⟩
   case measure=>exact zI
  ·have ekn:mp=k:=zZ;subst ekn;rw [eZ1 zZ] at hown;have HC:=jJ (aI3 hown hkr hql);clear hown hkr hql;go_wp2_with fail
   go_ret
   refine ⟨_,rfl,⟨va,vc,?_,?_⟩,H0.o.trans (H1.o.2.2.trans HC.o.2.1)⟩
   ·rw [HQE.o,hZ1,HC.o.2.2];rfl
   ·rw [HQE.o,hZ1,HC.o.2.2];exact HC.o.1.base (by have h1:=H0.o.size;have h2:=H1.o.2.2.size;omega)
theorem aRQ {w1 w2:World} {cx cy:List Value} {x y:Int × Int} (h:dZ M1 w cx x) (h2:dZ M2 w cy y) (hx:eP x.2.natAbs*4+4≤140737488355328) (hy:eP y.2.natAbs*4+4≤140737488355328) :
  Calls prog 192 #[.agg cx.toArray,.agg cy.toArray] w fun e w'=>e=.returned (.int .i64 (AY x y))∧aA Nil w w':=by
 obtain ⟨g,a,n,c,rfl,hz,-,-⟩:=h;obtain ⟨g2,a2,n2,c2,rfl,hz2,-,-⟩:=h2;have hc:∀W,aA Nil w W→Calls prog 61 #[.agg #[.bool g,.slice a n c],.agg #[.bool g2,.slice a2 n2 c2]] W fun e w'=>e=.returned (.int .i64 (fT x.2 y.2))∧aA Nil W w':=fun W k=>ER ((hz.zat hx).eO k) ((hz2.zat hy).eO k);have e:AY x y=if x.1<y.1 then -1 else if y.1<x.1 then 1 else fT x.2 y.2:=rfl
 obtain ⟨u,hu⟩:∃u,u=x.1:=⟨_,rfl⟩;obtain ⟨v,hv⟩:∃v,v=y.1:=⟨_,rfl⟩;rw [e,←hu,←hv];have HC:=jJ hc;clear hu hv hz hz2 hx hy hc e;by_cases huv:u<v
 ·rw [if_pos huv];go_enter func192,ntmps192
  go_wp2_with fail
  go_ret
  exact⟨rfl,kOf⟩
 ·rw [if_neg huv];by_cases hvu:v<u
  ·rw [if_pos hvu];have hgt:u > v:=hvu;go_enter func192,ntmps192
   go_wp2_with fail
   go_ret
   exact⟨rfl,kOf⟩
  ·rw [if_neg hvu];have hgt:¬u > v:=hvu;go_enter func192,ntmps192
   go_wp2_with (go_at_call 61;refine (HC.o _ kOf).mono ?_;rintro e w1 ⟨rfl,hk1⟩)
   go_ret
   exact⟨rfl,(((aA.refl Nil w).alloc _).alloc _).trans hk1⟩
theorem PE (h:k<l.length):l.drop k=pth l k::l.drop (k+1):=by rw [List.drop_eq_getElem_cons h,iR h]
theorem aLD {M3 M4:Nat→Prop} {a a2:Option Addr} {n c n2 c2:Nat} (h:cV M1 M2 w a n c l) (h2:cV M3 M4 w a2 n2 c2 l2) (hf:∀p∈l,eP p.2.natAbs*4+4≤140737488355328) (hf2:∀p∈l2,eP p.2.natAbs*4+4≤140737488355328) :
  Calls prog 191 #[.slice a n c,.slice a2 n2 c2,.func (.func 192) #[] #[]] w fun e w'=>e=.returned (.int .i64 (cmpL l l2))∧aA Nil w w':=by
 have hl:=eU.len h;have hl2:=eU.len h2;have hcap:=eU.cap h;have hle:=eU.le h;have hcap2:=eU.cap h2;have hle2:=eU.le h2;have heg:∀args w,(callFunc 192 args).run prog w=.ok (.enter 192 args) w:=enters_of func192 zX rfl;have HA:=jJ (aI6 h h2 hf hf2 hl hl2);clear h h2 hf hf2 hl hl2;go_enter func191,ntmps191
 go_wp2_with fail
 go_loopw [13] (fun iv wr=>∃k:Nat,k≤n∧k≤n2∧iv=.int .i64 (k:Int)∧cmpL l l2=cmpL (l.drop k) (l2.drop k)∧aA Nil w wr) (fun iv _=>n-(intOf iv).toNat)
 case atStart=>exact⟨0,aZ2 _,aZ2 _,rfl,rfl,aA.refl _ _⟩
 case round=>
  obtain ⟨k,hk,hk2,rfl,hd,hkr⟩:=hrel;by_cases hlt:k<n
  ·have j0:(0:Int)≤(k:Int):=zZ;have j1:(k:Int)<(n:Int):=zZ;by_cases hlt2:k<n2
   ·have j2:(k:Int)<(n2:Int):=zZ;have j3:¬(k:Int) ≥ (n2:Int):=zZ;obtain ⟨b,off,g,a',n',c',hae,hb,-,x0,x1,x2,hzz,i1,i2⟩:=(HA.o.1.eO hkr).at hlt;obtain ⟨b2,off2,g2,a2',n2',c2',hae2,hb2,-,y0,y1,y2,hzz2,i3,i4⟩:=(HA.o.2.1.eO hkr).at hlt2;subst hae hae2;have hmem:pth l k∈l:=by rw [iR tN];exact List.getElem_mem _
    have hmem2:pth l2 k∈l2:=by rw [iR xE];exact List.getElem_mem _
    have hcall:=fun (W:World) (q:aA Nil wr W)=>aRQ (w1:=W) (w2:=W) (dZ.moves (M2:=Nil) ⟨g,a',n',c',rfl,hzz,i1,i2⟩ q (fun _ _ h=>h.elim) fun _ _ h=>h.elim) (dZ.moves (M2:=Nil) ⟨g2,a2',n2',c2',rfl,hzz2,i3,i4⟩ q (fun _ _ h=>h.elim) fun _ _ h=>h.elim) (HA.o.2.2.1 _ hmem) (HA.o.2.2.2.1 _ hmem2);have hd2:cmpL l l2=if AY (pth l k) (pth l2 k)≠0 then AY (pth l k) (pth l2 k) else cmpL (l.drop (k+1)) (l2.drop (k+1)):=by
     rw [hd,PE (l:=l) tN,PE (l:=l2) xE,aFF]
    have lb:=Live.of hb;have lb2:=Live.of hb2;have HC:=jJ (aI3 hcall hd2 hkr);clear hcall hd2 hkr hd hzz hzz2 hmem hmem2 i1 i2 i3 i4;obtain ⟨r,hr⟩:∃r,r=AY (pth l k) (pth l2 k):=⟨_,rfl⟩;rw [←hr] at HC;clear hr;generalize (pth l k).1=v at *
    generalize (pth l2 k).1=v2 at *
    obtain ⟨q1,q2,q3,q4,q5,q6,q7,q8,q9⟩:=aEZ;by_cases hr0:r=0
    ·subst hr0;go_wp2_with (go_at_call 192;refine (HC.o.1 _ kOf).mono ?_;rintro e w1 ⟨rfl,hk1⟩)
     go_roundw
     case rel=>exact⟨k+1,zZ,zZ,zF,by have h:=HC.o.2.1;simpa using h,(HC.o.2.2.trans kkA).trans hk1⟩
     case measure=>exact zI
    ·have hr1:(r==0)=false:=by simpa using hr0
     go_wp2_with (go_at_call 192;refine (HC.o.1 _ kOf).mono ?_;rintro e w1 ⟨rfl,hk1⟩)
     go_ret
     have h:=HC.o.2.1;rw [if_pos hr0] at h;exact⟨by rw [h];rfl,(HC.o.2.2.trans kkA).trans hk1⟩
   ·have j3:(k:Int) ≥ (n2:Int):=zZ;have ekn:n2=k:=zZ;obtain ⟨b,off,g,a',n',c',hae,hb,-,x0,x1,x2,hzz,i1,i2⟩:=(HA.o.1.eO hkr).at hlt;subst hae;have hd2:cmpL l l2=1:=by
     rw [hd,PE (l:=l) tN,@List.drop_eq_nil_of_le _ l2 _ xE];rfl
    have HC:=jJ (aI hd2 hkr);clear hd2 hkr hd hzz i1 i2;generalize (pth l k).1=v at *
    go_wp2_with fail
    go_ret
    exact⟨by rw [HC.o.1];rfl,HC.o.2.trans kOf⟩
  ·have ekn:n=k:=zZ;subst ekn;have hcl:cmpL l l2=if n<n2 then -1 else 0:=by
    rw [hd,@List.drop_eq_nil_of_le _ l _ tN];split
    ·rw [PE (l:=l2) xE];rfl
    ·rw [@List.drop_eq_nil_of_le _ l2 _ xE];rfl
   have HC:=jJ (aI hcl hkr);clear hcl hkr hd;by_cases hnn:n<n2
   ·have j3:(n:Int)<(n2:Int):=zZ;go_wp2_with fail
    go_ret
    exact⟨by rw [HC.o.1,if_pos hnn];rfl,HC.o.2⟩
   ·have j3:¬(n:Int)<(n2:Int):=zZ;go_wp2_with fail
    go_ret
    exact⟨by rw [HC.o.1,if_neg hnn];rfl,HC.o.2⟩
def YA (T:aV):Prop:=(∀p∈T.parts,eP p.2.natAbs*4+4≤140737488355328)∧eP T.k.natAbs*4+4≤140737488355328
theorem aCQ {M3 M4:Nat→Prop} {gb:Bool} {ab bp:Option Addr} {nb cb mp dp:Nat} {z2:Int} (ha:bI M1 M2 w ap np cp l) (hz:ZAt Nil w ga aa na ca z) (hb:bI M3 M4 w bp mp dp l2) (hz2:ZAt Nil w gb ab nb cb z2) (h1:na≤1073741824) (h2:np≤16777216) (h3:nb≤1073741824) (h4:mp≤16777216) (hf:YA (bC ⟨l,z⟩)) (hf2:YA (bC ⟨l2,z2⟩)) :
  Calls prog 148 #[.agg #[.slice ap np cp,.bool ga,.slice aa na ca],.agg #[.slice bp mp dp,.bool gb,.slice ab nb cb]] w fun e w'=>e=.returned (.int .i64 (kE (bC ⟨l,z⟩) (bC ⟨l2,z2⟩)))∧aA Nil w w':=by
 have HA:=jJ (aI5 ha hz h1 h2 hf);have HB:=jJ (aI5 hb hz2 h3 h4 hf2);clear ha hz hb hz2 h1 h2 h3 h4 hf hf2;go_enter func148,ntmps148
 go_upto_region 1 with (fail)
 obtain ⟨w0,e_2,k0,r0,r1⟩:=bx2 w 27 [.slice ap np cp,.bool ga,.slice aa na ca] 27 [.slice bp mp dp,.bool gb,.slice ab nb cb];rw [e_2];clear e_2;have lr1:=r1.lt;have H0:=jJ (aI3 k0 r0 r1);clear k0 r0 r1;refine aX 6 [4,5] [6,7,8,9,1013,1014] [6,7,8,9] [Un (eT ?v3_0),Un (TV (Old w0) (bC ⟨l,z⟩)),Un (eT ?v3_2),Un (TV (Old w0) (bC ⟨l2,z2⟩)),nothing,nothing] (aB.sk (aB.sk (aB.nx ?r3_3 (aB.nx ?r3_2 (aB.nx ?r3_1 (aB.nx ?r3_0 aB.zero)))))) ?rfn3
 case' r3_0|r3_1|r3_2|r3_3=>
  intro us wj hk hp K hK;try simp only [aQ,Act.put,sL] at hK⊢
  obtain ⟨d0,d1,d2⟩:=(H0.o.2.1.keep hk id).three;obtain ⟨e0',e1',e2'⟩:=(H0.o.2.2.keep hk id).three
 case' r3_0|r3_2=>
  go_simp
  refine hK.out _ _ (aA.refl _ _) ?_;exact rfl
 case' r3_1=>
  have e0:us 6=_:=hp 0;rw [e0] at hK⊢;go_simp
  refine (DN (M:=Old w0) (MB.gY hk.size) (HA.o.1.eO (H0.o.1.trans hk)) (HA.o.2.1.eO (H0.o.1.trans hk)) HA.o.2.2.2.1 HA.o.2.2.1).mono ?_;rintro e wk ⟨v,rfl,hv,hk2⟩;exact hK.out _ _ hk2 (hv)
 case' r3_3=>
  have e2:us 8=_:=hp 2;rw [e2] at hK⊢;go_simp
  refine (DN (M:=Old w0) (MB.gY hk.size) (HB.o.1.eO (H0.o.1.trans hk)) (HB.o.2.1.eO (H0.o.1.trans hk)) HB.o.2.2.2.1 HB.o.2.2.1).mono ?_;rintro e wk ⟨v,rfl,hv,hk2⟩;exact hK.out _ _ hk2 (hv)
 case' rfn3=>
 intro us wz hkz hf;simp only [aQ,Act.put,sL];have e0:us 6=_:=hf 0;obtain ⟨ap1,np1,cp1,gk1,ak1,nk1,ck1,e1,h1⟩:(TV (Old w0) (bC ⟨l,z⟩)) (us 7) wz:=hf 1;have e2:us 8=_:=hf 2;obtain ⟨ap3,np3,cp3,gk3,ak3,nk3,ck3,e3,h3⟩:(TV (Old w0) (bC ⟨l2,z2⟩)) (us 9) wz:=hf 3;clear hf;simp only [e0,e1,e2,e3];clear e0 e1 e2 e3 us;refine aK 4 fun K hK=>?_;obtain ⟨z0,z1,z2'⟩:=(H0.o.2.1.keep hkz id).three;obtain ⟨z3,z4,z5⟩:=(H0.o.2.1.keep hkz id).iZ;obtain ⟨y0,y1,y2⟩:=(H0.o.2.2.keep hkz id).three;obtain ⟨y3,y4,y5⟩:=(H0.o.2.2.keep hkz id).iZ;go_simp
 refine mK ?_;clear hK K;refine aK 5 fun K hK=>?_;go_simp
 refine mK ?_;clear hK K;refine aR zX ?_ _;skip
 have ks1:=aA.triple (w:=wz) (g:=w.heap.size) (.slice ap1 np1 cp1) (.bool gk1) (.slice ak1 nk1 ck1);have ra:=(H0.o.2.1.keep hkz id).triple (.slice ap1 np1 cp1) (.bool gk1) (.slice ak1 nk1 ck1);have rb:=(H0.o.2.2.keep hkz id).keep ks1 (show ¬_=_ by omega);have ks2:=aA.triple (w:=((wz.setCell ⟨w.heap.size,0,none⟩ (.slice ap1 np1 cp1)).setCell ⟨w.heap.size,1,none⟩ (.bool gk1)).setCell ⟨w.heap.size,2,none⟩ (.slice ak1 nk1 ck1)) (g:=w.heap.size+1) (.slice ap3 np3 cp3) (.bool gk3) (.slice ak3 nk3 ck3);have ra2:=ra.keep ks2 (show ¬_=_ by omega);have rb2:=rb.triple (.slice ap3 np3 cp3) (.bool gk3) (.slice ak3 nk3 ck3);have q1:=(h1.out (M:=Old w0) zZ (fun _ hb=>hb) ks1).out (M:=Nil) lr1 (fun _ hb=>hb.elim) ks2;have q3:=(h3.out (M:=Old w0) zZ (fun _ hb=>hb) ks1).out (M:=Nil) lr1 (fun _ hb=>hb.elim) ks2;have kq:aA Nil w _:=((H0.o.1.trans hkz).own (bZ2 _) ks1).own (Nat.le_succ _) ks2;clear z0 z1 z2' z3 z4 z5 y0 y1 y2 y3 y4 y5 h1 h3 ks1 ks2 ra rb hkz;generalize (((((wz.setCell ⟨w.heap.size,0,none⟩ (.slice ap1 np1 cp1)).setCell ⟨w.heap.size,1,none⟩ (.bool gk1)).setCell ⟨w.heap.size,2,none⟩ (.slice ak1 nk1 ck1)).setCell ⟨w.heap.size+1,0,none⟩ (.slice ap3 np3 cp3)).setCell ⟨w.heap.size+1,1,none⟩ (.bool gk3)).setCell ⟨w.heap.size+1,2,none⟩ (.slice ak3 nk3 ck3)=wq at *
 obtain ⟨d0,d1,d2⟩:=ra2.three;obtain ⟨d3,d4,d5⟩:=rb2.three;have hT:kE (bC ⟨l,z⟩) (bC ⟨l2,z2⟩)=if cmpL (bC ⟨l,z⟩).parts (bC ⟨l2,z2⟩).parts≠0 then cmpL (bC ⟨l,z⟩).parts (bC ⟨l2,z2⟩).parts else fT (bC ⟨l,z⟩).k (bC ⟨l2,z2⟩).k:=rfl
 have hF:=HA.o.r4;have hF2:=HB.o.r4;generalize hT1:bC ⟨l,z⟩=T1 at *
 generalize hT2:bC ⟨l2,z2⟩=T2 at *
 have HTT:=jJ (aI hT1 hT2);clear hT1 hT2;have hc1:=aLD q1.1 q3.1 hF.1 hF2.1;have hc2:∀W,aA Nil wq W→Calls prog 61 #[.agg #[.bool gk1,.slice ak1 nk1 ck1],.agg #[.bool gk3,.slice ak3 nk3 ck3]] W fun e w'=>e=.returned (.int .i64 (fT T1.k T2.k))∧aA Nil W w':=fun W k=>ER ((q1.2.zat hF.2).eO k) ((q3.2.zat hF2.2).eO k);obtain ⟨r,hr⟩:∃r,r=cmpL T1.parts T2.parts:=⟨_,rfl⟩;rw [←hr] at hc1 hT;have HQ:=jJ (aI5 hc1 hc2 kq ra2 rb2);have HT:=jJ hT;clear hc1 hc2 kq ra2 rb2 q1 q3 hF hF2 hT hr;by_cases hr0:r=0
 ·subst hr0;go_wp2_with (first|(go_at_call 191;refine HQ.o.1.mono ?_;rintro e w1 ⟨rfl,hk1⟩;obtain ⟨f0,f1,f2⟩:=(HQ.o.2.2.2.1.keep hk1 id).three;obtain ⟨f3,f4,f5⟩:=(HQ.o.r4.keep hk1 id).three;have H1:=jJ hk1;clear hk1)|(go_at_call 61;refine (HQ.o.2.1 _ H1.o).mono ?_;rintro e w2 ⟨rfl,hk2⟩))
  go_ret
  exact⟨by rw [HTT.o.1,HTT.o.2,HT.o,if_neg zW];rfl,HQ.o.2.2.1.trans (H1.o.trans hk2)⟩
 ·have hr1:(r==0)=false:=by simpa using hr0
  go_wp2_with (first|(go_at_call 191;refine HQ.o.1.mono ?_;rintro e w1 ⟨rfl,hk1⟩;have H1:=jJ hk1;clear hk1))
  go_ret
  exact⟨by rw [HTT.o.1,HTT.o.2,HT.o,if_pos hr0];rfl,HQ.o.2.2.1.trans H1.o⟩
end
end Go.Proofs.Q
