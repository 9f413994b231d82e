/- What zint.trim, slices.Clone at limbs and their like do: the limbs without the noughts at the end, in new memo. -/
import Derived.Test.YtlldghknenbccaaGreatDoorRows
import Derived.Test.YtlldghknenbccaaGreatDoorPWords
import Derived.Deep.LoopGhost
set_option linter.unusedSimpArgs false
set_option linter.unusedVariables false
set_option maxRecDepth 100000
set_option maxHeartbeats 1000000
namespace Go.Proofs.Q
open Go.RowKit Tryz
theorem aR.ofNone {M M':Nat→Prop} {w:World} {n c:Nat} {l:List Nat} (h:aR M w none n c l):aR M' w none n c l:=
 ⟨h.len,⟨h.sl.le,h.sl.cap,h.sl.none,fun _ e=>by cases e⟩,h.lt⟩
section
variable {w:World} {l:List Nat} {M' M:Nat→Prop} {a:Option Addr} {c n:Nat} {p:Addr}
theorem info_u32:(prog.info? 112).map (fun i=>(i.zero,i.size,i.bytes))=some (some (.int .u32 0),1,4):=by kernel_rfl
theorem clone_u32_nil (w:World):Calls prog 119 #[.slice none 0 0] w fun e w'=>e=.returned (.slice none 0 0)∧w=w':=by
 have q:∀(w:World) (a:Option Addr) (n c n' c':Nat),(binOp .eql 23 (.slice a n c) (.slice none n' c')).run prog w=.ok (.bool a.isNone) w:=fun w a n c n' c'=>Lib.run_eql_slice_nil w _ _ a n c n' c' underlying23;go_enter func119,ntmps119
 go_wp2
 go_ret
 exact⟨rfl,rfl⟩
theorem clone_u32 (hM:MB M w) (h:aR M' w a n c l) (hr:n*4≤140737488355328) :
  Calls prog 119 #[.slice a n c] w fun e w'=>∃a' c',e=.returned (.slice a' n c')∧aR M w' a' n c' l∧aA Nil w w':=by
 cases a with
 | none=>
  obtain ⟨rfl,rfl⟩:=h.sl.none rfl;exact (clone_u32_nil w).mono fun e w' ⟨he,hw⟩=>by subst hw;exact⟨_,_,he,h.ofNone,aA.refl _ _⟩
 | some p=>
  have q:∀(w:World) (a:Option Addr) (n c n' c':Nat),(binOp .eql 23 (.slice a n c) (.slice none n' c')).run prog w=.ok (.bool a.isNone) w:=fun w a n c n' c'=>Lib.run_eql_slice_nil w _ _ a n c n' c' underlying23;obtain ⟨i0,hi,hz0,hz1,hz2⟩:=info_parts info_u32;have HH:=jJ h;have HM:=jJ hM;clear h hM;go_enter func119,ntmps119
  go_wp2_with (at_builtin;refine wpList_append_own _ rfl _ _ 23 rfl w.heap.size 112 i0 (.int .u32 0) 1 4 underlying23 hi hz0 hz1 hz2 rfl (by decide) _ _ _ rfl (World.ownsRow_made w #[] 0 (bZ2 _) (aZ2 _) rfl) p n c (l.map u32) rfl ?qc1 ?qc2 ?qc3 ?qc4 ?qc5 ?qc6 ?_)
  case qc1=>simp [HH.o.len]
  case qc2=>
   intro j u hj;have hx:=HH.o.src (k:=n) (bZ2 _);rw [eZ1 (by have:=HH.o.len;omega)] at hx;have hjl:j<(u32s l).length:=(List.getElem?_eq_some_iff.1 hj).1;obtain ⟨b,off,e,hb,_,hc⟩:=hx (by omega);cases e;rw [←hc j u hj,Addr.add_lit];exact World.cell?_alloc_lt _ _ (a:=⟨b,off+j,none⟩) hb
  case qc3=>exact u32_one l
  case qc4=>unfold maxLen;omega
  case qc5=>omega
  case qc6=>simp
  intro v' w1 hown hgrow hnil;go_wp2
  go_ret
  have h:=HH.o;obtain ⟨a',c',rfl,hL⟩:=aR.owned (M:=M) (l:=l) (by simpa using hown) h.lt HM.o;exact⟨_,_,rfl,hL,((aA.refl _ w).alloc _).grow hgrow (by intro k hk;simp [Value.ownBlock] at hk;omega)⟩
theorem trim_nil (w:World):Calls prog 132 #[.slice none 0 0] w fun e w'=>e=.returned (.slice none 0 0)∧w=w':=by
 go_enter func132,ntmps132
 go_wp2
 go_loop [0] (fun s=>s=.slice none 0 0) (fun _=>0)
 case atStart=>rfl
 case round=>
  subst hrel;go_wp2_with (go_at_call 119;refine (clone_u32_nil _).mono ?_;rintro e w' ⟨rfl,rfl⟩)
  go_ret
  exact⟨rfl,rfl⟩
theorem trim_zero (hM:MB M w) (h:aR M' w (some p) 0 c []) :
  Calls prog 132 #[.slice (some p) 0 c] w fun e w'=>∃a' c',e=.returned (.slice a' 0 c')∧aR M w' a' 0 c' []∧aA Nil w w':=by
 have hcap:=h.sl.cap;have HH:=jJ h;clear h;go_enter func132,ntmps132
 go_wp2
 go_loop [0] (fun s=>s=.slice (some p) 0 c) (fun _=>0)
 case atStart=>rfl
 case round=>
  subst hrel;go_wp2_with (go_at_call 119;refine (clone_u32 hM HH.o (by omega)).mono ?_;rintro e w' ⟨a',c',rfl,h',hk'⟩)
  go_ret
  exact⟨_,_,rfl,h',hk'⟩
theorem trim_some {b off:Nat} (hM:MB M w) (h:aR M' w (some ⟨b,off,none⟩) n c l) (hr:n*4≤140737488355328) :
  Calls prog 132 #[.slice (some ⟨b,off,none⟩) n c] w fun e w'=>∃a' c',e=.returned (.slice a' (top l) c')∧aR M w' a' (top l) c' (trim l)∧aA Nil w w':=by
 have hle:=h.sl.le;have hcap:=h.sl.cap;have HH:=jJ h;clear h;go_enter func132,ntmps132
 go_wp2
 go_loop [0] (fun s=>∃k:Nat,k≤n∧topK l n=topK l k∧s=.slice (some ⟨b,off,none⟩) k c) (fun s=>match s with|.slice _ k _=>k|_=>0)
 case atStart=>exact⟨n,bZ2 _,rfl,rfl⟩
 case round=>
  obtain ⟨k,hk,ht,rfl⟩:=hrel;have HT:=jJ ht;clear ht;cases k with
  | zero=>
   have hL:aR M' w (some ⟨b,off,none⟩) 0 c (trim l):=by
    have e:top l=0:=by unfold top;rw [HH.o.len];exact HT.o
    have hx:=HH.o.take (k:=0) (by omega);rw [←e] at hx⊢;exact hx
   have HL:=jJ hL;clear hL;go_wp2_with (go_at_call 119;refine (clone_u32 hM HL.o (by omega)).mono ?_;rintro e w' ⟨a',c',rfl,h',hk'⟩)
   go_ret
   have e:top l=0:=by unfold top;rw [HH.o.len];exact HT.o
   rw [e];exact⟨_,_,rfl,h',hk'⟩
  | succ k=>
   have hcell:w.cell? ⟨b,off+k,none⟩=some (.int .u32 (lim l k:Int)):=by simpa using (HH.o.sl.some _ rfl (by omega)).2.2.2 k 0 (by omega) (by omega)
   by_cases h1:((lim l k:Int)==0)=true
   ·go_wp2
    go_round
    case rel=>exact⟨k,by omega,by rw [HT.o,topK_zero (by simpa using h1)],rfl⟩
    case measure=>simp
   ·have h1':((lim l k:Int)==0)=false:=by simpa using h1
    have e:top l=k+1:=by unfold top;rw [HH.o.len,HT.o,topK_pos (by simpa using h1')]
    have hL:aR M' w (some ⟨b,off,none⟩) (k+1) c (trim l):=
     by have hx:=HH.o.take (k:=k+1) (by omega);rw [←e] at hx⊢;exact hx
    have HL:=jJ hL;have HE:=jJ e;clear hL e;go_wp2_with (go_at_call 119;refine (clone_u32 hM HL.o (by omega)).mono ?_;rintro e w' ⟨a',c',rfl,h',hk'⟩)
    go_ret
    rw [HE.o];exact⟨_,_,rfl,h',hk'⟩
theorem trim_any (hM:MB M w) (h:aR M' w a n c l) (hr:n*4≤140737488355328) :
  Calls prog 132 #[.slice a n c] w fun e w'=>∃a' c',e=.returned (.slice a' (top l) c')∧aR M w' a' (top l) c' (trim l)∧aA Nil w w':=by
 rcases Nat.eq_zero_or_pos n with rfl|hn
 ·have e:l=[]:=fZ1 h.len;subst e;cases a with
  | none=>
   obtain ⟨_,rfl⟩:=h.sl.none rfl;exact (trim_nil w).mono fun e w' ⟨he,hw⟩=>by subst hw;exact⟨_,_,he,h.ofNone,aA.refl _ _⟩
  | some p=>exact trim_zero hM h
 ·obtain ⟨b,off,rfl,_⟩:=h.sl.at hn;exact trim_some hM h hr
end
section
variable {a:Option Addr} {M:Nat→Prop} {l:List Nat} {w:World} {n c:Nat}
theorem dJ (h:aR M w a n c l) :
  Calls prog 136 #[.slice a n c] w fun e w'=>e=.returned (.slice a (top l) (top l))∧w=w':=by
 have hle:=h.sl.le;have hcap:=h.sl.cap;have HH:=jJ h;clear h;go_enter func136,ntmps136
 go_wp2
 go_step3
 go_wp2
 go_step3
 go_wp2
 go_loop [3] (fun s=>∃k:Nat,k≤n∧topK l n=topK l k∧s=.int .i64 (k:Int)) (fun s=>match s with|.int _ k=>k.toNat|_=>0)
 case atStart=>exact⟨n,bZ2 _,rfl,rfl⟩
 case round=>
  obtain ⟨k,hk,ht,rfl⟩:=hrel;have HT:=jJ ht;clear ht;cases k with
  | zero=>
   have e:top l=0:=by unfold top;rw [HH.o.len];exact HT.o
   have HE:=jJ e;clear e;rw [show ((0:Nat):Int)=0 from rfl];go_wp2
   go_ret
   rw [HE.o];exact⟨rfl,rfl⟩
  | succ k=>
   obtain ⟨b,off,rfl,hc0⟩:=HH.o.sl.at (by omega);have hcell:w.cell? ⟨b,off+k,none⟩=some (.int .u32 (lim l k:Int)):=by simpa using (HH.o.sl.some _ rfl (by omega)).2.2.2 k 0 (by omega) (by omega)
   by_cases h1:((lim l k:Int)==0)=true
   ·go_wp2
    go_round
    case rel=>exact⟨k,by omega,by rw [HT.o,topK_zero (by simpa using h1)],rfl⟩
    case measure=>simp
   ·have h1':((lim l k:Int)==0)=false:=by simpa using h1
    have e:top l=k+1:=by unfold top;rw [HH.o.len,HT.o,topK_pos (by simpa using h1')]
    have HE:=jJ e;clear e;go_wp2
    go_ret
    rw [HE.o];exact⟨rfl,rfl⟩
theorem own_row (h:aR M w a n c l) (hr:n*4≤140737488355328) :
  Calls prog 133 #[.slice a n c] w fun e w'=>∃v,e=.returned v∧w'.ownsRow w.heap.size 112 1 v (top l) ((trim l).map u32)∧aA Nil w w':=by
 obtain ⟨i0,hi,hz0,hz1,hz2⟩:=info_parts info_u32;have htl:top l≤n:=by rw [←h.len];exact top_le l
 have HH:=jJ h;clear h;go_enter func133,ntmps133
 cases a with
 | none=>
  obtain ⟨rfl,rfl⟩:=HH.o.sl.none rfl;have e0:l=[]:=fZ1 HH.o.len;subst e0;go_wp2_with (first|(go_at_call 136;refine (dJ (HH.o.keep' ((aA.refl M w).alloc _))).mono ?_;rintro e w' ⟨rfl,rfl⟩)|(at_builtin;refine wpList_append_own_none rfl _ _ 23 rfl w.heap.size 112 i0 1 underlying23 hi _ _ _ rfl (World.ownsRow_made w #[] 0 (bZ2 _) (aZ2 _) rfl) rfl ?_))
  go_ret
  exact⟨_,rfl,World.ownsRow_made w #[] 0 (bZ2 _) (aZ2 _) rfl,(aA.refl _ w).alloc _⟩
 | some p=>
  go_wp2_with (first|(go_at_call 136;refine (dJ (HH.o.keep' ((aA.refl M w).alloc _))).mono ?_;rintro e w' ⟨rfl,rfl⟩)|(at_builtin;refine wpList_append_own _ rfl _ _ 23 rfl w.heap.size 112 i0 (.int .u32 0) 1 4 underlying23 hi hz0 hz1 hz2 rfl (by decide) _ _ _ rfl (World.ownsRow_made w #[] 0 (bZ2 _) (aZ2 _) rfl) p (top l) (top l) ((trim l).map u32) rfl ?qc1 ?qc2 ?qc3 ?qc4 ?qc5 ?qc6 ?_))
  case qc1=>simp [cY]
  case qc2=>
   intro j u hj;have hx:=(HH.o.keep' ((aA.refl M w).alloc (.cells #[] 112))).src (k:=top l) htl;have hjl:j<(trim l).length:=by have:=(List.getElem?_eq_some_iff.1 hj).1;simpa using this
   obtain ⟨b,off,e,hb,_,hc⟩:=hx (by rw [dL];exact Nat.lt_of_le_of_lt (aZ2 _) hjl);cases e;rw [Addr.add_lit];exact hc j u hj
  case qc3=>exact u32_one _
  case qc4=>unfold maxLen;omega
  case qc5=>omega
  case qc6=>simp
  intro v' w1 hown hgrow hnil;go_wp2
  go_ret
  exact⟨_,rfl,by simpa using hown,((aA.refl _ w).alloc _).grow hgrow (by intro k hk;simp [Value.ownBlock] at hk;omega)⟩
theorem own_any (hM:MB M w) (h:aR Nil w a n c l) (hr:n*4≤140737488355328) :
  Calls prog 133 #[.slice a n c] w fun e w'=>∃a' c',e=.returned (.slice a' (top l) c')∧aR M w' a' (top l) c' (trim l)∧aA Nil w w':=by
 refine (own_row h hr).mono ?_;rintro e w' ⟨v,rfl,ho,hk⟩;obtain ⟨a',c',rfl,hL⟩:=aR.owned ho (fun x hx=>h.lt x (mem_trim hx)) hM;exact⟨_,_,rfl,hL,hk⟩
end
section
variable {a:Option Addr} {M:Nat→Prop} {l:List Nat} {w:World} {n c:Nat}
theorem aR.toNil (h:aR M w a n c l):aR Nil w a n c l:=h.turn fun _ _ h=>h.elim
theorem aR.bare (h:aR M w a n c l):aR M w a (top l) (top l) (trim l):=by
 have ht:top l≤n:=by rw [←h.len];exact top_le l
 have hle:=h.sl.le;have hcap:=h.sl.cap;cases a with
 | none=>
  obtain ⟨rfl,rfl⟩:=h.sl.none rfl;have e0:l=[]:=fZ1 h.len;subst e0;exact h
 | some p=>
  have hx:=h.take (k:=top l) ht;exact⟨hx.len,⟨bZ2 _,by omega,(fun h=>by cases h),hx.sl.some⟩,hx.lt⟩
theorem aR.keepNil {w':World} (h:aR M w a n c l) (k:aA Nil w w'):aR M w' a n c l:=h.keep k fun _ _ h=>h.elim
theorem aR.cell {M:Nat→Prop} {w:World} {a:Option Addr} {n c:Nat} {l:List Nat} (h:aR M w a n c l) {k:Nat} (hk:k<n):∃b off,a=some ⟨b,off,none⟩∧b<w.heap.size∧¬M b∧w.cell? ⟨b,off+k,none⟩=some (.int .u32 (lim l k:Int)):=by
 obtain ⟨b,off,rfl,hb,hn,hc⟩:=h.sl.at (by omega);exact⟨b,off,rfl,hb,hn,by simpa using hc k 0 hk (by omega)⟩
end
section
variable {w:World} {a2 a:Option Addr} {l2 l:List Nat} {M:Nat→Prop} {n:Nat}
theorem of_cells (w:World) (n:Nat) (hn:n<18446744073709551616) :
  aR Nil (w.alloc (.cells #[.int .u32 ((n:Int) % 4294967296),.int .u32 ((n:Int) / 4294967296 % 4294967296)] 112)) (some ⟨w.heap.size,0,none⟩) 2 2 [n % Bs,n / Bs]:=by
 have e1:((n:Int) % 4294967296)=((n % Bs:Nat):Int):=by rw [cL];omega
 have e2:((n:Int) / 4294967296 % 4294967296)=((n / Bs:Nat):Int):=by rw [cL];omega
 rw [e1,e2];exact aR.ofRow (E:=112) (l:=[n % Bs,n / Bs]) aC.alloc (by
  intro x hx;simp only [mZ1,hZ2,or_false] at hx;rcases hx with rfl|rfl
  ·exact Nat.mod_lt _ Bs_pos
  ·rw [cL];omega) (fun h=>h.elim) (by simp)
theorem of_any (hM:MB M w) (hn:n<18446744073709551616) :
  Calls prog 93 #[.int .u64 (n:Int)] w fun e w'=>∃a' c',e=.returned (.slice a' (nlen n) c')∧aR M w' a' (nlen n) c' (bD n)∧aA Nil w w':=by
 have HC:=jJ (of_cells w n hn);have hs:Small [n % Bs,n / Bs]:=HC.o.lt;have hv:nval [n % Bs,n / Bs]=n:=by simp only [nval,Nat.mul_zero,Nat.add_zero];exact Nat.mod_add_div n Bs
 have HS:=jJ (aI hs hv);have HM:=jJ hM;clear hs hv hM hn;go_enter func93,ntmps93
 go_wp2_with (go_at_call 133;refine (own_any (M:=M) (HM.o.keep (M':=Nil) kOf) HC.o (by decide)).mono ?_;rintro e w' ⟨a',c',rfl,h',hk'⟩)
 go_ret
 rw [trim_eq HS.o.1,top_eq HS.o.1,HS.o.2] at h';rw [top_eq HS.o.1,HS.o.2];exact⟨_,_,rfl,h',((aA.refl Nil w).alloc _).trans hk'⟩
theorem cmp_lay {c n2 c2:Nat} (h:aR Nil w a n c l) (h2:aR Nil w a2 n2 c2 l2) :
  Calls prog 105 #[.slice a n c,.slice a2 n2 c2] w fun e w'=>e=.returned (.int .i64 (cmpN (nval l) (nval l2)))∧Lays w w':=by
 have hb:=jJ h.bare;have hb2:=jJ h2.bare;have HH:=jJ h;have HH2:=jJ h2;have hv:=jJ (aI (cQ l) (cQ l2));have hB:=jJ (aI (bare_trim l) (bare_trim l2));have hcap:=hb.out.sl.cap;have hcap2:=hb2.out.sl.cap;have hlen:=jJ (aI hb.out.len hb2.out.len);clear h h2;by_cases hl:top l=top l2
 ·go_enter func105,ntmps105
  go_wp2_with (first|(go_at_call_of 136 (Value.slice a n c);refine (dJ HH.o).mono ?_;rintro e w' ⟨rfl,rfl⟩)|(go_at_call_of 136 (Value.slice a2 n2 c2);refine (dJ HH2.o).mono ?_;rintro e w' ⟨rfl,rfl⟩))
  go_loopw [5] (fun i wr=>∃k:Nat,k≤top l2∧i=.int .i64 ((k:Int)-1)∧cmpN (nval l) (nval l2)=cmpN (nval ((trim l).take k)) (nval ((trim l2).take k))∧Lays w wr) (fun i _=>(intOf i+1).toNat)
  case atStart=>exact⟨top l2,bZ2 _,by go_num,by rw [←hv.out.1,←hv.out.2,eZ1 (by rw [hlen.out.1];omega),eZ1 (by rw [hlen.out.2];omega)],(by repeat (first|exact Lays.refl _|refine Lays.drew ?_|refine Lays.drewN ?_ _|refine Lays.alloc ?_ _))⟩
  case round=>
   obtain ⟨k,hk,rfl,hc,hkk⟩:=hrel;cases k with
   | zero=>
    have HC:=jJ hc;clear hc;rw [show (((0:Nat):Int)-1)=-1 from rfl];go_wp2_with fail
    go_ret
    exact⟨by rw [HC.o];simp [nval,cmpN],hkk⟩
   | succ k=>
    obtain ⟨b,off,rfl,hb1,_,p0⟩:=(hb.out.keepNil hkk.1).cell (k:=k) (by omega);obtain ⟨b2,off2,rfl,hb3,_,p1⟩:=(hb2.out.keepNil hkk.1).cell (k:=k) (by omega);rw [cmpN_step _ _ hb.out.lt hb2.out.lt] at hc;rw [show (((k+1:Nat):Int)-1)=(k:Int) by omega];have HC:=jJ hc;have HK:=jJ hkk;clear hc hkk;by_cases h1:lim (trim l) k<lim (trim l2) k
    ·have e1:=HC.o;rw [if_pos h1] at e1;have HE:=jJ e1;clear e1;go_wp2_with fail
     go_quiet (fail)
     go_wp2_with fail
     go_ret
     exact⟨by rw [HE.o];rfl,HK.o.trans (by repeat (first|exact Lays.refl _|refine Lays.drew ?_|refine Lays.drewN ?_ _|refine Lays.alloc ?_ _))⟩
    ·by_cases h2:lim (trim l2) k<lim (trim l) k
     ·have e1:=HC.o;rw [if_neg h1,if_pos h2] at e1;have HE:=jJ e1;clear e1;go_wp2_with fail
      go_quiet (fail)
      go_wp2_with fail
      go_quiet (fail)
      go_wp2_with fail
      go_ret
      exact⟨by rw [HE.o];rfl,HK.o.trans (by repeat (first|exact Lays.refl _|refine Lays.drew ?_|refine Lays.drewN ?_ _|refine Lays.alloc ?_ _))⟩
     ·have e1:=HC.o;rw [if_neg h1,if_neg h2] at e1;have HE:=jJ e1;clear e1;go_wp2_with fail
      go_quiet (fail)
      go_wp2_with fail
      go_quiet (fail)
      go_wp2_with fail
      go_roundw
      case rel=>exact⟨k,by omega,by go_num,HE.o,HK.o.trans (by repeat (first|exact Lays.refl _|refine Lays.drew ?_|refine Lays.drewN ?_ _|refine Lays.alloc ?_ _))⟩
      case measure=>simp [intOf]
 ·by_cases hlt:top l<top l2
  ·have e:cmpN (nval l) (nval l2)=-1:=by
    rw [←hv.out.1,←hv.out.2];exact cmpN_lt (nval_lt_of_len hb.out.lt hB.out.2 (by rw [hlen.out.1,hlen.out.2];exact hlt))
   have HE:=jJ e;have hne:((top l:Int) != (top l2:Int))=true:=by simp;omega
   clear e;go_enter func105,ntmps105
   go_wp2_with (first|(go_at_call_of 136 (Value.slice a n c);refine (dJ HH.o).mono ?_;rintro e w' ⟨rfl,rfl⟩)|(go_at_call_of 136 (Value.slice a2 n2 c2);refine (dJ HH2.o).mono ?_;rintro e w' ⟨rfl,rfl⟩))
   go_ret
   exact⟨by rw [HE.o];rfl,Lays.refl _⟩
  ·have e:cmpN (nval l) (nval l2)=1:=by
    rw [←hv.out.1,←hv.out.2];exact cmpN_gt (nval_lt_of_len hb2.out.lt hB.out.1 (by rw [hlen.out.1,hlen.out.2];omega))
   have HE:=jJ e;have hne:((top l:Int) != (top l2:Int))=true:=by simp;omega
   clear e;go_enter func105,ntmps105
   go_wp2_with (first|(go_at_call_of 136 (Value.slice a n c);refine (dJ HH.o).mono ?_;rintro e w' ⟨rfl,rfl⟩)|(go_at_call_of 136 (Value.slice a2 n2 c2);refine (dJ HH2.o).mono ?_;rintro e w' ⟨rfl,rfl⟩))
   go_ret
   exact⟨by rw [HE.o];rfl,Lays.refl _⟩
theorem cmp_any {c n2 c2:Nat} (h:aR Nil w a n c l) (h2:aR Nil w a2 n2 c2 l2) :
  Calls prog 105 #[.slice a n c,.slice a2 n2 c2] w fun e w'=>e=.returned (.int .i64 (cmpN (nval l) (nval l2)))∧aA Nil w w':=
 (cmp_lay h h2).mono fun _ _ ⟨he,hl⟩=>⟨he,hl.1⟩
end
theorem wrap_u32' (n:Int):IntKind.u32.wrap n=n % 4294967296:=by simp [IntKind.wrap,IntKind.bits,IntKind.signed]
theorem bv32 (a:Nat) (ha:a<4294967296):(BitVec.ofInt 32 (a:Int)).toNat=a:=by
 rw [BitVec.ofInt_natCast,BitVec.toNat_ofNat];exact Nat.mod_eq_of_lt (by omega)
theorem bits_xor_u32' (a b:Nat) (ha:a<4294967296) (hb:b<4294967296):bits .xor .u32 (a:Int) (b:Int)=((a ^^^ b:Nat):Int):=by
 have hx:a ^^^ b<2 ^ 32:=Nat.xor_lt_two_pow (by omega) (by omega);show IntKind.u32.wrap ((BitVec.ofInt 32 (a:Int) ^^^ BitVec.ofInt 32 (b:Int)).toNat:Int)=_
 rw [BitVec.toNat_xor,bv32 a ha,bv32 b hb,wrap_u32'];omega
theorem bits_and_u32' (a b:Nat) (ha:a<4294967296) (hb:b<4294967296):bits .and .u32 (a:Int) (b:Int)=((a &&& b:Nat):Int):=by
 have hx:a &&& b<2 ^ 32:=Nat.and_lt_two_pow _ (by omega);show IntKind.u32.wrap ((BitVec.ofInt 32 (a:Int) &&& BitVec.ofInt 32 (b:Int)).toNat:Int)=_
 rw [BitVec.toNat_and,bv32 a ha,bv32 b hb,wrap_u32'];omega
theorem bits_or_u32' (a b:Nat) (ha:a<4294967296) (hb:b<4294967296):bits .or .u32 (a:Int) (b:Int)=((a ||| b:Nat):Int):=by
 have hx:a ||| b<2 ^ 32:=Nat.or_lt_two_pow (by omega) (by omega);show IntKind.u32.wrap ((BitVec.ofInt 32 (a:Int) ||| BitVec.ofInt 32 (b:Int)).toNat:Int)=_
 rw [BitVec.toNat_or,bv32 a ha,bv32 b hb,wrap_u32'];omega
theorem lent (x y b:Nat) (hx:x<4294967296) (hy:y<4294967296) (hb:b≤1) :
  bits .or .u32 (bits .and .u32 (bits .xor .u32 IntKind.u32.max (x:Int)) (y:Int)) (bits .and .u32 (bits .xor .u32 IntKind.u32.max (bits .xor .u32 (x:Int) (y:Int))) (((x:Int)-y-b) % 4294967296)) / 2147483648
   = ((1-(x+4294967296-y-b) / 4294967296:Nat):Int):=by
 have hm:IntKind.u32.max=((4294967295:Nat):Int):=by decide
 have hd:(((x:Int)-y-b) % 4294967296)=(((x+4294967296-y-b) % 4294967296:Nat):Int):=by omega
 have hdl:(x+4294967296-y-b) % 4294967296<4294967296:=Nat.mod_lt _ (by decide);rw [hm,hd];generalize hD:(x+4294967296-y-b) % 4294967296=d at *
 have l1:4294967295 ^^^ x<4294967296:=Nat.xor_lt_two_pow (n:=32) (by omega) (by omega);have l2:x ^^^ y<4294967296:=Nat.xor_lt_two_pow (n:=32) (by omega) (by omega);have l3:4294967295 ^^^ (x ^^^ y)<4294967296:=Nat.xor_lt_two_pow (n:=32) (by omega) (by omega);have l4:(4294967295 ^^^ x) &&& y<4294967296:=Nat.and_lt_two_pow (n:=32) _ (by omega);have l5:(4294967295 ^^^ (x ^^^ y)) &&& d<4294967296:=Nat.and_lt_two_pow (n:=32) _ (by omega);rw [bits_xor_u32' _ _ (by decide) hx,bits_xor_u32' _ _ hx hy,bits_xor_u32' _ _ (by decide) l2,bits_and_u32' _ _ l1 hy,bits_and_u32' _ _ l3 hdl,bits_or_u32' _ _ l4 l5];have e:((4294967295 ^^^ x) &&& y ||| (4294967295 ^^^ (x ^^^ y)) &&& d) / 2147483648=((1 ^^^ (x / 2147483648)) &&& (y / 2147483648)) ||| ((1 ^^^ ((x / 2147483648) ^^^ (y / 2147483648))) &&& (d / 2147483648)):=by
  have s:∀n:Nat,n / 2147483648=n >>> 31:=fun n=>by rw [Nat.shiftRight_eq_div_pow]
  simp only [s,Nat.shiftRight_or_distrib,Nat.shiftRight_and_distrib,Nat.shiftRight_xor_distrib,show 4294967295 >>> 31=1 by decide]
 have hX:x / 2147483648=0∨x / 2147483648=1:=by omega
 have hY:y / 2147483648=0∨y / 2147483648=1:=by omega
 have hDD:d / 2147483648=0∨d / 2147483648=1:=by omega
 have e2:((4294967295 ^^^ x) &&& y ||| (4294967295 ^^^ (x ^^^ y)) &&& d) / 2147483648=1-(x+4294967296-y-b) / 4294967296:=by
  rw [e];rcases hX with hX|hX<;>rcases hY with hY|hY<;>rcases hDD with hZ|hZ<;>rw [hX,hY,hZ]<;>simp<;>omega
 omega
theorem sub32_any (x y b:Nat) (hx:x<4294967296) (hy:y<4294967296) (hb:b≤1) (w:World) :
  Calls prog 187 #[.int .u32 (x:Int),.int .u32 (y:Int),.int .u32 (b:Int)] w fun e w'=>e=.returned (.tuple #[.int .u32 (((x+4294967296-y-b) % 4294967296:Nat):Int),.int .u32 ((1-(x+4294967296-y-b) / 4294967296:Nat):Int)])∧w=w':=by
 have HL:=jJ (lent x y b hx hy hb);have HD:(((x:Int)-y-b) % 4294967296)=(((x+4294967296-y-b) % 4294967296:Nat):Int):=by omega
 have HD':=jJ HD;clear HD hx hy hb;go_enter func187,ntmps187
 go_wp2_with fail
 go_ret2
 have e:∀u v u' v':Int,u=u'→v=v'→Ending.returned (.tuple #[.int .u32 u,.int .u32 v])=Ending.returned (.tuple #[.int .u32 u',.int .u32 v']):=by rintro u v u' v' rfl rfl;rfl
 exact⟨e _ _ _ _ HD'.o HL.o,rfl⟩
theorem fill_next (o:List Nat) (m x:Nat) (z:Value):(u32s o++zeros (m+1) z).set o.length (u32 x)=u32s (o++[x])++zeros m z:=by
 rw [List.set_append_right _ _ (by simp [u32s]),dL,Nat.sub_self];simp [zeros,List.replicate_succ,u32s]
theorem row_next {w:World} {g:Nat} {E:TypeId} {o:List Nat} {k m m0 x:Nat} {v:Value} (h:aC w g E (u32s o++zeros m0 (.int .u32 0))) (hk:o.length=k) (hm:m0=m+1) (hv:v=u32 x) :
  aC (w.setCell ⟨g,k,none⟩ v) g E (u32s (o++[x])++zeros m (.int .u32 0)):=by
 subst hm hk hv;rw [←fill_next];exact h.set _ _
theorem add_any {M:Nat→Prop} {a a2:Option Addr} {n c n2 c2:Nat} {l l2:List Nat} {w:World} (hM:MB M w) (h:aR Nil w a n c l) (h2:aR Nil w a2 n2 c2 l2)
  (hr:n*4+4≤140737488355328) (hr2:n2*4+4≤140737488355328) :
  Calls prog 123 #[.slice a n c,.slice a2 n2 c2] w fun e w'=>∃a' c',e=.returned (.slice a' (nlen (nval l+nval l2)) c')∧aR M w' a' (nlen (nval l+nval l2)) c' (bD (nval l+nval l2))∧aA Nil w w':=by
 obtain ⟨i0,hi,hz0,hz1,hz2⟩:=info_parts info_u32;have HH:=jJ h;have HH2:=jJ h2;have HM:=jJ hM;have htn:top l≤n:=by rw [←h.len];exact top_le l
 have htn2:top l2≤n2:=by rw [←h2.len];exact top_le l2
 have HT:=jJ (aI htn htn2);have hb:=h.bare;have hb2:=h2.bare;have hv:=cQ l;have hv2:=cQ l2;have tl:top l≤35184372088831:=by omega
 have tl2:top l2≤35184372088831:=by omega
 clear htn htn2 hr hr2;by_cases hlt:top l<top l2
 ·have HA:=jJ hb2;have HB:=jJ hb;have hV:nval (trim l2)+nval (trim l)=nval l+nval l2:=by omega
  have HV:=jJ hV;clear h h2 hb hb2 hv hv2 hM hV;go_enter func123,ntmps123
  go_wp2_with (first|(go_at_call_of 136 (Value.slice a n c);refine (dJ HH.o).mono ?_;rintro e w' ⟨rfl,rfl⟩)|(go_at_call_of 136 (Value.slice a2 n2 c2);refine (dJ HH2.o).mono ?_;rintro e w' ⟨rfl,rfl⟩)|(at_make;refine wpList_make_row _ rfl _ _ 23 rfl 112 i0 (.int .u32 0) underlying23 hi hz0 hz1 rfl .i64 .i64 _ _ (top l2+1) rfl rfl (by omega) (by omega) (by rw [hz2];omega) (by omega) ?_;intro w1 hrow hk1 hsz1;have HR:=jJ (aI3 hrow hk1 hsz1);clear hrow hk1 hsz1))
  go_loopw [6,26] (fun s i wr=>∃k:Nat,k≤top l2∧i=.int .i64 k∧s=.int .u64 ((addK (trim l2) (trim l) k).2:Int)∧aC wr w.heap.size 112 (u32s (addK (trim l2) (trim l) k).1++zeros (top l2+1-k) (.int .u32 0))∧aA Nil w wr) (fun _ i _=>top l2-(intOf i).toNat)
  case atStart=>exact⟨0,aZ2 _,rfl,rfl,HR.o.1,HR.o.2.1⟩
  case round=>
   obtain ⟨k,hk,rfl,rfl,hrow,hkk⟩:=hrel;obtain ⟨q1,q2,q3,q4⟩:=addK_spec HA.o.lt HB.o.lt k;have hg:=hrow.lt;by_cases hlk:k<top l2
   ·obtain ⟨b,off,hbe,hb0,_,p0⟩:=(HA.o.keepNil hkk).cell hlk;have la:=HA.o.lim_lt k;have hlen:(u32s (addK (trim l2) (trim l) k).1++zeros (top l2+1-k) (.int .u32 0)).length=top l2+1:=by simp [u32s,zeros,q1];omega
    have c0:=hrow.cell k;have f0:=hrow.frozen k;rw [List.getElem?_append_right (by simp [u32s,q1]),dL,q1,Nat.sub_self,show top l2+1-k=top l2-k+1 by omega] at c0;rw [show zeros (top l2-k+1) (.int .u32 0)=.int .u32 0::zeros (top l2-k) (.int .u32 0) from rfl] at c0;have c1:wr.cell? ⟨w.heap.size,k,none⟩=some (.int .u32 0):=by simpa using c0
    clear c0;subst hbe;have e1:(addK (trim l2) (trim l) (k+1)).2=((addK (trim l2) (trim l) k).2+lim (trim l2) k+lim (trim l) k) / Bs:=rfl;have e2:(addK (trim l2) (trim l) (k+1)).1=(addK (trim l2) (trim l) k).1++[((addK (trim l2) (trim l) k).2+lim (trim l2) k+lim (trim l) k) % Bs]:=rfl;have HE:=jJ (aI e1 e2);have HROW:=jJ hrow;have HK:=jJ hkk;have HQ:=jJ (aI3 q1 q2 q4);clear e1 e2 hrow hkk q1 q2 q4;by_cases hyk:k<top l
    ·obtain ⟨b2,off2,hbe2,hb2,_,p1⟩:=(HB.o.keepNil HK.o).cell hyk;have lb:=HB.o.lim_lt k;subst hbe2;generalize hcc:(addK (trim l2) (trim l) k).2=cc at *
     generalize hla:lim (trim l2) k=x at *
     generalize hlb:lim (trim l) k=y at *
     have HG:=jJ (aI3 hcc hla hlb);clear hcc hla hlb;go_wp2_with fail
     go_roundw
     case rel=>exact⟨k+1,by omega,by go_num,congrArg (Value.int .u64) (by rw [HE.o.1,cL];omega),by rw [HE.o.2];exact row_next HROW.o HQ.o.1 (by omega) (congrArg (Value.int .u32) (by rw [cL];omega)),HK.o.setCell (p:=⟨w.heap.size,k,none⟩) (.inr (bZ2 _)) _⟩
     case measure=>simp [intOf];omega
    ·have hz:=lim_ge (l:=trim l) (i:=k) (by rw [HB.o.len];omega);generalize hcc:(addK (trim l2) (trim l) k).2=cc at *
     generalize hla:lim (trim l2) k=x at *
     have HG:=jJ (aI3 hcc hla hz);clear hcc hla hz;go_wp2_with fail
     go_roundw
     case rel=>exact⟨k+1,by omega,by go_num,congrArg (Value.int .u64) (by rw [HE.o.1,HG.o.2.2,cL];omega),by rw [HE.o.2,HG.o.2.2];exact row_next HROW.o HQ.o.1 (by omega) (congrArg (Value.int .u32) (by rw [cL];omega)),HK.o.setCell (p:=⟨w.heap.size,k,none⟩) (.inr (bZ2 _)) _⟩
     case measure=>simp [intOf];omega
   ·obtain rfl:k=top l2:=by omega
    have hlen:(u32s (addK (trim l2) (trim l) (top l2)).1++zeros (top l2+1-top l2) (.int .u32 0)).length=top l2+1:=by simp [u32s,zeros,q1]
    have c0:=hrow.cell (top l2);have f0:=hrow.frozen (top l2);rw [List.getElem?_append_right (by simp [u32s,q1]),dL,q1,Nat.sub_self,show top l2+1-top l2=1 by omega] at c0;have c1:wr.cell? ⟨w.heap.size,top l2,none⟩=some (.int .u32 0):=by simpa [zeros] using c0
    clear c0;rw [eZ1 (by rw [HA.o.len];exact bZ2 _),eZ1 (by rw [HB.o.len];omega),HV.o] at q4;generalize hcc:(addK (trim l2) (trim l) (top l2)).2=cc at *
    generalize hoo:(addK (trim l2) (trim l) (top l2)).1=o at *
    have hrow2:=row_next (x:=cc) (m:=0) (v:=.int .u32 (cc:Int)) hrow q1 (by omega) rfl;rw [show zeros 0 (Value.int .u32 0)=[] from rfl,fZ2] at hrow2;have hL:=aR.ofRow hrow2 (small_snoc q2 (by omega)) (M:=Nil) (fun h=>h.elim) (by simp [q1];omega);rw [aZ1,List.length_singleton,q1] at hL;have hval:nval (o++[cc])=nval l+nval l2:=by rw [nval_snoc,q1];exact q4
    have hk2:aA Nil w (wr.setCell ⟨w.heap.size,top l2,none⟩ (.int .u32 (cc:Int))):=hkk.setCell (p:=⟨w.heap.size,top l2,none⟩) (.inr (bZ2 _)) _;have HX:=jJ (aI3 hL hval hk2);have hcm:(cc:Int) % 4294967296=cc:=by omega
    clear hL hval hk2 hrow2 hrow hkk q1 q2 q4 hcc hoo hlen;go_wp2_with (go_at_call 133;refine (own_any (M:=M) (HM.o.keep HX.o.2.2) HX.o.1 (by omega)).mono ?_;rintro e w' ⟨a',c',rfl,h',hk'⟩)
    go_ret
    rw [trim_eq HX.o.1.lt,top_eq HX.o.1.lt,HX.o.2.1] at h';rw [top_eq HX.o.1.lt,HX.o.2.1];exact⟨_,_,rfl,h',HX.o.2.2.trans hk'⟩
 ·have HA:=jJ hb;have HB:=jJ hb2;have hV:nval (trim l)+nval (trim l2)=nval l+nval l2:=by omega
  have HV:=jJ hV;clear h h2 hb hb2 hv hv2 hM hV;go_enter func123,ntmps123
  go_wp2_with (first|(go_at_call_of 136 (Value.slice a n c);refine (dJ HH.o).mono ?_;rintro e w' ⟨rfl,rfl⟩)|(go_at_call_of 136 (Value.slice a2 n2 c2);refine (dJ HH2.o).mono ?_;rintro e w' ⟨rfl,rfl⟩)|(at_make;refine wpList_make_row _ rfl _ _ 23 rfl 112 i0 (.int .u32 0) underlying23 hi hz0 hz1 rfl .i64 .i64 _ _ (top l+1) rfl rfl (by omega) (by omega) (by rw [hz2];omega) (by omega) ?_;intro w1 hrow hk1 hsz1;have HR:=jJ (aI3 hrow hk1 hsz1);clear hrow hk1 hsz1))
  go_loopw [6,26] (fun s i wr=>∃k:Nat,k≤top l∧i=.int .i64 k∧s=.int .u64 ((addK (trim l) (trim l2) k).2:Int)∧aC wr w.heap.size 112 (u32s (addK (trim l) (trim l2) k).1++zeros (top l+1-k) (.int .u32 0))∧aA Nil w wr) (fun _ i _=>top l-(intOf i).toNat)
  case atStart=>exact⟨0,aZ2 _,rfl,rfl,HR.o.1,HR.o.2.1⟩
  case round=>
   obtain ⟨k,hk,rfl,rfl,hrow,hkk⟩:=hrel;obtain ⟨q1,q2,q3,q4⟩:=addK_spec HA.o.lt HB.o.lt k;have hg:=hrow.lt;by_cases hlk:k<top l
   ·obtain ⟨b,off,hbe,hb0,_,p0⟩:=(HA.o.keepNil hkk).cell hlk;have la:=HA.o.lim_lt k;have hlen:(u32s (addK (trim l) (trim l2) k).1++zeros (top l+1-k) (.int .u32 0)).length=top l+1:=by simp [u32s,zeros,q1];omega
    have c0:=hrow.cell k;have f0:=hrow.frozen k;rw [List.getElem?_append_right (by simp [u32s,q1]),dL,q1,Nat.sub_self,show top l+1-k=top l-k+1 by omega] at c0;rw [show zeros (top l-k+1) (.int .u32 0)=.int .u32 0::zeros (top l-k) (.int .u32 0) from rfl] at c0;have c1:wr.cell? ⟨w.heap.size,k,none⟩=some (.int .u32 0):=by simpa using c0
    clear c0;subst hbe;have e1:(addK (trim l) (trim l2) (k+1)).2=((addK (trim l) (trim l2) k).2+lim (trim l) k+lim (trim l2) k) / Bs:=rfl;have e2:(addK (trim l) (trim l2) (k+1)).1=(addK (trim l) (trim l2) k).1++[((addK (trim l) (trim l2) k).2+lim (trim l) k+lim (trim l2) k) % Bs]:=rfl;have HE:=jJ (aI e1 e2);have HROW:=jJ hrow;have HK:=jJ hkk;have HQ:=jJ (aI3 q1 q2 q4);clear e1 e2 hrow hkk q1 q2 q4;by_cases hyk:k<top l2
    ·obtain ⟨b2,off2,hbe2,hb2,_,p1⟩:=(HB.o.keepNil HK.o).cell hyk;have lb:=HB.o.lim_lt k;subst hbe2;generalize hcc:(addK (trim l) (trim l2) k).2=cc at *
     generalize hla:lim (trim l) k=x at *
     generalize hlb:lim (trim l2) k=y at *
     have HG:=jJ (aI3 hcc hla hlb);clear hcc hla hlb;go_wp2_with fail
     go_roundw
     case rel=>exact⟨k+1,by omega,by go_num,congrArg (Value.int .u64) (by rw [HE.o.1,cL];omega),by rw [HE.o.2];exact row_next HROW.o HQ.o.1 (by omega) (congrArg (Value.int .u32) (by rw [cL];omega)),HK.o.setCell (p:=⟨w.heap.size,k,none⟩) (.inr (bZ2 _)) _⟩
     case measure=>simp [intOf];omega
    ·have hz:=lim_ge (l:=trim l2) (i:=k) (by rw [HB.o.len];omega);generalize hcc:(addK (trim l) (trim l2) k).2=cc at *
     generalize hla:lim (trim l) k=x at *
     have HG:=jJ (aI3 hcc hla hz);clear hcc hla hz;go_wp2_with fail
     go_roundw
     case rel=>exact⟨k+1,by omega,by go_num,congrArg (Value.int .u64) (by rw [HE.o.1,HG.o.2.2,cL];omega),by rw [HE.o.2,HG.o.2.2];exact row_next HROW.o HQ.o.1 (by omega) (congrArg (Value.int .u32) (by rw [cL];omega)),HK.o.setCell (p:=⟨w.heap.size,k,none⟩) (.inr (bZ2 _)) _⟩
     case measure=>simp [intOf];omega
   ·obtain rfl:k=top l:=by omega
    have hlen:(u32s (addK (trim l) (trim l2) (top l)).1++zeros (top l+1-top l) (.int .u32 0)).length=top l+1:=by simp [u32s,zeros,q1]
    have c0:=hrow.cell (top l);have f0:=hrow.frozen (top l);rw [List.getElem?_append_right (by simp [u32s,q1]),dL,q1,Nat.sub_self,show top l+1-top l=1 by omega] at c0;have c1:wr.cell? ⟨w.heap.size,top l,none⟩=some (.int .u32 0):=by simpa [zeros] using c0
    clear c0;rw [eZ1 (by rw [HA.o.len];exact bZ2 _),eZ1 (by rw [HB.o.len];omega),HV.o] at q4;generalize hcc:(addK (trim l) (trim l2) (top l)).2=cc at *
    generalize hoo:(addK (trim l) (trim l2) (top l)).1=o at *
    have hrow2:=row_next (x:=cc) (m:=0) (v:=.int .u32 (cc:Int)) hrow q1 (by omega) rfl;rw [show zeros 0 (Value.int .u32 0)=[] from rfl,fZ2] at hrow2;have hL:=aR.ofRow hrow2 (small_snoc q2 (by omega)) (M:=Nil) (fun h=>h.elim) (by simp [q1];omega);rw [aZ1,List.length_singleton,q1] at hL;have hval:nval (o++[cc])=nval l+nval l2:=by rw [nval_snoc,q1];exact q4
    have hk2:aA Nil w (wr.setCell ⟨w.heap.size,top l,none⟩ (.int .u32 (cc:Int))):=hkk.setCell (p:=⟨w.heap.size,top l,none⟩) (.inr (bZ2 _)) _;have HX:=jJ (aI3 hL hval hk2);have hcm:(cc:Int) % 4294967296=cc:=by omega
    clear hL hval hk2 hrow2 hrow hkk q1 q2 q4 hcc hoo hlen;go_wp2_with (go_at_call 133;refine (own_any (M:=M) (HM.o.keep HX.o.2.2) HX.o.1 (by omega)).mono ?_;rintro e w' ⟨a',c',rfl,h',hk'⟩)
    go_ret
    rw [trim_eq HX.o.1.lt,top_eq HX.o.1.lt,HX.o.2.1] at h';rw [top_eq HX.o.1.lt,HX.o.2.1];exact⟨_,_,rfl,h',HX.o.2.2.trans hk'⟩
theorem row_over {w:World} {g:Nat} {E:TypeId} {o t:List Nat} {k x y:Nat} {rest:List Value} {v:Value} (h:aC w g E (u32s o++(u32s (y::t)++rest))) (hk:o.length=k) (hv:v=u32 x) :
  aC (w.setCell ⟨g,k,none⟩ v) g E (u32s (o++[x])++(u32s t++rest)):=by
 subst hk hv;have:=h.set o.length (u32 x);rw [List.set_append_right _ _ (by simp [u32s]),dL,Nat.sub_self] at this;simpa [u32s] using this
theorem aR.owned' {w:World} {base:Nat} {E:TypeId} {a:Option Addr} {n c:Nat} {l:List Nat} (h:w.ownsRow base E 1 (.slice a n c) n (u32s l)) (hl:∀x∈l,x<4294967296) {M:Nat→Prop} (hM:∀b,M b→b<base):aR M w a n c l:=by
 obtain ⟨a',c',e,hL⟩:=aR.owned (l:=l) h hl hM;cases e;exact hL
theorem sub_val {l l2:List Nat} (hs:Small l) (hs2:Small l2) (hle:nval l2≤nval l):nval (subK (trim l) (trim l2) (top l)).1=nval l-nval l2:=by
 have h:=(subK_all (a:=trim l) (b:=trim l2) hs.trim hs2.trim (by rw [cY,cY,top_eq hs,top_eq hs2];exact nlen_mono hle) (by rw [cQ,cQ];exact hle)).2;rwa [cY,cQ,cQ] at h
section
variable {a2 a:Option Addr} {w:World} {l l2:List Nat} {M:Nat→Prop} {n2 c2 n c:Nat} {rest:List Value}
theorem take_nil :
  Calls prog 175 #[.slice none 0 0,.slice a2 n2 c2] w fun e w'=>e=.returned (.tuple #[])∧w=w':=by
 go_enter func175,ntmps175
 go_wp2
 go_loop [9] (fun s=>s=.int .i64 0) (fun _=>0)
 case atStart=>rfl
 case round=>
  subst hrel;go_wp2
  go_end0
  exact⟨rfl,rfl⟩
theorem take_some {g:Nat} (h:aC w g 112 (u32s l++rest)) (hn:l.length=n) (hs:Small l) (hc:n≤9223372036854775807) (h2:aR (One g) w a2 n2 c2 l2) :
  Calls prog 175 #[.slice (some ⟨g,0,none⟩) n c,.slice a2 n2 c2] w fun e w'=>e=.returned (.tuple #[])∧aC w' g 112 (u32s (subK l l2 n).1++rest)∧aA (One g) w w':=by
 have HR:=jJ h;have HB:=jJ h2;have hc2:=h2.sl.cap;have hle2:=h2.sl.le;clear h h2;go_enter func175,ntmps175
 go_wp2
 go_loopw [4,9] (fun s i wr=>∃k:Nat,k≤n∧i=.int .i64 k∧s=.int .u32 ((subK l l2 k).2:Int)∧aC wr g 112 (u32s (subK l l2 k).1++(u32s (l.drop k)++rest))∧aA (One g) w wr) (fun _ i _=>n-(intOf i).toNat)
 case atStart=>exact⟨0,aZ2 _,rfl,rfl,HR.o,aA.refl _ _⟩
 case round=>
  obtain ⟨k,hk,rfl,rfl,hrow,hkk⟩:=hrel;obtain ⟨q1,q2,q3,q4⟩:=subK_spec hs HB.o.lt k;have hg:=hrow.lt;by_cases hlk:k<n
  ·have la:=bT hs k;have hdrop:l.drop k=lim l k::l.drop (k+1):=by rw [List.drop_eq_getElem_cons (by omega),lim_lt (by omega)]
   rw [hdrop] at hrow;have c0:=hrow.cell k;have f0:=hrow.frozen k;rw [List.getElem?_append_right (by simp [u32s,q1]),dL,q1,Nat.sub_self] at c0;have c1:wr.cell? ⟨g,k,none⟩=some (.int .u32 (lim l k:Int)):=by simpa [u32s,Go.Proofs.Q.u32] using c0
   clear c0;have e1:(subK l l2 (k+1)).2=1-(lim l k+Bs-lim l2 k-(subK l l2 k).2) / Bs:=rfl;have e2:(subK l l2 (k+1)).1=(subK l l2 k).1++[(lim l k+Bs-lim l2 k-(subK l l2 k).2) % Bs]:=rfl;rw [cL] at e1 e2;have HE:=jJ (aI e1 e2);have HROW:=jJ hrow;have HK:=jJ hkk;have HQ:=jJ (aI3 q1 q2 q4);have HS:=jJ hs;clear e1 e2 hrow hkk q1 q2 q4 hs hdrop;by_cases hyk:k<n2
   ·obtain ⟨b2,off2,hbe2,hb2,hng,p1⟩:=(HB.o.keep' HK.o).cell hyk;have lb:=HB.o.lim_lt k;subst hbe2;generalize hcc:(subK l l2 k).2=cc at *
    generalize hla:lim l k=x at *
    generalize hlb:lim l2 k=y at *
    have HG:=jJ (aI3 hcc hla hlb);clear hcc hla hlb;go_wp2_with (go_at_call 187;refine (sub32_any x y cc la lb q3 _).mono ?_;rintro e w' ⟨rfl,rfl⟩)
    go_roundw
    case rel=>exact⟨k+1,by omega,by go_num,congrArg (Value.int .u32) (by rw [HE.o.1]),by rw [HE.o.2];exact row_over HROW.o HQ.o.1 (congrArg (Value.int .u32) (by omega)),HK.o.setCell (p:=⟨g,k,none⟩) (.inl rfl) _⟩
    case measure=>simp [intOf];omega
   ·have hz:=lim_ge (l:=l2) (i:=k) (by rw [HB.o.len];omega);generalize hcc:(subK l l2 k).2=cc at *
    generalize hla:lim l k=x at *
    have HG:=jJ (aI3 hcc hla hz);clear hcc hla hz;go_wp2_with (go_at_call 187;refine (sub32_any x 0 cc la (by decide) q3 _).mono ?_;rintro e w' ⟨rfl,rfl⟩)
    go_roundw
    case rel=>exact⟨k+1,by omega,by go_num,congrArg (Value.int .u32) (by rw [HE.o.1,HG.o.2.2];rfl),by rw [HE.o.2,HG.o.2.2];exact row_over HROW.o HQ.o.1 (congrArg (Value.int .u32) (by omega)),HK.o.setCell (p:=⟨g,k,none⟩) (.inl rfl) _⟩
    case measure=>simp [intOf];omega
  ·obtain rfl:k=n:=by omega
   rw [List.drop_eq_nil_of_le (by omega)] at hrow;have HX:=jJ (aI hrow hkk);clear hrow hkk q1 q2 q4;go_wp2
   go_end0
   exact⟨rfl,HX.o.1,HX.o.2⟩
theorem take_own {base:Nat} (h:w.ownsRow base 112 1 (.slice a n c) n (u32s l)) (hs:Small l) (h2:aR (fun b=>base≤b) w a2 n2 c2 l2) :
  Calls prog 175 #[.slice a n c,.slice a2 n2 c2] w fun e w'=>e=.returned (.tuple #[])∧w'.ownsRow base 112 1 (.slice a n c) n (u32s (subK l l2 n).1)∧aA (fun b=>base≤b) w w':=by
 have hn:l.length=n:=by have:=h.1;simpa [u32s] using this
 have hq:=subK_spec hs h2.lt n;rcases h.2 with ⟨e,rfl⟩|⟨g,cap,cur,e,hb,hg,hnc,hcm,hcs,htake⟩
 ·cases e
  refine take_nil.mono ?_;rintro e w' ⟨rfl,rfl⟩;exact⟨rfl,⟨by simp [u32s,subK],.inl ⟨rfl,rfl⟩⟩,aA.refl _ _⟩
 ·cases e
  have hrow:aC w g 112 (u32s l++cur.toList.drop n):=by
   show w.heap[g]?=_
   rw [hg,←htake,Nat.mul_one,aZ3]
  refine (take_some hrow hn hs (by unfold maxLen at hcm;omega) (h2.turn (M':=One g) (fun b _ hb'=>by cases hb';exact hb))).mono ?_;rintro e w' ⟨rfl,hr,hk⟩;refine ⟨rfl,⟨by simp [u32s,hq.1],.inr ⟨g,c,_,rfl,hb,hr.out,hnc,hcm,?_,?_⟩⟩,hk.mono fun k hk'=>by cases hk';exact hb⟩
  ·have:cur.toList.length=c:=by simpa using hcs
   simp [u32s,hq.1];omega
  ·rw [Nat.mul_one];have:(u32s (subK l l2 n).1).length=n:=by simp [u32s,hq.1]
   simp [this]
theorem own_row' (h:aR M w a n c l) (hr:n*4≤140737488355328) :
  Calls prog 133 #[.slice a n c] w fun e w'=>∃a' c',e=.returned (.slice a' (top l) c')∧w'.ownsRow w.heap.size 112 1 (.slice a' (top l) c') (top l) (u32s (trim l))∧aA Nil w w':=by
 refine (own_row h hr).mono ?_;rintro e w' ⟨v,rfl,ho,hk⟩;rcases ho.2 with ⟨rfl,h0⟩|⟨g,cap,cur,rfl,_⟩
 ·exact⟨none,0,by rw [h0],by rw [h0] at ho⊢;exact ho,hk⟩
 ·exact⟨_,_,rfl,ho,hk⟩
theorem sub_any (hM:MB M w) (h:aR Nil w a n c l) (h2:aR Nil w a2 n2 c2 l2)
  (hr:n*4≤140737488355328) (hle:nval l2≤nval l) :
  Calls prog 124 #[.slice a n c,.slice a2 n2 c2] w fun e w'=>∃a' c',e=.returned (.tuple #[.slice a' (nlen (nval l-nval l2)) c',.int .i64 0])∧aR M w' a' (nlen (nval l-nval l2)) c' (bD (nval l-nval l2))∧aA Nil w w':=by
 have HH:=jJ h;have HH2:=jJ h2;have HM:=jJ hM;have hcm:¬cmpN (nval l) (nval l2)<0:=by
  unfold cmpN;rw [if_neg (by omega)];split<;>omega
 clear h h2 hM;go_enter func124,ntmps124
 go_wp2_with (first|(go_at_call 105;refine (cmp_any HH.o HH2.o).mono ?_;rintro e w1 ⟨rfl,hk1⟩;have HK1:=jJ hk1;clear hk1)|(go_at_call_of 133 (Value.slice a n c);refine (own_row' (HH.o.keepNil HK1.o) hr).mono ?_;rintro e w2 ⟨b2,d2,rfl,ho2,hk2⟩;have HK2:=jJ (aI ho2 hk2);clear ho2 hk2)|(go_at_call 136;refine (dJ ((HH2.o.keepNil HK1.o).keepNil HK2.o.2)).mono ?_;rintro e w' ⟨rfl,rfl⟩)|(go_at_call 175;refine (take_own HK2.o.1 HH.o.bare.lt (((HH2.o.keepNil HK1.o).bare.move (M2:=fun b=>w1.heap.size≤b) HK2.o.2 (fun _ _ h=>h.elim) (fun b hb hb'=>absurd hb (by omega))))).mono ?_;rintro e w3 ⟨rfl,ho3,hk3⟩;have HK3:=jJ (aI ho3 hk3);clear ho3 hk3)|(go_at_call_of 133 (Value.slice b2 (top l) d2);refine (own_any (M:=M) (((HM.o.keep HK1.o).keep HK2.o.2).keep HK3.o.2) (aR.owned' (M:=Nil) HK3.o.1 (subK_spec HH.o.bare.lt HH2.o.bare.lt (top l)).2.1 (fun b h=>h.elim)) (by have:=HH.o.bare.len;have:=HH.o.len;have:=top_le l;omega)).mono ?_;rintro e w4 ⟨a4,c4,rfl,h4,hk4⟩))
 go_ret2
 have hsm:Small (subK (trim l) (trim l2) (top l)).1:=(subK_spec HH.o.bare.lt HH2.o.bare.lt (top l)).2.1;rw [trim_eq hsm,top_eq hsm,sub_val HH.o.lt HH2.o.lt hle] at h4;rw [top_eq hsm,sub_val HH.o.lt HH2.o.lt hle];exact⟨_,_,rfl,h4,((HK1.o.trans HK2.o.2).trans' HK3.o.2 (fun k hk=>.inr (by have:=HK1.o.size;omega))).trans hk4⟩
end
theorem beside (r x:Nat) (hr:r<4294967296) (hx:x<4294967296):bits .or .u64 ((r:Int)*4294967296) (x:Int)=((r*4294967296+x:Nat):Int):=by
 have e:((r:Int)*4294967296)=((r*4294967296:Nat):Int):=by omega
 rw [e,bits_or_u64_nat _ _ (by omega) (by omega)];congr 1;have:=Nat.shiftLeft_add_eq_or_of_lt (i:=32) (b:=x) (by omega) r;rw [Nat.shiftLeft_eq] at this;exact this.symm
theorem quo_fit (r x d:Nat) (hr:r<d) (hx:x<4294967296):(((r:Int)*4294967296+x) / d % 4294967296)=(((r*4294967296+x) / d:Nat):Int):=by
 have e:((r:Int)*4294967296+x)=((r*4294967296+x:Nat):Int):=by omega
 have h:(r*4294967296+x) / d<4294967296:=by
  rw [Nat.div_lt_iff_lt_mul (by omega)];have:(r+1)*4294967296≤d*4294967296:=Nat.mul_le_mul_right _ hr;rw [Nat.mul_comm 4294967296 d];omega
 rw [e,←Int.natCast_ediv];exact Int.emod_eq_of_lt (Int.natCast_nonneg _) (Int.ofNat_lt.2 h)
theorem rem_fit (r x d:Nat):(((r:Int)*4294967296+x) % d)=(((r*4294967296+x) % d:Nat):Int):=by
 have e:((r:Int)*4294967296+x)=((r*4294967296+x:Nat):Int):=by omega
 rw [e,←Int.natCast_emod]
theorem row_back {w:World} {g:Nat} {E:TypeId} {k x:Nat} {rest:List Value} {v:Value} (h:aC w g E (zeros (k+1) (.int .u32 0)++rest)) (hv:v=u32 x) :
  aC (w.setCell ⟨g,k,none⟩ v) g E (zeros k (.int .u32 0)++(u32 x::rest)):=by
 subst hv;have:=h.set k (u32 x);rw [show zeros (k+1) (Value.int .u32 0)=zeros k (.int .u32 0)++[.int .u32 0] from List.replicate_succ',mZ2,List.set_append_right _ _ (by simp [zeros]),length_zeros,Nat.sub_self] at this;simpa using this
theorem short_any {M:Nat→Prop} {a:Option Addr} {n c d:Nat} {l:List Nat} {w:World} (hM:MB M w) (h:aR Nil w a n c l) (hr:n*4≤140737488355328) (hd:0<d) (hd2:d<4294967296) :
  Calls prog 137 #[.slice a n c,.int .u32 (d:Int)] w fun e w'=>∃a' c',e=.returned (.tuple #[.slice a' (nlen (nval l / d)) c',.int .u32 ((nval l % d:Nat):Int)])∧aR M w' a' (nlen (nval l / d)) c' (bD (nval l / d))∧aA Nil w w':=by
 obtain ⟨i0,hi,hz0,hz1,hz2⟩:=info_parts info_u32;have HH:=jJ h;have HM:=jJ hM;have hcap:=h.sl.cap;have hle:=h.sl.le;have hs:=h.lt;have hln:=h.len;clear h hM;go_enter func137,ntmps137
 go_wp2_with (at_make;refine wpList_make_row _ rfl _ _ 23 rfl 112 i0 (.int .u32 0) underlying23 hi hz0 hz1 rfl .i64 .i64 _ _ n rfl rfl rfl rfl (by rw [hz2];omega) (by omega) ?_;intro w1 hrow hk1 hsz1;have HR:=jJ (aI3 hrow hk1 hsz1);clear hrow hk1 hsz1)
 go_loopw [7,8] (fun s i wr=>∃k:Nat,k≤n∧i=.int .i64 ((k:Int)-1)∧s=.int .u64 ((quoK l d (n-k)).2:Int)∧aC wr w.heap.size 112 (zeros k (.int .u32 0)++u32s (quoK l d (n-k)).1)∧aA Nil w wr) (fun _ i _=>(intOf i+1).toNat)
 case atStart=>exact⟨n,bZ2 _,by go_num,by rw [Nat.sub_self];rfl,by rw [Nat.sub_self];simpa [quoK,u32s] using HR.o.1,HR.o.2.1⟩
 case round=>
  obtain ⟨k,hk,rfl,rfl,hrow,hkk⟩:=hrel;obtain ⟨q1,q2,q3,q4⟩:=quoK_spec hs hd hd2 (n-k) (by omega);have hg:=hrow.lt;cases k with
  | zero=>
   rw [show (((0:Nat):Int)-1)=-1 from rfl];rw [Nat.sub_zero] at hrow q1 q2 q3 q4⊢;rw [show zeros 0 (Value.int .u32 0)=[] from rfl,fZ3] at hrow;have hL:=aR.ofRow hrow q2 (M:=Nil) (fun h=>h.elim) (by rw [q1];omega);rw [q1] at hL;obtain ⟨v1,v2⟩:=quoK_all hs hd hd2;rw [hln] at v1 v2;have HX:=jJ (aI4 hL v1 v2 hkk);have hrl:(((quoK l d n).2:Int)) % 4294967296=((quoK l d n).2:Int):=by omega
   clear hL hrow hkk v1 v2 q1 q2 q4 hs;go_wp2_with (go_at_call 133;refine (own_any (M:=M) (HM.o.keep HX.o.2.2.2) HX.o.1 hr).mono ?_;rintro e w' ⟨a',c',rfl,h',hk'⟩)
   go_ret2
   rw [trim_eq HX.o.1.lt,top_eq HX.o.1.lt,HX.o.2.1] at h';rw [top_eq HX.o.1.lt,HX.o.2.1,←HX.o.2.2.1];exact⟨_,_,rfl,h',HX.o.2.2.2.trans hk'⟩
  | succ k=>
   rw [show (((k+1:Nat):Int)-1)=(k:Int) by omega];obtain ⟨b,off,hbe,hb0,_,p0⟩:=(HH.o.keepNil hkk).cell (k:=k) (by omega);have la:=HH.o.lim_lt k;have c0:=hrow.cell k;have f0:=hrow.frozen k;rw [List.getElem?_append_left (by simp [zeros])] at c0;have c1:wr.cell? ⟨w.heap.size,k,none⟩=some (.int .u32 0):=by simpa [zeros] using c0
   clear c0;subst hbe;have e0:n-k=n-(k+1)+1:=by omega
   have e1:(quoK l d (n-k)).2=((quoK l d (n-(k+1))).2*Bs+lim l k) % d:=by rw [e0];simp only [quoK];rw [show l.length-(n-(k+1)+1)=k by omega]
   have e2:(quoK l d (n-k)).1=((quoK l d (n-(k+1))).2*Bs+lim l k) / d::(quoK l d (n-(k+1))).1:=by rw [e0];simp only [quoK];rw [show l.length-(n-(k+1)+1)=k by omega]
   rw [cL] at e1 e2;have hbe:=beside (quoK l d (n-(k+1))).2 (lim l k) (by omega) la;have HE:=jJ (aI e1 e2);have HROW:=jJ hrow;have HK:=jJ hkk;have HQ:=jJ (aI3 q1 q2 q4);have HS:=jJ (aI hs hln);clear e0 e1 e2 hrow hkk q1 q2 q4 hs hln;generalize hcc:(quoK l d (n-(k+1))).2=r at *
   generalize hla:lim l k=x at *
   have HG:=jJ (aI hcc hla);have hdd:¬(d:Int)=0:=by omega
   clear hcc hla;go_wp2_with fail
   go_roundw
   case rel=>exact⟨k,by omega,rfl,congrArg (Value.int .u64) (by rw [HE.o.1];exact rem_fit r x d),by rw [HE.o.2];exact row_back HROW.o (congrArg (Value.int .u32) (quo_fit r x d q3 la)),HK.o.setCell (p:=⟨w.heap.size,k,none⟩) (.inr (bZ2 _)) _⟩
   case measure=>simp [intOf]
theorem nval_one {l:List Nat} (h:l.length=1):nval l=lim l 0:=by
 match l,h with
 | [x],_=>simp [nval,lim]
theorem divmod1_any {M:Nat→Prop} {a a2:Option Addr} {n c n2 c2:Nat} {l l2:List Nat} {w:World} (hM:MB M w) (h:aR Nil w a n c l) (h2:aR Nil w a2 n2 c2 l2) (hr:n*4≤140737488355328) (h1:top l2=1) :
  Calls prog 100 #[.slice a n c,.slice a2 n2 c2] w fun e w'=>∃a' c' a4 c4,e=.returned (.tuple #[.slice a' (nlen (nval l / nval l2)) c',.slice a4 (nlen (nval l % nval l2)) c4,.int .i64 0]) ∧
   aR M w' a' (nlen (nval l / nval l2)) c' (bD (nval l / nval l2))∧aR M w' a4 (nlen (nval l % nval l2)) c4 (bD (nval l % nval l2))∧aA Nil w w':=by
 have hb:=h.bare;have hb2:=h2.bare;have hv:=cQ l;have hv2:=cQ l2;have hd:nval l2=lim (trim l2) 0:=by rw [←hv2];exact nval_one (by rw [hb2.len,h1])
 have hd0:0<nval l2:=by
  have:=bare_trim l2;rcases this with h0|h0
  ·have:=hb2.len;rw [h0,h1] at this;simp at this
  ·rw [hb2.len,h1] at h0;have h0':lim (trim l2) 0≠0:=h0;omega
 have hd1:nval l2<4294967296:=by rw [hd];exact hb2.lim_lt 0
 obtain ⟨b,off,hbe,hbl,_,p0⟩:=hb2.cell (k:=0) (by omega);rw [←hd,Nat.add_zero] at p0;have htn:top l≤n:=by rw [←h.len];exact top_le l
 have hmod:nval l % nval l2<18446744073709551616:=by have:=Nat.mod_lt (nval l) hd0;omega
 subst hbe;have HH:=jJ h;have HH2:=jJ h2;have HB:=jJ hb;have HM:=jJ hM;have HV:=jJ (aI3 hv hd0 hd1);obtain ⟨m,hm⟩:∃m,m=nval (trim l) % nval l2:=⟨_,rfl⟩;have hm':m<18446744073709551616:=by rw [hm,hv];exact hmod
 have HMOD:=jJ (aI hm hm');have hm32:m<4294967296:=by have:=Nat.mod_lt (nval l) hd0;rw [hm,hv];omega
 clear hm hm';clear h h2 hb hb2 hM hv hv2 hd hd0 hd1 hmod;go_enter func100,ntmps100
 go_wp2_with (first|(go_at_call_of 136 (Value.slice a n c);refine (dJ HH.o).mono ?_;rintro e w' ⟨rfl,rfl⟩)|(go_at_call_of 136 (Value.slice (some ⟨b,off,none⟩) n2 c2);refine (dJ HH2.o).mono ?_;rintro e w' ⟨rfl,rfl⟩;rw [h1])|(go_at_call 137;refine (short_any (M:=M) HM.o HB.o (by omega) HV.o.2.1 HV.o.2.2).mono ?_;rintro e w1 ⟨a',c',rfl,h',hk'⟩;have HS:=jJ (aI h' hk');clear h' hk';rw [←HMOD.o.1])|(go_at_call 93;refine (of_any (M:=M) (HM.o.keep HS.o.2) HMOD.o.2).mono ?_;rintro e w2 ⟨a4,c4,rfl,h4,hk4⟩;have HO:=jJ (aI h4 hk4);clear h4 hk4))
 go_ret3
 have h':=HS.o.1;have h4:=HO.o.1;rw [HMOD.o.1,HV.o.1] at h4;rw [HV.o.1] at h';rw [HMOD.o.1,HV.o.1];exact⟨_,_,_,_,rfl,h'.keepNil HO.o.2,h4,HS.o.2.trans HO.o.2⟩
end Go.Proofs.Q
