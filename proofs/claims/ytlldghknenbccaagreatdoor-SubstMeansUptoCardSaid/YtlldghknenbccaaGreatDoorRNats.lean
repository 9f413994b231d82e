/- What zint.trim, slices.Clone at limbs and their like do: the limbs without the noughts at the end, in new memo. -/
import Derived.Test.YtlldghknenbccaaGreatDoorRows
import Derived.Test.YtlldghknenbccaaGreatDoorRWords
import Derived.Deep.LoopGhost
set_option linter.unusedSimpArgs false
set_option linter.unusedVariables false
set_option maxRecDepth 100000
set_option maxHeartbeats 1000000
namespace Go.Proofs.Q
open Go.RowKit Tryz
theorem aU.bBS {M M':Nat→Prop} {w:World} {n c:Nat} {l:List Nat} (h:aU M w none n c l):aU M' w none n c l:=
 ⟨h.len,⟨h.sl.le,h.sl.cap,h.sl.none,fun _ e=>by cases e⟩,h.lt⟩
section
variable {w:World} {l:List Nat} {M' M:Nat→Prop} {a:Option Addr} {c n:Nat} {p:Addr}
theorem EO:(prog.info? 112).map (fun i=>(i.zero,i.size,i.bytes))=some (some (.int .u32 0),1,4):=zX
theorem ZT (w:World):Calls prog 119 #[.slice none 0 0] w fun e w'=>e=.returned (.slice none 0 0)∧w=w':=by
 have q:∀(w:World) (a:Option Addr) (n c n' c':Nat),(binOp .eql 23 (.slice a n c) (.slice none n' c')).run prog w=.ok (.bool a.isNone) w:=fun w a n c n' c'=>Lib.run_eql_slice_nil w _ _ a n c n' c' underlying23;go_enter func119,ntmps119
 go_wp2
 go_ret
 exact⟨rfl,rfl⟩
theorem OC (hM:MB M w) (h:aU M' w a n c l) (hr:n*4≤140737488355328) :
  Calls prog 119 #[.slice a n c] w fun e w'=>∃a' c',e=.returned (.slice a' n c')∧aU M w' a' n c' l∧aA Nil w w':=by
 cases a with
 | none=>
  obtain ⟨rfl,rfl⟩:=h.sl.none rfl;exact (ZT w).mono fun e w' ⟨he,hw⟩=>qC
 | some p=>
  have q:∀(w:World) (a:Option Addr) (n c n' c':Nat),(binOp .eql 23 (.slice a n c) (.slice none n' c')).run prog w=.ok (.bool a.isNone) w:=fun w a n c n' c'=>Lib.run_eql_slice_nil w _ _ a n c n' c' underlying23;obtain ⟨i0,hi,hz0,hz1,hz2⟩:=info_parts EO;have HH:=jJ h;have HM:=jJ hM;clear h hM;go_enter func119,ntmps119
  go_wp2_with (at_builtin;refine wpList_append_own _ rfl _ _ 23 rfl w.heap.size 112 i0 (.int .u32 0) 1 4 underlying23 hi hz0 hz1 hz2 rfl zY _ _ _ rfl (World.ownsRow_made w #[] 0 (bZ2 _) (aZ2 _) rfl) p n c (l.map u32) rfl ?qc1 ?qc2 ?qc3 ?qc4 ?qc5 ?qc6 ?_)
  case qc1=>simp [HH.o.len]
  case qc2=>
   intro j u hj;have hx:=HH.o.src (k:=n) (bZ2 _);rw [eZ1 (by have:=HH.o.len;omega)] at hx;have hjl:j<(eX l).length:=(List.getElem?_eq_some_iff.1 hj).1;obtain ⟨b,off,e,hb,_,hc⟩:=hx zZ;cases e;rw [←hc j u hj,Addr.add_lit];exact World.cell?_alloc_lt _ _ (a:=⟨b,off+j,none⟩) hb
  case qc3=>exact aJQ l
  case qc4=>exact zC
  case qc5=>omega
  case qc6=>simp
  intro v' w1 hown hgrow hnil;go_wp2
  go_ret
  have h:=HH.o;obtain ⟨a',c',rfl,hL⟩:=aU.owned (M:=M) (l:=l) (by simpa using hown) h.lt HM.o;exact⟨_,_,rfl,hL,((aA.refl _ w).alloc _).grow hgrow qH⟩
theorem aYE (w:World):Calls prog 132 #[.slice none 0 0] w fun e w'=>e=.returned (.slice none 0 0)∧w=w':=by
 go_enter func132,ntmps132
 go_wp2
 go_loop [0] (fun s=>s=.slice none 0 0) (fun _=>0)
 case atStart=>rfl
 case round=>
  subst hrel;go_wp2_with (go_at_call 119;refine (ZT _).mono ?_;rintro e w' ⟨rfl,rfl⟩)
  go_ret
  exact⟨rfl,rfl⟩
theorem aVN (hM:MB M w) (h:aU M' w (some p) 0 c []) :
  Calls prog 132 #[.slice (some p) 0 c] w fun e w'=>∃a' c',e=.returned (.slice a' 0 c')∧aU M w' a' 0 c' []∧aA Nil w w':=by
 have hcap:=h.sl.cap;have HH:=jJ h;clear h;go_enter func132,ntmps132
 go_wp2
 go_loop [0] (fun s=>s=.slice (some p) 0 c) (fun _=>0)
 case atStart=>rfl
 case round=>
  subst hrel;go_wp2_with (go_at_call 119;refine (OC hM HH.o zZ).mono ?_;rintro e w' ⟨a',c',rfl,h',hk'⟩)
  go_ret
  exact⟨_,_,rfl,h',hk'⟩
theorem aWG {b off:Nat} (hM:MB M w) (h:aU M' w (some ⟨b,off,none⟩) n c l) (hr:n*4≤140737488355328) :
  Calls prog 132 #[.slice (some ⟨b,off,none⟩) n c] w fun e w'=>∃a' c',e=.returned (.slice a' (top l) c')∧aU M w' a' (top l) c' (trim l)∧aA Nil w w':=by
 have hle:=h.sl.le;have hcap:=h.sl.cap;have HH:=jJ h;clear h;go_enter func132,ntmps132
 go_wp2
 go_loop [0] (fun s=>∃k:Nat,k≤n∧kV l n=kV l k∧s=.slice (some ⟨b,off,none⟩) k c) (fun s=>match s with|.slice _ k _=>k|_=>0)
 case atStart=>exact⟨n,bZ2 _,rfl,rfl⟩
 case round=>
  obtain ⟨k,hk,ht,rfl⟩:=hrel;have HT:=jJ ht;clear ht;cases k with
  | zero=>
   have hL:aU M' w (some ⟨b,off,none⟩) 0 c (trim l):=by
    have e:top l=0:=tJ;have hx:=HH.o.take (k:=0) zZ;rw [←e] at hx⊢;exact hx
   have HL:=jJ hL;clear hL;go_wp2_with (go_at_call 119;refine (OC hM HL.o zZ).mono ?_;rintro e w' ⟨a',c',rfl,h',hk'⟩)
   go_ret
   have e:top l=0:=tJ;rw [e];exact⟨_,_,rfl,h',hk'⟩
  | succ k=>
   have hcell:w.cell? ⟨b,off+k,none⟩=some (.int .u32 (lim l k:Int)):=qV;by_cases h1:((lim l k:Int)==0)=true
   ·exact vL
   ·have h1':((lim l k:Int)==0)=false:=by simpa using h1
    have e:top l=k+1:=sA;have hL:aU M' w (some ⟨b,off,none⟩) (k+1) c (trim l):=
     by have hx:=HH.o.take (k:=k+1) zZ;rw [←e] at hx⊢;exact hx
    have HL:=jJ hL;have HE:=jJ e;clear hL e;go_wp2_with (go_at_call 119;refine (OC hM HL.o zZ).mono ?_;rintro e w' ⟨a',c',rfl,h',hk'⟩)
    go_ret
    rw [HE.o];exact⟨_,_,rfl,h',hk'⟩
theorem KZ (hM:MB M w) (h:aU M' w a n c l) (hr:n*4≤140737488355328) :
  Calls prog 132 #[.slice a n c] w fun e w'=>∃a' c',e=.returned (.slice a' (top l) c')∧aU M w' a' (top l) c' (trim l)∧aA Nil w w':=by
 rcases Nat.eq_zero_or_pos n with rfl|hn
 ·have e:l=[]:=fZ1 h.len;subst e;cases a with
  | none=>
   obtain ⟨_,rfl⟩:=h.sl.none rfl;exact (aYE w).mono fun e w' ⟨he,hw⟩=>qC
  | some p=>exact aVN hM h
 ·obtain ⟨b,off,rfl,_⟩:=h.sl.at hn;exact aWG hM h hr
end
section
variable {a:Option Addr} {M:Nat→Prop} {l:List Nat} {w:World} {n c:Nat}
theorem dS (h:aU M w a n c l) :
  Calls prog 136 #[.slice a n c] w fun e w'=>e=.returned (.slice a (top l) (top l))∧w=w':=by
 have hle:=h.sl.le;have hcap:=h.sl.cap;have HH:=jJ h;clear h;go_enter func136,ntmps136
 go_wp2
 go_step3
 go_wp2
 go_step3
 go_wp2
 go_loop [3] (fun s=>∃k:Nat,k≤n∧kV l n=kV l k∧s=.int .i64 (k:Int)) (fun s=>match s with|.int _ k=>k.toNat|_=>0)
 case atStart=>exact⟨n,bZ2 _,rfl,rfl⟩
 case round=>
  obtain ⟨k,hk,ht,rfl⟩:=hrel;have HT:=jJ ht;clear ht;cases k with
  | zero=>
   have e:top l=0:=tJ;have HE:=jJ e;clear e;rw [show ((0:Nat):Int)=0 from rfl];go_wp2
   go_ret
   rw [HE.o];exact⟨rfl,rfl⟩
  | succ k=>
   obtain ⟨b,off,rfl,hc0⟩:=HH.o.sl.at zZ;have hcell:w.cell? ⟨b,off+k,none⟩=some (.int .u32 (lim l k:Int)):=qV;by_cases h1:((lim l k:Int)==0)=true
   ·exact vL
   ·have h1':((lim l k:Int)==0)=false:=by simpa using h1
    have e:top l=k+1:=sA;have HE:=jJ e;clear e;go_wp2
    go_ret
    rw [HE.o];exact⟨rfl,rfl⟩
theorem aJI (h:aU M w a n c l) (hr:n*4≤140737488355328) :
  Calls prog 133 #[.slice a n c] w fun e w'=>∃v,e=.returned v∧w'.ownsRow w.heap.size 112 1 v (top l) ((trim l).map u32)∧aA Nil w w':=by
 obtain ⟨i0,hi,hz0,hz1,hz2⟩:=info_parts EO;have htl:top l≤n:=xI;have HH:=jJ h;clear h;go_enter func133,ntmps133
 cases a with
 | none=>
  obtain ⟨rfl,rfl⟩:=HH.o.sl.none rfl;have e0:l=[]:=fZ1 HH.o.len;subst e0;go_wp2_with (first|(go_at_call 136;refine (dS (HH.o.keep' ((aA.refl M w).alloc _))).mono ?_;rintro e w' ⟨rfl,rfl⟩)|(at_builtin;refine wpList_append_own_none rfl _ _ 23 rfl w.heap.size 112 i0 1 underlying23 hi _ _ _ rfl (World.ownsRow_made w #[] 0 (bZ2 _) (aZ2 _) rfl) rfl ?_))
  go_ret
  exact⟨_,rfl,World.ownsRow_made w #[] 0 (bZ2 _) (aZ2 _) rfl,(aA.refl _ w).alloc _⟩
 | some p=>
  go_wp2_with (first|(go_at_call 136;refine (dS (HH.o.keep' ((aA.refl M w).alloc _))).mono ?_;rintro e w' ⟨rfl,rfl⟩)|(at_builtin;refine wpList_append_own _ rfl _ _ 23 rfl w.heap.size 112 i0 (.int .u32 0) 1 4 underlying23 hi hz0 hz1 hz2 rfl zY _ _ _ rfl (World.ownsRow_made w #[] 0 (bZ2 _) (aZ2 _) rfl) p (top l) (top l) ((trim l).map u32) rfl ?qc1 ?qc2 ?qc3 ?qc4 ?qc5 ?qc6 ?_))
  case qc1=>simp [dG]
  case qc2=>
   intro j u hj;have hx:=(HH.o.keep' ((aA.refl M w).alloc (.cells #[] 112))).src (k:=top l) htl;have hjl:j<(trim l).length:=by have:=(List.getElem?_eq_some_iff.1 hj).1;simpa using this
   obtain ⟨b,off,e,hb,_,hc⟩:=hx (by rw [dV];exact Nat.lt_of_le_of_lt (aZ2 _) hjl);cases e;rw [Addr.add_lit];exact hc j u hj
  case qc3=>exact aJQ _
  case qc4=>exact zC
  case qc5=>omega
  case qc6=>simp
  intro v' w1 hown hgrow hnil;go_wp2
  go_ret
  exact⟨_,rfl,by simpa using hown,((aA.refl _ w).alloc _).grow hgrow qH⟩
theorem AL (hM:MB M w) (h:aU Nil w a n c l) (hr:n*4≤140737488355328) :
  Calls prog 133 #[.slice a n c] w fun e w'=>∃a' c',e=.returned (.slice a' (top l) c')∧aU M w' a' (top l) c' (trim l)∧aA Nil w w':=by
 refine (aJI h hr).mono ?_;rintro e w' ⟨v,rfl,ho,hk⟩;obtain ⟨a',c',rfl,hL⟩:=aU.owned ho (fun x hx=>h.lt x (aHB hx)) hM;exact⟨_,_,rfl,hL,hk⟩
end
section
variable {a:Option Addr} {M:Nat→Prop} {l:List Nat} {w:World} {n c:Nat}
theorem aU.gK (h:aU M w a n c l):aU Nil w a n c l:=h.turn fun _ _ h=>h.elim
theorem aU.bare (h:aU M w a n c l):aU M w a (top l) (top l) (trim l):=by
 have ht:top l≤n:=xI;have hle:=h.sl.le;have hcap:=h.sl.cap;cases a with
 | none=>
  obtain ⟨rfl,rfl⟩:=h.sl.none rfl;have e0:l=[]:=fZ1 h.len;subst e0;exact h
 | some p=>
  have hx:=h.take (k:=top l) ht;exact⟨hx.len,⟨bZ2 _,zZ,(fun h=>wZ),hx.sl.some⟩,hx.lt⟩
theorem aU.eO {w':World} (h:aU M w a n c l) (k:aA Nil w w'):aU M w' a n c l:=h.keep k fun _ _ h=>h.elim
theorem aU.cell {M:Nat→Prop} {w:World} {a:Option Addr} {n c:Nat} {l:List Nat} (h:aU M w a n c l) {k:Nat} (hk:k<n):∃b off,a=some ⟨b,off,none⟩∧b<w.heap.size∧¬M b∧w.cell? ⟨b,off+k,none⟩=some (.int .u32 (lim l k:Int)):=by
 obtain ⟨b,off,rfl,hb,hn,hc⟩:=h.sl.at zZ;exact⟨b,off,rfl,hb,hn,by simpa using hc k 0 hk zZ⟩
end
section
variable {w:World} {a2 a:Option Addr} {l2 l:List Nat} {M:Nat→Prop} {n:Nat}
theorem of_cells (w:World) (n:Nat) (hn:n<18446744073709551616) :
  aU Nil (w.alloc (.cells #[.int .u32 ((n:Int) % 4294967296),.int .u32 ((n:Int) / 4294967296 % 4294967296)] 112)) (some ⟨w.heap.size,0,none⟩) 2 2 [n % Bs,n / Bs]:=by
 have e1:((n:Int) % 4294967296)=((n % Bs:Nat):Int):=uW;have e2:((n:Int) / 4294967296 % 4294967296)=((n / Bs:Nat):Int):=uW;rw [e1,e2];exact aU.ofRow (E:=112) (l:=[n % Bs,n / Bs]) aF.alloc (by
  intro x hx;simp only [mZ1,hZ2,or_false] at hx;rcases hx with rfl|rfl
  ·exact Nat.mod_lt _ iI
  ·rw [cY];omega) (fun h=>h.elim) zW
theorem XU (hM:MB M w) (hn:n<18446744073709551616) :
  Calls prog 93 #[.int .u64 (n:Int)] w fun e w'=>∃a' c',e=.returned (.slice a' (eP n) c')∧aU M w' a' (eP n) c' (bH n)∧aA Nil w w':=by
 have HC:=jJ (of_cells w n hn);have hs:Small [n % Bs,n / Bs]:=HC.o.lt;have hv:nval [n % Bs,n / Bs]=n:=by simp only [nval,Nat.mul_zero,Nat.add_zero];exact Nat.mod_add_div n Bs
 have HS:=jJ (aI hs hv);have HM:=jJ hM;clear hs hv hM hn;go_enter func93,ntmps93
 go_wp2_with (go_at_call 133;refine (AL (M:=M) (HM.o.keep (M':=Nil) kOf) HC.o zY).mono ?_;rintro e w' ⟨a',c',rfl,h',hk'⟩)
 go_ret
 rw [mQ HS.o.1,iN HS.o.1,HS.o.2] at h';rw [iN HS.o.1,HS.o.2];exact⟨_,_,rfl,h',((aA.refl Nil w).alloc _).trans hk'⟩
theorem XH {c n2 c2:Nat} (h:aU Nil w a n c l) (h2:aU Nil w a2 n2 c2 l2) :
  Calls prog 105 #[.slice a n c,.slice a2 n2 c2] w fun e w'=>e=.returned (.int .i64 (jK (nval l) (nval l2)))∧Lays w w':=by
 have hb:=jJ h.bare;have hb2:=jJ h2.bare;have HH:=jJ h;have HH2:=jJ h2;have hv:=jJ (aI (dC l) (dC l2));have hB:=jJ (aI (EL l) (EL l2));have hcap:=hb.out.sl.cap;have hcap2:=hb2.out.sl.cap;have hlen:=jJ (aI hb.out.len hb2.out.len);clear h h2;by_cases hl:top l=top l2
 ·go_enter func105,ntmps105
  go_wp2_with (first|(go_at_call_of 136 (Value.slice a n c);refine (dS HH.o).mono ?_;rintro e w' ⟨rfl,rfl⟩)|(go_at_call_of 136 (Value.slice a2 n2 c2);refine (dS HH2.o).mono ?_;rintro e w' ⟨rfl,rfl⟩))
  go_loopw [5] (fun i wr=>∃k:Nat,k≤top l2∧i=.int .i64 ((k:Int)-1)∧jK (nval l) (nval l2)=jK (nval ((trim l).take k)) (nval ((trim l2).take k))∧Lays w wr) (fun i _=>(intOf i+1).toNat)
  case atStart=>exact⟨top l2,bZ2 _,zF,by rw [←hv.out.1,←hv.out.2,eZ1 (by rw [hlen.out.1];omega),eZ1 (by rw [hlen.out.2];omega)],zN⟩
  case round=>
   obtain ⟨k,hk,rfl,hc,hkk⟩:=hrel;cases k with
   | zero=>
    have HC:=jJ hc;clear hc;rw [show (((0:Nat):Int)-1)=-1 from rfl];go_wp2_with fail
    go_ret
    exact⟨by rw [HC.o];simp [nval,jK],hkk⟩
   | succ k=>
    obtain ⟨b,off,rfl,hb1,_,p0⟩:=(hb.out.eO hkk.1).cell (k:=k) zZ;obtain ⟨b2,off2,rfl,hb3,_,p1⟩:=(hb2.out.eO hkk.1).cell (k:=k) zZ;rw [aUT _ _ hb.out.lt hb2.out.lt] at hc;rw [show (((k+1:Nat):Int)-1)=(k:Int) by omega];have HC:=jJ hc;have HK:=jJ hkk;clear hc hkk;by_cases h1:lim (trim l) k<lim (trim l2) k
    ·have e1:=HC.o;rw [if_pos h1] at e1;have HE:=jJ e1;clear e1;go_wp2_with fail
     go_quiet (fail)
     go_wp2_with fail
     go_ret
     exact⟨uH,HK.o.trans zN⟩
    ·by_cases h2:lim (trim l2) k<lim (trim l) k
     ·have e1:=HC.o;rw [if_neg h1,if_pos h2] at e1;have HE:=jJ e1;clear e1;go_wp2_with fail
      go_quiet (fail)
      go_wp2_with fail
      go_quiet (fail)
      go_wp2_with fail
      go_ret
      exact⟨uH,HK.o.trans zN⟩
     ·have e1:=HC.o;rw [if_neg h1,if_neg h2] at e1;have HE:=jJ e1;clear e1;go_wp2_with fail
      go_quiet (fail)
      go_wp2_with fail
      go_quiet (fail)
      go_wp2_with fail
      go_roundw
      case rel=>exact⟨k,zZ,zF,HE.o,HK.o.trans zN⟩
      case measure=>simp [intOf]
 ·by_cases hlt:top l<top l2
  ·have e:jK (nval l) (nval l2)=-1:=by
    rw [←hv.out.1,←hv.out.2];exact QI (ZI hb.out.lt hB.out.2 (by rw [hlen.out.1,hlen.out.2];exact hlt))
   have HE:=jJ e;have hne:((top l:Int) != (top l2:Int))=true:=zV;clear e;go_enter func105,ntmps105
   go_wp2_with (first|(go_at_call_of 136 (Value.slice a n c);refine (dS HH.o).mono ?_;rintro e w' ⟨rfl,rfl⟩)|(go_at_call_of 136 (Value.slice a2 n2 c2);refine (dS HH2.o).mono ?_;rintro e w' ⟨rfl,rfl⟩))
   go_ret
   exact⟨uH,Lays.refl _⟩
  ·have e:jK (nval l) (nval l2)=1:=by
    rw [←hv.out.1,←hv.out.2];exact aIZ (ZI hb2.out.lt hB.out.1 (by rw [hlen.out.1,hlen.out.2];omega))
   have HE:=jJ e;have hne:((top l:Int) != (top l2:Int))=true:=zV;clear e;go_enter func105,ntmps105
   go_wp2_with (first|(go_at_call_of 136 (Value.slice a n c);refine (dS HH.o).mono ?_;rintro e w' ⟨rfl,rfl⟩)|(go_at_call_of 136 (Value.slice a2 n2 c2);refine (dS HH2.o).mono ?_;rintro e w' ⟨rfl,rfl⟩))
   go_ret
   exact⟨uH,Lays.refl _⟩
theorem LB {c n2 c2:Nat} (h:aU Nil w a n c l) (h2:aU Nil w a2 n2 c2 l2) :
  Calls prog 105 #[.slice a n c,.slice a2 n2 c2] w fun e w'=>e=.returned (.int .i64 (jK (nval l) (nval l2)))∧aA Nil w w':=
 (XH h h2).mono fun _ _ ⟨he,hl⟩=>⟨he,hl.1⟩
end
theorem wrap_u32' (n:Int):IntKind.u32.wrap n=n % 4294967296:=by simp [IntKind.wrap,IntKind.bits,IntKind.signed]
theorem JC (a:Nat) (ha:a<4294967296):(BitVec.ofInt 32 (a:Int)).toNat=a:=by
 rw [BitVec.ofInt_natCast,BitVec.toNat_ofNat];exact Nat.mod_eq_of_lt zZ
theorem RX (a b:Nat) (ha:a<4294967296) (hb:b<4294967296):bits .xor .u32 (a:Int) (b:Int)=((a ^^^ b:Nat):Int):=by
 have hx:a ^^^ b<2 ^ 32:=Nat.xor_lt_two_pow zZ zZ;show IntKind.u32.wrap ((BitVec.ofInt 32 (a:Int) ^^^ BitVec.ofInt 32 (b:Int)).toNat:Int)=_
 rw [BitVec.toNat_xor,JC a ha,JC b hb,wrap_u32'];omega
theorem ZK (a b:Nat) (ha:a<4294967296) (hb:b<4294967296):bits .and .u32 (a:Int) (b:Int)=((a &&& b:Nat):Int):=by
 have hx:a &&& b<2 ^ 32:=Nat.and_lt_two_pow _ zZ;show IntKind.u32.wrap ((BitVec.ofInt 32 (a:Int) &&& BitVec.ofInt 32 (b:Int)).toNat:Int)=_
 rw [BitVec.toNat_and,JC a ha,JC b hb,wrap_u32'];omega
theorem SQ (a b:Nat) (ha:a<4294967296) (hb:b<4294967296):bits .or .u32 (a:Int) (b:Int)=((a ||| b:Nat):Int):=by
 have hx:a ||| b<2 ^ 32:=Nat.or_lt_two_pow zZ zZ;show IntKind.u32.wrap ((BitVec.ofInt 32 (a:Int) ||| BitVec.ofInt 32 (b:Int)).toNat:Int)=_
 rw [BitVec.toNat_or,JC a ha,JC b hb,wrap_u32'];omega
theorem bDJ (x y b:Nat) (hx:x<4294967296) (hy:y<4294967296) (hb:b≤1) :
  bits .or .u32 (bits .and .u32 (bits .xor .u32 IntKind.u32.max (x:Int)) (y:Int)) (bits .and .u32 (bits .xor .u32 IntKind.u32.max (bits .xor .u32 (x:Int) (y:Int))) (((x:Int)-y-b) % 4294967296)) / 2147483648
   = ((1-(x+4294967296-y-b) / 4294967296:Nat):Int):=by
 have hm:IntKind.u32.max=((4294967295:Nat):Int):=zY;have hd:(((x:Int)-y-b) % 4294967296)=(((x+4294967296-y-b) % 4294967296:Nat):Int):=zZ;have hdl:(x+4294967296-y-b) % 4294967296<4294967296:=Nat.mod_lt _ zY;rw [hm,hd];generalize hD:(x+4294967296-y-b) % 4294967296=d at *
 have l1:4294967295 ^^^ x<4294967296:=Nat.xor_lt_two_pow (n:=32) zZ zZ;have l2:x ^^^ y<4294967296:=Nat.xor_lt_two_pow (n:=32) zZ zZ;have l3:4294967295 ^^^ (x ^^^ y)<4294967296:=Nat.xor_lt_two_pow (n:=32) zZ zZ;have l4:(4294967295 ^^^ x) &&& y<4294967296:=Nat.and_lt_two_pow (n:=32) _ zZ;have l5:(4294967295 ^^^ (x ^^^ y)) &&& d<4294967296:=Nat.and_lt_two_pow (n:=32) _ zZ;rw [RX _ _ zY hx,RX _ _ hx hy,RX _ _ zY l2,ZK _ _ l1 hy,ZK _ _ l3 hdl,SQ _ _ l4 l5];have e:((4294967295 ^^^ x) &&& y ||| (4294967295 ^^^ (x ^^^ y)) &&& d) / 2147483648=((1 ^^^ (x / 2147483648)) &&& (y / 2147483648)) ||| ((1 ^^^ ((x / 2147483648) ^^^ (y / 2147483648))) &&& (d / 2147483648)):=by
  have s:∀n:Nat,n / 2147483648=n >>> 31:=fun n=>by rw [Nat.shiftRight_eq_div_pow]
  simp only [s,Nat.shiftRight_or_distrib,Nat.shiftRight_and_distrib,Nat.shiftRight_xor_distrib,show 4294967295 >>> 31=1 by decide]
 have hX:x / 2147483648=0∨x / 2147483648=1:=zZ;have hY:y / 2147483648=0∨y / 2147483648=1:=zZ;have hDD:d / 2147483648=0∨d / 2147483648=1:=zZ;have e2:((4294967295 ^^^ x) &&& y ||| (4294967295 ^^^ (x ^^^ y)) &&& d) / 2147483648=1-(x+4294967296-y-b) / 4294967296:=by
  rw [e];rcases hX with hX|hX<;>rcases hY with hY|hY<;>rcases hDD with hZ|hZ<;>rw [hX,hY,hZ]<;>simp<;>omega
 omega
theorem OE (x y b:Nat) (hx:x<4294967296) (hy:y<4294967296) (hb:b≤1) (w:World) :
  Calls prog 187 #[.int .u32 (x:Int),.int .u32 (y:Int),.int .u32 (b:Int)] w fun e w'=>e=.returned (.tuple #[.int .u32 (((x+4294967296-y-b) % 4294967296:Nat):Int),.int .u32 ((1-(x+4294967296-y-b) / 4294967296:Nat):Int)])∧w=w':=by
 have HL:=jJ (bDJ x y b hx hy hb);have HD:(((x:Int)-y-b) % 4294967296)=(((x+4294967296-y-b) % 4294967296:Nat):Int):=zZ;have HD':=jJ HD;clear HD hx hy hb;go_enter func187,ntmps187
 go_wp2_with fail
 go_ret2
 have e:∀u v u' v':Int,u=u'→v=v'→Ending.returned (.tuple #[.int .u32 u,.int .u32 v])=Ending.returned (.tuple #[.int .u32 u',.int .u32 v']):=by rintro u v u' v' rfl rfl;rfl
 exact⟨e _ _ _ _ HD'.o HL.o,rfl⟩
theorem aVF (o:List Nat) (m x:Nat) (z:Value):(eX o++zeros (m+1) z).set o.length (u32 x)=eX (o++[x])++zeros m z:=by
 rw [List.set_append_right _ _ (by simp [eX]),dV,Nat.sub_self];simp [zeros,List.replicate_succ,eX]
theorem PU {w:World} {g:Nat} {E:TypeId} {o:List Nat} {k m m0 x:Nat} {v:Value} (h:aF w g E (eX o++zeros m0 (.int .u32 0))) (hk:o.length=k) (hm:m0=m+1) (hv:v=u32 x) :
  aF (w.setCell ⟨g,k,none⟩ v) g E (eX (o++[x])++zeros m (.int .u32 0)):=by
 subst hm hk hv;rw [←aVF];exact h.set _ _
theorem bAI {M:Nat→Prop} {a a2:Option Addr} {n c n2 c2:Nat} {l l2:List Nat} {w:World} (hM:MB M w) (h:aU Nil w a n c l) (h2:aU Nil w a2 n2 c2 l2)
  (hr:n*4+4≤140737488355328) (hr2:n2*4+4≤140737488355328) :
  Calls prog 123 #[.slice a n c,.slice a2 n2 c2] w fun e w'=>∃a' c',e=.returned (.slice a' (eP (nval l+nval l2)) c')∧aU M w' a' (eP (nval l+nval l2)) c' (bH (nval l+nval l2))∧aA Nil w w':=by
 obtain ⟨i0,hi,hz0,hz1,hz2⟩:=info_parts EO;have HH:=jJ h;have HH2:=jJ h2;have HM:=jJ hM;have htn:top l≤n:=xI;have htn2:top l2≤n2:=sJ;have HT:=jJ (aI htn htn2);have hb:=h.bare;have hb2:=h2.bare;have hv:=dC l;have hv2:=dC l2;have tl:top l≤35184372088831:=zZ;have tl2:top l2≤35184372088831:=zZ;clear htn htn2 hr hr2;by_cases hlt:top l<top l2
 ·have HA:=jJ hb2;have HB:=jJ hb;have hV:nval (trim l2)+nval (trim l)=nval l+nval l2:=zZ;have HV:=jJ hV;clear h h2 hb hb2 hv hv2 hM hV;go_enter func123,ntmps123
  go_wp2_with (first|(go_at_call_of 136 (Value.slice a n c);refine (dS HH.o).mono ?_;rintro e w' ⟨rfl,rfl⟩)|(go_at_call_of 136 (Value.slice a2 n2 c2);refine (dS HH2.o).mono ?_;rintro e w' ⟨rfl,rfl⟩)|(at_make;refine wpList_make_row _ rfl _ _ 23 rfl 112 i0 (.int .u32 0) underlying23 hi hz0 hz1 rfl .i64 .i64 _ _ (top l2+1) rfl rfl zZ zZ (by rw [hz2];omega) zZ ?_;intro w1 hrow hk1 hsz1;have HR:=jJ (aI3 hrow hk1 hsz1);clear hrow hk1 hsz1))
  go_loopw [6,26] (fun s i wr=>∃k:Nat,k≤top l2∧i=.int .i64 k∧s=.int .u64 ((fB (trim l2) (trim l) k).2:Int)∧aF wr w.heap.size 112 (eX (fB (trim l2) (trim l) k).1++zeros (top l2+1-k) (.int .u32 0))∧aA Nil w wr) (fun _ i _=>top l2-(intOf i).toNat)
  case atStart=>exact⟨0,aZ2 _,rfl,rfl,HR.o.1,HR.o.2.1⟩
  case round=>
   obtain ⟨k,hk,rfl,rfl,hrow,hkk⟩:=hrel;obtain ⟨q1,q2,q3,q4⟩:=GU HA.o.lt HB.o.lt k;have hg:=hrow.lt;by_cases hlk:k<top l2
   ·obtain ⟨b,off,hbe,hb0,_,p0⟩:=(HA.o.eO hkk).cell hlk;have la:=HA.o.jB k;have hlen:(eX (fB (trim l2) (trim l) k).1++zeros (top l2+1-k) (.int .u32 0)).length=top l2+1:=by simp [eX,zeros,q1];omega
    have c0:=hrow.cell k;have f0:=hrow.frozen k;rw [List.getElem?_append_right vE,dV,q1,Nat.sub_self,show top l2+1-k=top l2-k+1 by omega] at c0;rw [show zeros (top l2-k+1) (.int .u32 0)=.int .u32 0::zeros (top l2-k) (.int .u32 0) from rfl] at c0;have c1:wr.cell? ⟨w.heap.size,k,none⟩=some (.int .u32 0):=by simpa using c0
    clear c0;subst hbe;have e1:(fB (trim l2) (trim l) (k+1)).2=((fB (trim l2) (trim l) k).2+lim (trim l2) k+lim (trim l) k) / Bs:=rfl;have e2:(fB (trim l2) (trim l) (k+1)).1=(fB (trim l2) (trim l) k).1++[((fB (trim l2) (trim l) k).2+lim (trim l2) k+lim (trim l) k) % Bs]:=rfl;have HE:=jJ (aI e1 e2);have HROW:=jJ hrow;have HK:=jJ hkk;have HQ:=jJ (aI3 q1 q2 q4);clear e1 e2 hrow hkk q1 q2 q4;by_cases hyk:k<top l
    ·obtain ⟨b2,off2,hbe2,hb2,_,p1⟩:=(HB.o.eO HK.o).cell hyk;have lb:=HB.o.jB k;subst hbe2;generalize hcc:(fB (trim l2) (trim l) k).2=cc at *
     generalize hla:lim (trim l2) k=x at *
     generalize hlb:lim (trim l) k=y at *
     have HG:=jJ (aI3 hcc hla hlb);clear hcc hla hlb;go_wp2_with fail
     go_roundw
     case rel=>exact oZ
     case measure=>exact zI
    ·have hz:=FK (l:=trim l) (i:=k) uR;generalize hcc:(fB (trim l2) (trim l) k).2=cc at *
     generalize hla:lim (trim l2) k=x at *
     have HG:=jJ (aI3 hcc hla hz);clear hcc hla hz;go_wp2_with fail
     go_roundw
     case rel=>exact oV
     case measure=>exact zI
   ·obtain rfl:k=top l2:=zZ;have hlen:(eX (fB (trim l2) (trim l) (top l2)).1++zeros (top l2+1-top l2) (.int .u32 0)).length=top l2+1:=by simp [eX,zeros,q1]
    have c0:=hrow.cell (top l2);have f0:=hrow.frozen (top l2);rw [List.getElem?_append_right vE,dV,q1,Nat.sub_self,show top l2+1-top l2=1 by omega] at c0;have c1:wr.cell? ⟨w.heap.size,top l2,none⟩=some (.int .u32 0):=pS;clear c0;rw [eZ1 (by rw [HA.o.len];exact bZ2 _),eZ1 uR,HV.o] at q4;generalize hcc:(fB (trim l2) (trim l) (top l2)).2=cc at *
    generalize hoo:(fB (trim l2) (trim l) (top l2)).1=o at *
    have hrow2:=PU (x:=cc) (m:=0) (v:=.int .u32 (cc:Int)) hrow q1 zZ rfl;rw [show zeros 0 (Value.int .u32 0)=[] from rfl,fZ2] at hrow2;have hL:=aU.ofRow hrow2 (CB q2 zZ) (M:=Nil) (fun h=>h.elim) (by simp [q1];omega);rw [aZ1,List.length_singleton,q1] at hL;have hval:nval (o++[cc])=nval l+nval l2:=by rw [CK,q1];exact q4
    have hk2:aA Nil w (wr.setCell ⟨w.heap.size,top l2,none⟩ (.int .u32 (cc:Int))):=hkk.setCell (p:=⟨w.heap.size,top l2,none⟩) (.inr (bZ2 _)) _;have HX:=jJ (aI3 hL hval hk2);have hcm:(cc:Int) % 4294967296=cc:=zZ;clear hL hval hk2 hrow2 hrow hkk q1 q2 q4 hcc hoo hlen;go_wp2_with (go_at_call 133;refine (AL (M:=M) (HM.o.keep HX.o.2.2) HX.o.1 zZ).mono ?_;rintro e w' ⟨a',c',rfl,h',hk'⟩)
    go_ret
    rw [mQ HX.o.1.lt,iN HX.o.1.lt,HX.o.2.1] at h';rw [iN HX.o.1.lt,HX.o.2.1];exact⟨_,_,rfl,h',HX.o.2.2.trans hk'⟩
 ·have HA:=jJ hb;have HB:=jJ hb2;have hV:nval (trim l)+nval (trim l2)=nval l+nval l2:=zZ;have HV:=jJ hV;clear h h2 hb hb2 hv hv2 hM hV;go_enter func123,ntmps123
  go_wp2_with (first|(go_at_call_of 136 (Value.slice a n c);refine (dS HH.o).mono ?_;rintro e w' ⟨rfl,rfl⟩)|(go_at_call_of 136 (Value.slice a2 n2 c2);refine (dS HH2.o).mono ?_;rintro e w' ⟨rfl,rfl⟩)|(at_make;refine wpList_make_row _ rfl _ _ 23 rfl 112 i0 (.int .u32 0) underlying23 hi hz0 hz1 rfl .i64 .i64 _ _ (top l+1) rfl rfl zZ zZ (by rw [hz2];omega) zZ ?_;intro w1 hrow hk1 hsz1;have HR:=jJ (aI3 hrow hk1 hsz1);clear hrow hk1 hsz1))
  go_loopw [6,26] (fun s i wr=>∃k:Nat,k≤top l∧i=.int .i64 k∧s=.int .u64 ((fB (trim l) (trim l2) k).2:Int)∧aF wr w.heap.size 112 (eX (fB (trim l) (trim l2) k).1++zeros (top l+1-k) (.int .u32 0))∧aA Nil w wr) (fun _ i _=>top l-(intOf i).toNat)
  case atStart=>exact⟨0,aZ2 _,rfl,rfl,HR.o.1,HR.o.2.1⟩
  case round=>
   obtain ⟨k,hk,rfl,rfl,hrow,hkk⟩:=hrel;obtain ⟨q1,q2,q3,q4⟩:=GU HA.o.lt HB.o.lt k;have hg:=hrow.lt;by_cases hlk:k<top l
   ·obtain ⟨b,off,hbe,hb0,_,p0⟩:=(HA.o.eO hkk).cell hlk;have la:=HA.o.jB k;have hlen:(eX (fB (trim l) (trim l2) k).1++zeros (top l+1-k) (.int .u32 0)).length=top l+1:=by simp [eX,zeros,q1];omega
    have c0:=hrow.cell k;have f0:=hrow.frozen k;rw [List.getElem?_append_right vE,dV,q1,Nat.sub_self,show top l+1-k=top l-k+1 by omega] at c0;rw [show zeros (top l-k+1) (.int .u32 0)=.int .u32 0::zeros (top l-k) (.int .u32 0) from rfl] at c0;have c1:wr.cell? ⟨w.heap.size,k,none⟩=some (.int .u32 0):=by simpa using c0
    clear c0;subst hbe;have e1:(fB (trim l) (trim l2) (k+1)).2=((fB (trim l) (trim l2) k).2+lim (trim l) k+lim (trim l2) k) / Bs:=rfl;have e2:(fB (trim l) (trim l2) (k+1)).1=(fB (trim l) (trim l2) k).1++[((fB (trim l) (trim l2) k).2+lim (trim l) k+lim (trim l2) k) % Bs]:=rfl;have HE:=jJ (aI e1 e2);have HROW:=jJ hrow;have HK:=jJ hkk;have HQ:=jJ (aI3 q1 q2 q4);clear e1 e2 hrow hkk q1 q2 q4;by_cases hyk:k<top l2
    ·obtain ⟨b2,off2,hbe2,hb2,_,p1⟩:=(HB.o.eO HK.o).cell hyk;have lb:=HB.o.jB k;subst hbe2;generalize hcc:(fB (trim l) (trim l2) k).2=cc at *
     generalize hla:lim (trim l) k=x at *
     generalize hlb:lim (trim l2) k=y at *
     have HG:=jJ (aI3 hcc hla hlb);clear hcc hla hlb;go_wp2_with fail
     go_roundw
     case rel=>exact oZ
     case measure=>exact zI
    ·have hz:=FK (l:=trim l2) (i:=k) uR;generalize hcc:(fB (trim l) (trim l2) k).2=cc at *
     generalize hla:lim (trim l) k=x at *
     have HG:=jJ (aI3 hcc hla hz);clear hcc hla hz;go_wp2_with fail
     go_roundw
     case rel=>exact oV
     case measure=>exact zI
   ·obtain rfl:k=top l:=zZ;have hlen:(eX (fB (trim l) (trim l2) (top l)).1++zeros (top l+1-top l) (.int .u32 0)).length=top l+1:=by simp [eX,zeros,q1]
    have c0:=hrow.cell (top l);have f0:=hrow.frozen (top l);rw [List.getElem?_append_right vE,dV,q1,Nat.sub_self,show top l+1-top l=1 by omega] at c0;have c1:wr.cell? ⟨w.heap.size,top l,none⟩=some (.int .u32 0):=pS;clear c0;rw [eZ1 (by rw [HA.o.len];exact bZ2 _),eZ1 uR,HV.o] at q4;generalize hcc:(fB (trim l) (trim l2) (top l)).2=cc at *
    generalize hoo:(fB (trim l) (trim l2) (top l)).1=o at *
    have hrow2:=PU (x:=cc) (m:=0) (v:=.int .u32 (cc:Int)) hrow q1 zZ rfl;rw [show zeros 0 (Value.int .u32 0)=[] from rfl,fZ2] at hrow2;have hL:=aU.ofRow hrow2 (CB q2 zZ) (M:=Nil) (fun h=>h.elim) (by simp [q1];omega);rw [aZ1,List.length_singleton,q1] at hL;have hval:nval (o++[cc])=nval l+nval l2:=by rw [CK,q1];exact q4
    have hk2:aA Nil w (wr.setCell ⟨w.heap.size,top l,none⟩ (.int .u32 (cc:Int))):=hkk.setCell (p:=⟨w.heap.size,top l,none⟩) (.inr (bZ2 _)) _;have HX:=jJ (aI3 hL hval hk2);have hcm:(cc:Int) % 4294967296=cc:=zZ;clear hL hval hk2 hrow2 hrow hkk q1 q2 q4 hcc hoo hlen;go_wp2_with (go_at_call 133;refine (AL (M:=M) (HM.o.keep HX.o.2.2) HX.o.1 zZ).mono ?_;rintro e w' ⟨a',c',rfl,h',hk'⟩)
    go_ret
    rw [mQ HX.o.1.lt,iN HX.o.1.lt,HX.o.2.1] at h';rw [iN HX.o.1.lt,HX.o.2.1];exact⟨_,_,rfl,h',HX.o.2.2.trans hk'⟩
theorem EN {w:World} {g:Nat} {E:TypeId} {o t:List Nat} {k x y:Nat} {rest:List Value} {v:Value} (h:aF w g E (eX o++(eX (y::t)++rest))) (hk:o.length=k) (hv:v=u32 x) :
  aF (w.setCell ⟨g,k,none⟩ v) g E (eX (o++[x])++(eX t++rest)):=by
 subst hk hv;have:=h.set o.length (u32 x);rw [List.set_append_right _ _ (by simp [eX]),dV,Nat.sub_self] at this;simpa [eX] using this
theorem aU.bBT {w:World} {base:Nat} {E:TypeId} {a:Option Addr} {n c:Nat} {l:List Nat} (h:w.ownsRow base E 1 (.slice a n c) n (eX l)) (hl:∀x∈l,x<4294967296) {M:Nat→Prop} (hM:∀b,M b→b<base):aU M w a n c l:=by
 obtain ⟨a',c',e,hL⟩:=aU.owned (l:=l) h hl hM;cases e;exact hL
theorem aJO {l l2:List Nat} (hs:Small l) (hs2:Small l2) (hle:nval l2≤nval l):nval (fA (trim l) (trim l2) (top l)).1=nval l-nval l2:=by
 have h:=(aZE (a:=trim l) (b:=trim l2) hs.trim hs2.trim (by rw [dG,dG,iN hs,iN hs2];exact lQ hle) (by rw [dC,dC];exact hle)).2;rwa [dG,dC,dC] at h
section
variable {a2 a:Option Addr} {w:World} {l l2:List Nat} {M:Nat→Prop} {n2 c2 n c:Nat} {rest:List Value}
theorem take_nil :
  Calls prog 175 #[.slice none 0 0,.slice a2 n2 c2] w fun e w'=>e=.returned (.tuple #[])∧w=w':=by
 go_enter func175,ntmps175
 go_wp2
 go_loop [9] (fun s=>s=.int .i64 0) (fun _=>0)
 case atStart=>rfl
 case round=>
  subst hrel;go_wp2
  go_end0
  exact⟨rfl,rfl⟩
theorem aWI {g:Nat} (h:aF w g 112 (eX l++rest)) (hn:l.length=n) (hs:Small l) (hc:n≤9223372036854775807) (h2:aU (One g) w a2 n2 c2 l2) :
  Calls prog 175 #[.slice (some ⟨g,0,none⟩) n c,.slice a2 n2 c2] w fun e w'=>e=.returned (.tuple #[])∧aF w' g 112 (eX (fA l l2 n).1++rest)∧aA (One g) w w':=by
 have HR:=jJ h;have HB:=jJ h2;have hc2:=h2.sl.cap;have hle2:=h2.sl.le;clear h h2;go_enter func175,ntmps175
 go_wp2
 go_loopw [4,9] (fun s i wr=>∃k:Nat,k≤n∧i=.int .i64 k∧s=.int .u32 ((fA l l2 k).2:Int)∧aF wr g 112 (eX (fA l l2 k).1++(eX (l.drop k)++rest))∧aA (One g) w wr) (fun _ i _=>n-(intOf i).toNat)
 case atStart=>exact⟨0,aZ2 _,rfl,rfl,HR.o,aA.refl _ _⟩
 case round=>
  obtain ⟨k,hk,rfl,rfl,hrow,hkk⟩:=hrel;obtain ⟨q1,q2,q3,q4⟩:=BG hs HB.o.lt k;have hg:=hrow.lt;by_cases hlk:k<n
  ·have la:=bX hs k;have hdrop:l.drop k=lim l k::l.drop (k+1):=uM;rw [hdrop] at hrow;have c0:=hrow.cell k;have f0:=hrow.frozen k;rw [List.getElem?_append_right vE,dV,q1,Nat.sub_self] at c0;have c1:wr.cell? ⟨g,k,none⟩=some (.int .u32 (lim l k:Int)):=by simpa [eX,Go.Proofs.Q.u32] using c0
   clear c0;have e1:(fA l l2 (k+1)).2=1-(lim l k+Bs-lim l2 k-(fA l l2 k).2) / Bs:=rfl;have e2:(fA l l2 (k+1)).1=(fA l l2 k).1++[(lim l k+Bs-lim l2 k-(fA l l2 k).2) % Bs]:=rfl;rw [cY] at e1 e2;have HE:=jJ (aI e1 e2);have HROW:=jJ hrow;have HK:=jJ hkk;have HQ:=jJ (aI3 q1 q2 q4);have HS:=jJ hs;clear e1 e2 hrow hkk q1 q2 q4 hs hdrop;by_cases hyk:k<n2
   ·obtain ⟨b2,off2,hbe2,hb2,hng,p1⟩:=(HB.o.keep' HK.o).cell hyk;have lb:=HB.o.jB k;subst hbe2;generalize hcc:(fA l l2 k).2=cc at *
    generalize hla:lim l k=x at *
    generalize hlb:lim l2 k=y at *
    have HG:=jJ (aI3 hcc hla hlb);clear hcc hla hlb;go_wp2_with (go_at_call 187;refine (OE x y cc la lb q3 _).mono ?_;rintro e w' ⟨rfl,rfl⟩)
    go_roundw
    case rel=>exact⟨k+1,zZ,zF,congrArg (Value.int .u32) (by rw [HE.o.1]),by rw [HE.o.2];exact EN HROW.o HQ.o.1 (congrArg (Value.int .u32) zZ),HK.o.setCell (p:=⟨g,k,none⟩) (.inl rfl) _⟩
    case measure=>exact zI
   ·have hz:=FK (l:=l2) (i:=k) uR;generalize hcc:(fA l l2 k).2=cc at *
    generalize hla:lim l k=x at *
    have HG:=jJ (aI3 hcc hla hz);clear hcc hla hz;go_wp2_with (go_at_call 187;refine (OE x 0 cc la zY q3 _).mono ?_;rintro e w' ⟨rfl,rfl⟩)
    go_roundw
    case rel=>exact⟨k+1,zZ,zF,congrArg (Value.int .u32) (by rw [HE.o.1,HG.o.2.2];rfl),by rw [HE.o.2,HG.o.2.2];exact EN HROW.o HQ.o.1 (congrArg (Value.int .u32) zZ),HK.o.setCell (p:=⟨g,k,none⟩) (.inl rfl) _⟩
    case measure=>exact zI
  ·obtain rfl:k=n:=zZ;rw [List.drop_eq_nil_of_le zZ] at hrow;have HX:=jJ (aI hrow hkk);clear hrow hkk q1 q2 q4;go_wp2
   go_end0
   exact⟨rfl,HX.o.1,HX.o.2⟩
theorem aXN {base:Nat} (h:w.ownsRow base 112 1 (.slice a n c) n (eX l)) (hs:Small l) (h2:aU (fun b=>base≤b) w a2 n2 c2 l2) :
  Calls prog 175 #[.slice a n c,.slice a2 n2 c2] w fun e w'=>e=.returned (.tuple #[])∧w'.ownsRow base 112 1 (.slice a n c) n (eX (fA l l2 n).1)∧aA (fun b=>base≤b) w w':=by
 have hn:l.length=n:=by have:=h.1;simpa [eX] using this
 have hq:=BG hs h2.lt n;rcases h.2 with ⟨e,rfl⟩|⟨g,cap,cur,e,hb,hg,hnc,hcm,hcs,htake⟩
 ·cases e
  refine take_nil.mono ?_;rintro e w' ⟨rfl,rfl⟩;exact⟨rfl,⟨by simp [eX,fA],.inl ⟨rfl,rfl⟩⟩,aA.refl _ _⟩
 ·cases e
  have hrow:aF w g 112 (eX l++cur.toList.drop n):=by
   show w.heap[g]?=_
   rw [hg,←htake,Nat.mul_one,aZ3]
  refine (aWI hrow hn hs wU (h2.turn (M':=One g) (fun b _ hb'=>by cases hb';exact hb))).mono ?_;rintro e w' ⟨rfl,hr,hk⟩;refine ⟨rfl,⟨by simp [eX,hq.1],.inr ⟨g,c,_,rfl,hb,hr.out,hnc,hcm,?_,?_⟩⟩,hk.mono fun k hk'=>by cases hk';exact hb⟩
  ·have:cur.toList.length=c:=by simpa using hcs
   simp [eX,hq.1];omega
  ·rw [Nat.mul_one];have:(eX (fA l l2 n).1).length=n:=by simp [eX,hq.1]
   simp [this]
theorem aYI (h:aU M w a n c l) (hr:n*4≤140737488355328) :
  Calls prog 133 #[.slice a n c] w fun e w'=>∃a' c',e=.returned (.slice a' (top l) c')∧w'.ownsRow w.heap.size 112 1 (.slice a' (top l) c') (top l) (eX (trim l))∧aA Nil w w':=by
 refine (aJI h hr).mono ?_;rintro e w' ⟨v,rfl,ho,hk⟩;rcases ho.2 with ⟨rfl,h0⟩|⟨g,cap,cur,rfl,_⟩
 ·exact⟨none,0,by rw [h0],by rw [h0] at ho⊢;exact ho,hk⟩
 ·exact⟨_,_,rfl,ho,hk⟩
theorem aJW (hM:MB M w) (h:aU Nil w a n c l) (h2:aU Nil w a2 n2 c2 l2)
  (hr:n*4≤140737488355328) (hle:nval l2≤nval l) :
  Calls prog 124 #[.slice a n c,.slice a2 n2 c2] w fun e w'=>∃a' c',e=.returned (.tuple #[.slice a' (eP (nval l-nval l2)) c',.int .i64 0])∧aU M w' a' (eP (nval l-nval l2)) c' (bH (nval l-nval l2))∧aA Nil w w':=by
 have HH:=jJ h;have HH2:=jJ h2;have HM:=jJ hM;have hcm:¬jK (nval l) (nval l2)<0:=vJ;clear h h2 hM;go_enter func124,ntmps124
 go_wp2_with (first|(go_at_call 105;refine (LB HH.o HH2.o).mono ?_;rintro e w1 ⟨rfl,hk1⟩;have HK1:=jJ hk1;clear hk1)|(go_at_call_of 133 (Value.slice a n c);refine (aYI (HH.o.eO HK1.o) hr).mono ?_;rintro e w2 ⟨b2,d2,rfl,ho2,hk2⟩;have HK2:=jJ (aI ho2 hk2);clear ho2 hk2)|(go_at_call 136;refine (dS ((HH2.o.eO HK1.o).eO HK2.o.2)).mono ?_;rintro e w' ⟨rfl,rfl⟩)|(go_at_call 175;refine (aXN HK2.o.1 HH.o.bare.lt (((HH2.o.eO HK1.o).bare.move (M2:=fun b=>w1.heap.size≤b) HK2.o.2 (fun _ _ h=>h.elim) (fun b hb hb'=>absurd hb zZ)))).mono ?_;rintro e w3 ⟨rfl,ho3,hk3⟩;have HK3:=jJ (aI ho3 hk3);clear ho3 hk3)|(go_at_call_of 133 (Value.slice b2 (top l) d2);refine (AL (M:=M) (((HM.o.keep HK1.o).keep HK2.o.2).keep HK3.o.2) (aU.bBT (M:=Nil) HK3.o.1 (BG HH.o.bare.lt HH2.o.bare.lt (top l)).2.1 (fun b h=>h.elim)) (by have:=HH.o.bare.len;have:=HH.o.len;have:=QS l;omega)).mono ?_;rintro e w4 ⟨a4,c4,rfl,h4,hk4⟩))
 go_ret2
 have hsm:Small (fA (trim l) (trim l2) (top l)).1:=(BG HH.o.bare.lt HH2.o.bare.lt (top l)).2.1;rw [mQ hsm,iN hsm,aJO HH.o.lt HH2.o.lt hle] at h4;rw [iN hsm,aJO HH.o.lt HH2.o.lt hle];exact⟨_,_,rfl,h4,((HK1.o.trans HK2.o.2).trans' HK3.o.2 (fun k hk=>.inr (by have:=HK1.o.size;omega))).trans hk4⟩
end
theorem beside (r x:Nat) (hr:r<4294967296) (hx:x<4294967296):bits .or .u64 ((r:Int)*4294967296) (x:Int)=((r*4294967296+x:Nat):Int):=by
 have e:((r:Int)*4294967296)=((r*4294967296:Nat):Int):=zZ;rw [e,bits_or_u64_nat _ _ zZ zZ];congr 1;have:=Nat.shiftLeft_add_eq_or_of_lt (i:=32) (b:=x) zZ r;rw [Nat.shiftLeft_eq] at this;exact this.symm
theorem aZT (r x d:Nat) (hr:r<d) (hx:x<4294967296):(((r:Int)*4294967296+x) / d % 4294967296)=(((r*4294967296+x) / d:Nat):Int):=by
 have e:((r:Int)*4294967296+x)=((r*4294967296+x:Nat):Int):=zZ;have h:(r*4294967296+x) / d<4294967296:=by
  rw [Nat.div_lt_iff_lt_mul zZ];have:(r+1)*4294967296≤d*4294967296:=Nat.mul_le_mul_right _ hr;rw [Nat.mul_comm 4294967296 d];omega
 rw [e,←Int.natCast_ediv];exact Int.emod_eq_of_lt (Int.natCast_nonneg _) (Int.ofNat_lt.2 h)
theorem bBF (r x d:Nat):(((r:Int)*4294967296+x) % d)=(((r*4294967296+x) % d:Nat):Int):=by
 have e:((r:Int)*4294967296+x)=((r*4294967296+x:Nat):Int):=zZ;rw [e,←Int.natCast_emod]
theorem aIE {w:World} {g:Nat} {E:TypeId} {k x:Nat} {rest:List Value} {v:Value} (h:aF w g E (zeros (k+1) (.int .u32 0)++rest)) (hv:v=u32 x) :
  aF (w.setCell ⟨g,k,none⟩ v) g E (zeros k (.int .u32 0)++(u32 x::rest)):=by
 subst hv;have:=h.set k (u32 x);rw [show zeros (k+1) (Value.int .u32 0)=zeros k (.int .u32 0)++[.int .u32 0] from List.replicate_succ',mZ2,List.set_append_right _ _ pP,aNI,Nat.sub_self] at this;simpa using this
theorem aTW {M:Nat→Prop} {a:Option Addr} {n c d:Nat} {l:List Nat} {w:World} (hM:MB M w) (h:aU Nil w a n c l) (hr:n*4≤140737488355328) (hd:0<d) (hd2:d<4294967296) :
  Calls prog 137 #[.slice a n c,.int .u32 (d:Int)] w fun e w'=>∃a' c',e=.returned (.tuple #[.slice a' (eP (nval l / d)) c',.int .u32 ((nval l % d:Nat):Int)])∧aU M w' a' (eP (nval l / d)) c' (bH (nval l / d))∧aA Nil w w':=by
 obtain ⟨i0,hi,hz0,hz1,hz2⟩:=info_parts EO;have HH:=jJ h;have HM:=jJ hM;have hcap:=h.sl.cap;have hle:=h.sl.le;have hs:=h.lt;have hln:=h.len;clear h hM;go_enter func137,ntmps137
 go_wp2_with (at_make;refine wpList_make_row _ rfl _ _ 23 rfl 112 i0 (.int .u32 0) underlying23 hi hz0 hz1 rfl .i64 .i64 _ _ n rfl rfl rfl rfl (by rw [hz2];omega) zZ ?_;intro w1 hrow hk1 hsz1;have HR:=jJ (aI3 hrow hk1 hsz1);clear hrow hk1 hsz1)
 go_loopw [7,8] (fun s i wr=>∃k:Nat,k≤n∧i=.int .i64 ((k:Int)-1)∧s=.int .u64 ((gV l d (n-k)).2:Int)∧aF wr w.heap.size 112 (zeros k (.int .u32 0)++eX (gV l d (n-k)).1)∧aA Nil w wr) (fun _ i _=>(intOf i+1).toNat)
 case atStart=>exact⟨n,bZ2 _,zF,by rw [Nat.sub_self];rfl,by rw [Nat.sub_self];simpa [gV,eX] using HR.o.1,HR.o.2.1⟩
 case round=>
  obtain ⟨k,hk,rfl,rfl,hrow,hkk⟩:=hrel;obtain ⟨q1,q2,q3,q4⟩:=VT hs hd hd2 (n-k) zZ;have hg:=hrow.lt;cases k with
  | zero=>
   rw [show (((0:Nat):Int)-1)=-1 from rfl];rw [Nat.sub_zero] at hrow q1 q2 q3 q4⊢;rw [show zeros 0 (Value.int .u32 0)=[] from rfl,iZ3] at hrow;have hL:=aU.ofRow hrow q2 (M:=Nil) (fun h=>h.elim) (by rw [q1];omega);rw [q1] at hL;obtain ⟨v1,v2⟩:=aXV hs hd hd2;rw [hln] at v1 v2;have HX:=jJ (aI4 hL v1 v2 hkk);have hrl:(((gV l d n).2:Int)) % 4294967296=((gV l d n).2:Int):=zZ;clear hL hrow hkk v1 v2 q1 q2 q4 hs;go_wp2_with (go_at_call 133;refine (AL (M:=M) (HM.o.keep HX.o.2.2.2) HX.o.1 hr).mono ?_;rintro e w' ⟨a',c',rfl,h',hk'⟩)
   go_ret2
   rw [mQ HX.o.1.lt,iN HX.o.1.lt,HX.o.2.1] at h';rw [iN HX.o.1.lt,HX.o.2.1,←HX.o.2.2.1];exact⟨_,_,rfl,h',HX.o.2.2.2.trans hk'⟩
  | succ k=>
   rw [show (((k+1:Nat):Int)-1)=(k:Int) by omega];obtain ⟨b,off,hbe,hb0,_,p0⟩:=(HH.o.eO hkk).cell (k:=k) zZ;have la:=HH.o.jB k;have c0:=hrow.cell k;have f0:=hrow.frozen k;rw [List.getElem?_append_left pP] at c0;have c1:wr.cell? ⟨w.heap.size,k,none⟩=some (.int .u32 0):=pS;clear c0;subst hbe;have e0:n-k=n-(k+1)+1:=zZ;have e1:(gV l d (n-k)).2=((gV l d (n-(k+1))).2*Bs+lim l k) % d:=sZ;have e2:(gV l d (n-k)).1=((gV l d (n-(k+1))).2*Bs+lim l k) / d::(gV l d (n-(k+1))).1:=sZ;rw [cY] at e1 e2;have hbe:=beside (gV l d (n-(k+1))).2 (lim l k) zZ la;have HE:=jJ (aI e1 e2);have HROW:=jJ hrow;have HK:=jJ hkk;have HQ:=jJ (aI3 q1 q2 q4);have HS:=jJ (aI hs hln);clear e0 e1 e2 hrow hkk q1 q2 q4 hs hln;generalize hcc:(gV l d (n-(k+1))).2=r at *
   generalize hla:lim l k=x at *
   have HG:=jJ (aI hcc hla);have hdd:¬(d:Int)=0:=zZ;clear hcc hla;go_wp2_with fail
   go_roundw
   case rel=>exact⟨k,zZ,rfl,congrArg (Value.int .u64) (by rw [HE.o.1];exact bBF r x d),by rw [HE.o.2];exact aIE HROW.o (congrArg (Value.int .u32) (aZT r x d q3 la)),HK.o.setCell (p:=⟨w.heap.size,k,none⟩) (.inr (bZ2 _)) _⟩
   case measure=>simp [intOf]
theorem aZJ {l:List Nat} (h:l.length=1):nval l=lim l 0:=by
 match l,h with
 | [x],_=>simp [nval,lim]
theorem aPB {M:Nat→Prop} {a a2:Option Addr} {n c n2 c2:Nat} {l l2:List Nat} {w:World} (hM:MB M w) (h:aU Nil w a n c l) (h2:aU Nil w a2 n2 c2 l2) (hr:n*4≤140737488355328) (h1:top l2=1) :
  Calls prog 100 #[.slice a n c,.slice a2 n2 c2] w fun e w'=>∃a' c' a4 c4,e=.returned (.tuple #[.slice a' (eP (nval l / nval l2)) c',.slice a4 (eP (nval l % nval l2)) c4,.int .i64 0]) ∧
   aU M w' a' (eP (nval l / nval l2)) c' (bH (nval l / nval l2))∧aU M w' a4 (eP (nval l % nval l2)) c4 (bH (nval l % nval l2))∧aA Nil w w':=by
 have hb:=h.bare;have hb2:=h2.bare;have hv:=dC l;have hv2:=dC l2;have hd:nval l2=lim (trim l2) 0:=by rw [←hv2];exact aZJ (by rw [hb2.len,h1])
 have hd0:0<nval l2:=by
  have:=EL l2;rcases this with h0|h0
  ·have:=hb2.len;rw [h0,h1] at this;simp at this
  ·rw [hb2.len,h1] at h0;have h0':lim (trim l2) 0≠0:=h0;omega
 have hd1:nval l2<4294967296:=by rw [hd];exact hb2.jB 0
 obtain ⟨b,off,hbe,hbl,_,p0⟩:=hb2.cell (k:=0) zZ;rw [←hd,Nat.add_zero] at p0;have htn:top l≤n:=xI;have hmod:nval l % nval l2<18446744073709551616:=by have:=Nat.mod_lt (nval l) hd0;omega
 subst hbe;have HH:=jJ h;have HH2:=jJ h2;have HB:=jJ hb;have HM:=jJ hM;have HV:=jJ (aI3 hv hd0 hd1);obtain ⟨m,hm⟩:∃m,m=nval (trim l) % nval l2:=⟨_,rfl⟩;have hm':m<18446744073709551616:=by rw [hm,hv];exact hmod
 have HMOD:=jJ (aI hm hm');have hm32:m<4294967296:=by have:=Nat.mod_lt (nval l) hd0;rw [hm,hv];omega
 clear hm hm';clear h h2 hb hb2 hM hv hv2 hd hd0 hd1 hmod;go_enter func100,ntmps100
 go_wp2_with (first|(go_at_call_of 136 (Value.slice a n c);refine (dS HH.o).mono ?_;rintro e w' ⟨rfl,rfl⟩)|(go_at_call_of 136 (Value.slice (some ⟨b,off,none⟩) n2 c2);refine (dS HH2.o).mono ?_;rintro e w' ⟨rfl,rfl⟩;rw [h1])|(go_at_call 137;refine (aTW (M:=M) HM.o HB.o zZ HV.o.2.1 HV.o.2.2).mono ?_;rintro e w1 ⟨a',c',rfl,h',hk'⟩;have HS:=jJ (aI h' hk');clear h' hk';rw [←HMOD.o.1])|(go_at_call 93;refine (XU (M:=M) (HM.o.keep HS.o.2) HMOD.o.2).mono ?_;rintro e w2 ⟨a4,c4,rfl,h4,hk4⟩;have HO:=jJ (aI h4 hk4);clear h4 hk4))
 go_ret3
 have h':=HS.o.1;have h4:=HO.o.1;rw [HMOD.o.1,HV.o.1] at h4;rw [HV.o.1] at h';rw [HMOD.o.1,HV.o.1];exact⟨_,_,_,_,rfl,h'.eO HO.o.2,h4,HS.o.2.trans HO.o.2⟩
end Go.Proofs.Q
