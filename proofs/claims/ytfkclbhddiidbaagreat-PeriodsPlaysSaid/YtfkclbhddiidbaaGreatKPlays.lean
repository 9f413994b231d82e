/- What PeriodsPlays does: all wanted sets by the program and by the document's answer, side by side; true. Conditions: recipe and points read. -/
import Derived.Test.YtfkclbhddiidbaaGreatKIs
import Derived.Test.YtfkclbhddiidbaaGreatKPMakes
import Derived.Test.YtfkclbhddiidbaaGreatKPSame
import Derived.Test.YtfkclbhddiidbaaGreatKRSame
namespace Go.Proofs.YtfkclbhddiidbaaGreat
open Go.RowKit Go.Rid
theorem SameRet.as {w w' : World} {S O : PSet} {e : Ending} {b0 : Bool} (hb : b0 = true ↔ ∀ x, has S x = has O x) (h : SameRet w S O e w') : e = .returned (.bool b0) ∧ Keeps Nil w w' := by
  obtain ⟨b, he, hb', hk⟩ := h
  have : b = b0 := by
    cases b <;> cases b0 <;> simp_all
  subst this
  exact ⟨he, hk⟩
theorem one_none {p : Nat} {S : PSet} {w : World} (hs : SetAt Nil w p S) (hf : Fine S) : ∀ q, some q ∈ [some p, none] → ∃ S, SetAt Nil w q S ∧ Fine S := by
  intro q hq
  simp only [List.mem_cons, Option.some.injEq, reduceCtorEq, List.not_mem_nil, or_false] at hq
  subst hq
  exact ⟨S, hs, hf⟩
theorem meet_nil {p : Nat} {S : PSet} {w : World} (hs : SetAt Nil w p S) (hf : Fine S) :
    Calls Tryz.prog 13 #[.pointer (some ⟨p, 0, none⟩), .pointer none] w fun e w' => e = .returned (.tuple #[.pointer none, .int .i64 1]) ∧ Keeps Nil w w' :=
  meet_no (q := some p) (q2 := none) (one_none hs hf) rfl
theorem join_nil {p : Nat} {S : PSet} {w : World} (hs : SetAt Nil w p S) (hf : Fine S) :
    Calls Tryz.prog 14 #[.pointer (some ⟨p, 0, none⟩), .pointer none] w fun e w' => e = .returned (.tuple #[.pointer none, .int .i64 1]) ∧ Keeps Nil w w' :=
  join_no (q := some p) (q2 := none) (one_none hs hf) rfl
theorem same_nil {p : Nat} {S : PSet} {w : World} (hs : SetAt Nil w p S) (hf : Fine S) :
    Calls Tryz.prog 11 #[.pointer (some ⟨p, 0, none⟩), .pointer none] w fun e w' => e = .returned (.bool false) ∧ Keeps Nil w w' :=
  same_no (q := some p) (q2 := none) (one_none hs hf) rfl
/-- Both lists, side by side. -/
def Two (w wr : World) (va vw : Value) (els els2 : List (List Value)) (out : List PSet) : Prop :=
  Grown RSet noneSet 25 1 (Own vw) wr w.heap.size va els out ∧ Grown RSV noneSet 30 3 (Own va) wr w.heap.size vw els2 out
theorem Two.keepNil {w wr wx : World} {va vw : Value} {els els2 : List (List Value)} {out : List PSet} (h : Two w wr va vw els els2 out) (k : Keeps Nil wr wx) : Two w wx va vw els els2 out := ⟨h.1.keepNil RSet.moves k, h.2.keepNil RSV.moves k⟩
theorem Two.apart {w wr : World} {va vw : Value} {els els2 : List (List Value)} {out : List PSet} (h : Two w wr va vw els els2 out) : ∀ b, va.ownBlock = some b → vw.ownBlock ≠ some b :=
  OwnEls.ty2 h.1.own h.2.own (by decide)
theorem Two.apart' {w wr : World} {va vw : Value} {els els2 : List (List Value)} {out : List PSet} (h : Two w wr va vw els els2 out) : ∀ b, vw.ownBlock = some b → va.ownBlock ≠ some b :=
  OwnEls.ty2 h.2.own h.1.own (by decide)
set_option maxHeartbeats 8000000 in
set_option maxRecDepth 100000 in
theorem PeriodsPlays_walk (w : World) {a : Option Addr} {n c : Nat} {l : List Mk} {ap : Option Addr} {np cp : Nat} {xs : List Int} (h : Makes Nil w a n c l) (hn : n * 88 ≤ 140737488355328) (hx : SlOf Nil w 2 (RNum Nil w) 0 ap np cp xs) (hn2 : np * 32 ≤ 140737488355328) :
    Calls Tryz.prog 3 #[.slice a n c, .slice ap np cp] w fun e w' => e = .returned (.bool true) ∧ Keeps Nil w w' := by
  obtain ⟨it1, hi1⟩ := info_parts info_setp
  obtain ⟨it2, hi2⟩ := info_parts info_rset
  have hroom := roomy_cuts h.fit
  have hlen : l.length = n := SlOf.len h
  have hcap := SlOf.cap h
  have hle := SlOf.le h
  have HI := Lib.hid (And.intro hi1 (And.intro hroom (And.intro hlen hi2)))
  have HL := Lib.hid (And.intro h hx)
  clear hi1 hi2 h hroom hlen hx hn hn2
  go_enter Tryz.func3, Tryz.ntmps3
  go_upto_region 4 with (first | (go_at_call 5; refine known_any.mono ?_; rintro e wk ⟨rfl, hkk⟩) | (go_at_call 6; refine (none_any (M := Nil) (MB.nil _)).mono ?_; rintro e w1 ⟨p, rfl, hs, hk1⟩))
  have hk2 : Keeps Nil w (w1.alloc (.cells #[.pointer (some ⟨p, 0, none⟩)] 25)) := (by repeat (first | exact Keeps.refl _ _ | assumption | refine Keeps.drew ?_ | refine Keeps.drewN ?_ _ | refine Keeps.alloc ?_ _ | exact Keeps.of_nil (by assumption) | refine Keeps.trans ?_ (Keeps.of_nil (by assumption)) | refine Keeps.setCell ?_ (.inr (by first | exact Nat.le_refl _ | (dsimp only; omega))) _ | refine Keeps.setCell ?_ (.inl (by first | (unfold Old; dsimp only; omega) | (unfold Old; simp; omega) | (unfold Old; simp))) _))
  have hkw1 : Keeps Nil w w1 := hkk.trans hk1
  have r0 := RowIs.alloc (w := w1) (E := 25) (xs := [.pointer (some ⟨p, 0, none⟩)])
  change RowIs (w1.alloc (.cells #[.pointer (some ⟨p, 0, none⟩)] 25)) _ _ _ at r0
  obtain ⟨va, hva⟩ : ∃ va : Value, va = .slice (some ⟨w1.heap.size, 0, none⟩) 1 1 := ⟨_, rfl⟩
  have hg : Grown RSet noneSet 25 1 (Own (.slice none 0 0)) (w1.alloc (.cells #[.pointer (some ⟨p, 0, none⟩)] 25)) w.heap.size (.slice (some ⟨w1.heap.size, 0, none⟩) 1 1) [[.pointer (some ⟨p, 0, none⟩)]] [noneSet] := by
    refine ⟨OwnEls.ofRow1 r0 hkw1.size, rfl, fun i hi => ?_⟩
    obtain rfl : i = 0 := by simpa using hi
    refine ⟨p, rfl, hs.move (M' := Nil) (by repeat (first | exact Keeps.refl _ _ | refine Keeps.drew ?_ | refine Keeps.drewN ?_ _ | refine Keeps.alloc ?_ _)) (fun _ _ h => h.elim) fun b hb hm => ?_⟩
    rcases hm with hm | hm
    · simp [Own, Value.ownBlock] at hm
    · simp [Value.ownBlock] at hm; omega
  generalize w1.alloc (.cells #[.pointer (some ⟨p, 0, none⟩)] 25) = w2 at *
  have HG := Lib.hid (And.intro hg hk2)
  clear hg hk2 r0 hs hk1 hkk hkw1
  go_upto_region 5 with (go_at_call 7; refine (refnone_any (M := Own (.slice (some ⟨w1.heap.size, 0, none⟩) 1 1)) (fun b hb => (HG.out.1.own.lt b hb).2)).mono ?_; rintro e w3 ⟨ac, nc, cc, ar, nr, cr, rfl, hs, hk3⟩)
  have hka : Keeps Nil w w3 := HG.out.2.trans hk3
  have hk4 : Keeps Nil w3 (w3.alloc (.cells #[.int .i64 (noneSet.P : Int), .slice ac nc cc, .slice ar nr cr] 30)) := (by repeat (first | exact Keeps.refl _ _ | refine Keeps.drew ?_ | refine Keeps.drewN ?_ _ | refine Keeps.alloc ?_ _))
  have r0 := RowIs.alloc (w := w3) (E := 30) (xs := [.int .i64 (noneSet.P : Int), .slice ac nc cc, .slice ar nr cr])
  change RowIs (w3.alloc (.cells #[.int .i64 (noneSet.P : Int), .slice ac nc cc, .slice ar nr cr] 30)) _ _ _ at r0
  have h2 : Two w (w3.alloc (.cells #[.int .i64 (noneSet.P : Int), .slice ac nc cc, .slice ar nr cr] 30)) (.slice (some ⟨w1.heap.size, 0, none⟩) 1 1) (.slice (some ⟨w3.heap.size, 0, none⟩) 1 1) [[.pointer (some ⟨p, 0, none⟩)]] [[.int .i64 (noneSet.P : Int), .slice ac nc cc, .slice ar nr cr]] [noneSet] := by
    have hl := (HG.out.1.own.lt _ rfl).2
    refine ⟨Grown.beside RSet.moves (HG.out.1.keepNil RSet.moves hk3) (hk4.of_nil) (fun b hb => .inr ?_) (fun b _ => by simp [Value.ownBlock]), OwnEls.ofRow3 r0 hka.size, rfl, fun i hi => ?_⟩
    · simp [Value.ownBlock] at hb; omega
    · obtain rfl : i = 0 := by simpa using hi
      refine ⟨ac, nc, cc, ar, nr, cr, rfl, hs.move (M' := Nil) hk4 (fun _ _ h => h.elim) fun b hb hm => ?_⟩
      rcases hm with hm | hm
      · exact hm
      · simp [Value.ownBlock] at hm; omega
  have hk5 := hka.trans hk4
  generalize w3.alloc (.cells #[.int .i64 (noneSet.P : Int), .slice ac nc cc, .slice ar nr cr] 30) = w4 at *
  have HT := Lib.hid (And.intro h2 hk5)
  clear h2 hk4 hk5 hka r0 hs hk3 HG
  go_wp2_with fail
  go_loopw [5, 6, 7] (fun va vw i wr => ∃ (k : Nat) (els els2 : List (List Value)), k ≤ n ∧ k ≤ 12 ∧ i = .int .i64 k ∧ Two w wr va vw els els2 ((l.take k).foldl stepS [noneSet]) ∧ Keeps Nil w wr) (fun _ _ i _ => 12 - (intOf i).toNat)
  case atStart => exact ⟨0, _, _, Nat.zero_le _, Nat.zero_le _, rfl, HT.out.1, HT.out.2⟩
  case round =>
    clear HT
    obtain ⟨k, els, els2, hk, hk12, rfl, hg, hkk⟩ := hrel
    have hll := length_fold (l.take k) [noneSet]
    simp only [List.length_singleton, List.length_take] at hll
    obtain ⟨gl, cap, pl, hv, hcap1, hcap2, xl, hlb⟩ := grown_last hg.1 (by omega)
    obtain ⟨m, hm⟩ : ∃ m, els.length = m + 1 := ⟨els.length - 1, by have := hg.1.len; omega⟩
    rw [hm] at hv
    subst hv
    have hm2 : els2.length = m + 1 := by rw [← hg.2.len, hg.1.len, hm]
    have hm13 : m ≤ 12 := by have := hg.1.len; omega
    rw [hm] at xl hcap1
    rw [show m + 1 - 1 = m by omega] at xl
    have j1 : IntKind.i64.wrap (m : Int) = (m : Int) := IntWalk.i64_in _ (by omega)
    have j2 : IntKind.i64.wrap ((m : Int) + 1 - 1) = (m : Int) := by rw [show (m : Int) + 1 - 1 = (m : Int) by omega]; exact j1
    have j3 : IntKind.i64.wrap (((m + 1 : Nat) : Int) - 1) = (m : Int) := by rw [show ((m + 1 : Nat) : Int) - 1 = (m : Int) by omega]; exact j1
    have j4 : (0 : Int) ≤ (m : Int) := by omega
    have j5 : (m : Int) < ((m + 1 : Nat) : Int) := by omega
    have j6 : (m : Int) < (m : Int) + 1 := by omega
    obtain ⟨gw, cw, hvw⟩ : ∃ gw cw, u6 = .slice (some ⟨gw, 0, none⟩) els2.length cw := by
      rcases hg.2.own.form with ⟨_, e⟩ | ⟨g, cap, rest, e, _⟩
      · rw [e] at hm2; simp at hm2
      · exact ⟨g, cap, e⟩
    rw [hm2] at hvw
    subst hvw
    have HGR := Lib.hid (And.intro hg (And.intro hkk (And.intro hm (And.intro hm2 hll))))
    clear hg hkk hll hm2
    by_cases hlt : k < n ∧ k < 12
    · obtain ⟨h1, h2⟩ := hlt
      have i2 : (k : Int) < (n : Int) := by omega
      have i3 : decide ((k : Int) < (n : Int)) = true := decide_eq_true i2
      have i4 : (k : Int) < 12 := by omega
      have i5 : (0 : Int) ≤ (k : Int) := by omega
      obtain ⟨b, off, mk, g, a1, n1, c1, g2, a2, n2, c2, hmk, hae, hb, ⟨x0, x1, x2, x3, x4, x5, x6⟩, hz, hz2, hr1, hr2, q1, q2, q3⟩ := (HL.out.1.keepNil HGR.out.2.1).at h1
      subst hae
      obtain ⟨out, hout⟩ : ∃ out, out = (l.take k).foldl stepS [noneSet] := ⟨_, rfl⟩
      have hg := HGR.out.1
      rw [← hout] at hg
      have hsl := OwnEls.sl (M := Nil) hg.1.own (fun _ _ h => h) hg.1.len hg.1.el
      obtain ⟨ax, cx, hvx, hsx⟩ := hsl
      rw [hm] at hvx hsx
      cases hvx
      have hsl2 := OwnEls.sl (M := Nil) hg.2.own (fun _ _ h => h) hg.2.len hg.2.el
      obtain ⟨ax2, cx2, hvx2, hsx2⟩ := hsl2
      rw [HGR.out.2.2.2.1] at hvx2 hsx2
      cases hvx2
      have hfine : ∀ S ∈ out, Fine S := fun S hS => (good_build l k hk12 S (by rw [← hout]; exact hS)).fine HI.out.2.1
      have hMB : MB (And' (Own (.slice (some ⟨gw, 0, none⟩) (m + 1) cw)) (.slice (some ⟨gl, 0, none⟩) (m + 1) cap)) wr := fun b hb => hb.elim (fun h => (hg.2.own.lt b h).2) fun h => (hg.1.own.lt b h).2
      have hMB2 : MB (And' (Own (.slice (some ⟨gl, 0, none⟩) (m + 1) cap)) (.slice (some ⟨gw, 0, none⟩) (m + 1) cw)) wr := fun b hb => hb.elim (fun h => (hg.1.own.lt b h).2) fun h => (hg.2.own.lt b h).2
      have hds : (l.take (k + 1)).foldl stepS [noneSet] = stepS out mk := by
        rw [take_get l ⟨0, 0, 0, 0, 0⟩ (by have := HI.out.2.2.1; omega), List.foldl_append, ← hout, hmk]; rfl
      have HX := Lib.hid (And.intro hg (And.intro hsx (And.intro hfine (And.intro hMB (And.intro hds (And.intro hMB2 hsx2))))))
      have HZ := Lib.hid (And.intro hz (And.intro hz2 (And.intro hr1 (And.intro hr2 (And.intro q1 (And.intro q2 q3))))))
      have hlo : out.length = m + 1 := by rw [hg.1.len, hm]
      clear hg hsx hsx2 hfine hMB hMB2 hds hz hz2 hr1 hr2 q1 q2 q3 hout hmk
      cases hdo : doR mk out with
      | inl x =>
        have HDO := Lib.hid hdo
        clear hdo
        go_wp2_with (first | (go_at_call 8; refine (do_any HX.out.2.2.2.1 HZ.out.1 HZ.out.2.1 HZ.out.2.2.1 HZ.out.2.2.2.1 HZ.out.2.2.2.2.1 HZ.out.2.2.2.2.2.1 HZ.out.2.2.2.2.2.2 HX.out.2.1 (by omega) (by omega) HX.out.2.2.1).mono ?_; rintro e w3 hc; obtain ⟨hkx, rfl, hk3⟩ := do_inl' HDO.out hc; have hkx' : (x == 0) = false := (by simpa using hkx); have hkx3 : (x != 0) = true := (by simpa using hkx); clear hc; obtain ⟨rc3, rf3⟩ := hk3.rules) | (go_at_call 9; refine (refdo_any (HX.out.2.2.2.2.2.1.keep hk3) (HZ.out.1.keepNil hk3) (HZ.out.2.1.keepNil hk3) HZ.out.2.2.1 HZ.out.2.2.2.1 HZ.out.2.2.2.2.1 HZ.out.2.2.2.2.2.1 HZ.out.2.2.2.2.2.2 (RSets.keepNil HX.out.2.2.2.2.2.2 hk3) (by omega) (by omega) HX.out.2.2.1).mono ?_; rintro e w5 hc; obtain ⟨hkx2, rfl, hk5⟩ := rdo_inl HDO.out hc; clear hc))
        go_roundw
        case rel => exact ⟨k + 1, els, els2, by omega, by omega, by go_num, by rw [HX.out.2.2.2.2.1]; unfold stepS; rw [HDO.out]; exact HX.out.1.keepNil (show Keeps Nil wr _ from (by repeat (first | exact Keeps.refl _ _ | assumption | refine Keeps.drew ?_ | refine Keeps.drewN ?_ _ | refine Keeps.alloc ?_ _ | exact Keeps.of_nil (by assumption) | refine Keeps.trans ?_ (Keeps.of_nil (by assumption)) | refine Keeps.setCell ?_ (.inr (by first | exact Nat.le_refl _ | (dsimp only; omega))) _ | refine Keeps.setCell ?_ (.inl (by first | (unfold Old; dsimp only; omega) | (unfold Old; simp; omega) | (unfold Old; simp))) _))), HGR.out.2.1.trans (show Keeps Nil wr _ from (by repeat (first | exact Keeps.refl _ _ | assumption | refine Keeps.drew ?_ | refine Keeps.drewN ?_ _ | refine Keeps.alloc ?_ _ | exact Keeps.of_nil (by assumption) | refine Keeps.trans ?_ (Keeps.of_nil (by assumption)) | refine Keeps.setCell ?_ (.inr (by first | exact Nat.le_refl _ | (dsimp only; omega))) _ | refine Keeps.setCell ?_ (.inl (by first | (unfold Old; dsimp only; omega) | (unfold Old; simp; omega) | (unfold Old; simp))) _)))⟩
        case measure => simp [intOf]; omega
      | inr S =>
        have HDO := Lib.hid hdo
        clear hdo
        go_upto_region 12 with (first | (go_at_call 8; refine (do_any HX.out.2.2.2.1 HZ.out.1 HZ.out.2.1 HZ.out.2.2.1 HZ.out.2.2.2.1 HZ.out.2.2.2.2.1 HZ.out.2.2.2.2.2.1 HZ.out.2.2.2.2.2.2 HX.out.2.1 (by omega) (by omega) HX.out.2.2.1).mono ?_; rintro e w3 hc; obtain ⟨p3, rfl, hs3, hk3⟩ := do_inr HDO.out hc; have H3 := Lib.hid (And.intro hs3 hk3); clear hc hs3; obtain ⟨rc3, rf3⟩ := hk3.rules) | (go_at_call 9; refine (refdo_any (HX.out.2.2.2.2.2.1.keep hk3) (HZ.out.1.keepNil hk3) (HZ.out.2.1.keepNil hk3) HZ.out.2.2.1 HZ.out.2.2.2.1 HZ.out.2.2.2.2.1 HZ.out.2.2.2.2.2.1 HZ.out.2.2.2.2.2.2 (RSets.keepNil HX.out.2.2.2.2.2.2 hk3) (by omega) (by omega) HX.out.2.2.1).mono ?_; rintro e w5 hc; obtain ⟨ac5, nc5, cc5, ar5, nr5, cr5, rfl, hs5, hk5⟩ := rdo_inr HDO.out hc; have H5 := Lib.hid (And.intro hs5 hk5); clear hc hs5))
        have r0 := RowIs.alloc (w := w5) (E := 30) (xs := [.int .i64 (S.P : Int), .slice ac5 nc5 cc5, .slice ar5 nr5 cr5])
        change RowIs (w5.alloc (.cells #[.int .i64 (S.P : Int), .slice ac5 nc5 cc5, .slice ar5 nr5 cr5] 30)) _ _ _ at r0
        have hk6 : Keeps Nil w5 (w5.alloc (.cells #[.int .i64 (S.P : Int), .slice ac5 nc5 cc5, .slice ar5 nr5 cr5] 30)) := (by repeat (first | exact Keeps.refl _ _ | refine Keeps.drew ?_ | refine Keeps.drewN ?_ _ | refine Keeps.alloc ?_ _))
        have h36 := H5.out.2.trans hk6
        have HB5 := Lib.hid (And.intro (HX.out.1.keepNil (hk3.trans h36)) (And.intro (HGR.out.2.1.trans (hk3.trans h36)) (And.intro (H3.out.1.keepNil h36) (And.intro (H5.out.1.keepNil hk6) r0))))
        have hne : w5.heap.size ≠ gl := by have := hk3.size; have := hk5.size; omega
        generalize (w5.alloc (.cells #[.int .i64 (S.P : Int), .slice ac5 nc5 cc5, .slice ar5 nr5 cr5] 30)) = w6 at *
        clear r0 hk6 h36
        go_upto_region 16 with (at_builtin; refine wpList_append_els _ rfl (.tmp 71) (.tmp 73) 27 rfl w.heap.size 25 it1 (.pointer none) 1 8 Tryz.underlying27 HI.out.1.1 HI.out.1.2.1 HI.out.1.2.2.1 HI.out.1.2.2.2 rfl (by decide) (.slice (some ⟨gl, 0, none⟩) (m + 1) cap) els (by first | rfl | (rw [hm]; rfl)) (HB5.out.1.1.own.keepNil (by repeat (first | exact Keeps.refl _ _ | refine Keeps.drew ?_ | refine Keeps.drewN ?_ _ | refine Keeps.alloc ?_ _))) ⟨w6.heap.size, 0, none⟩ 1 1 [[.pointer (some ⟨p3, 0, none⟩)]] rfl rfl (by simp) (alloc_news _ _ _) (by simp [Value.oneCell']) (by omega) (by omega) (by have := HB5.out.2.1.size; simp; omega) ?_; intro v' w7 ho hk7 hf7 _; have HO := Lib.hid (And.intro ho (And.intro hk7 hf7)); clear ho hf7)
        have h1 := HB5.out.1.keepNil (wx := w6.alloc (.cells #[.pointer (some ⟨p3, 0, none⟩)] 25)) (by repeat (first | exact Keeps.refl _ _ | refine Keeps.drew ?_ | refine Keeps.drewN ?_ _ | refine Keeps.alloc ?_ _))
        have hA := Grown.snoc RSet.moves h1.1 ⟨p3, rfl, HB5.out.2.2.1.keepNil (by repeat (first | exact Keeps.refl _ _ | refine Keeps.drew ?_ | refine Keeps.drewN ?_ _ | refine Keeps.alloc ?_ _))⟩ HO.out.1 HO.out.2.1 HO.out.2.2
        have hW := Grown.beside RSV.moves h1.2 HO.out.2.1 HO.out.2.2 h1.apart'
        have hS := HB5.out.2.2.2.1.keepNil (w' := w6.alloc (.cells #[.pointer (some ⟨p3, 0, none⟩)] 25)) (by repeat (first | exact Keeps.refl _ _ | refine Keeps.drew ?_ | refine Keeps.drewN ?_ _ | refine Keeps.alloc ?_ _))
        have hS7 := SV.move (M2 := And' (Own v') (.slice (some ⟨gw, 0, none⟩) (m + 1) cw)) hS HO.out.2.1 (fun _ _ h => .inl h) (fun b hb hm => hm.elim (fun ho => (HO.out.2.2 b ho).elim (fun h => .inl h) fun hl => absurd hb (by omega)) fun ho => .inr ho)
        have r7 := (HB5.out.2.2.2.2.keep (M := Nil) (w' := w6.alloc (.cells #[.pointer (some ⟨p3, 0, none⟩)] 25)) (by repeat (first | exact Keeps.refl _ _ | refine Keeps.drew ?_ | refine Keeps.drewN ?_ _ | refine Keeps.alloc ?_ _)) id).keep HO.out.2.1 (fun hm => hne (by simpa [Own, Value.ownBlock] using hm.symm))
        have hk7' : Keeps Nil w w7 := (HB5.out.2.1.trans (by repeat (first | exact Keeps.refl _ _ | refine Keeps.drew ?_ | refine Keeps.drewN ?_ _ | refine Keeps.alloc ?_ _))).trans' HO.out.2.1 (fun b hb => .inr (h1.1.own.lt b hb).1)
        obtain ⟨c0, c1', c2'⟩ := r7.three
        have HW7 := Lib.hid (And.intro hW (And.intro hA (And.intro hS7 (And.intro hk7'.size hk7'))))
        clear h1 hA hW hS hS7 r7 hk7'
        go_wp2_with (at_builtin; refine wpList_append_els _ rfl (.tmp 75) (.tmp 77) 32 rfl w.heap.size 30 it2 (.agg #[.int .i64 0, .slice none 0 0, .slice none 0 0]) 3 56 Tryz.underlying32 HI.out.2.2.2.1 HI.out.2.2.2.2.1 HI.out.2.2.2.2.2.1 HI.out.2.2.2.2.2.2 rfl (by decide) (.slice (some ⟨gw, 0, none⟩) (m + 1) cw) els2 (by first | rfl | (rw [HGR.out.2.2.2.1]; rfl)) (HW7.out.1.own.keepNil (by repeat (first | exact Keeps.refl _ _ | refine Keeps.drew ?_ | refine Keeps.drewN ?_ _ | refine Keeps.alloc ?_ _))) ⟨w7.heap.size, 0, none⟩ 1 1 [[.int .i64 (S.P : Int), .slice ac5 nc5 cc5, .slice ar5 nr5 cr5]] rfl rfl (by simp) (alloc_news _ _ _) (by simp [Value.oneCell']) (by rw [HGR.out.2.2.2.1]; omega) (by rw [HGR.out.2.2.2.1]; omega) (by have := HW7.out.2.2.2.1; simp; omega) ?_; intro v2' w8 ho hk8 hf8 _; have HP := Lib.hid (And.intro ho (And.intro hk8 hf8)); clear ho hk8 hf8)
        go_roundw
        case rel =>
          have a1 := HW7.out.1.keepNil RSV.moves (w' := w7.alloc (.cells #[.int .i64 (S.P : Int), .slice ac5 nc5 cc5, .slice ar5 nr5 cr5] 30)) (by repeat (first | exact Keeps.refl _ _ | refine Keeps.drew ?_ | refine Keeps.drewN ?_ _ | refine Keeps.alloc ?_ _))
          have a2 := HW7.out.2.1.keepNil RSet.moves (w' := w7.alloc (.cells #[.int .i64 (S.P : Int), .slice ac5 nc5 cc5, .slice ar5 nr5 cr5] 30)) (by repeat (first | exact Keeps.refl _ _ | refine Keeps.drew ?_ | refine Keeps.drewN ?_ _ | refine Keeps.alloc ?_ _))
          refine ⟨k + 1, els ++ [[.pointer (some ⟨p3, 0, none⟩)]], els2 ++ [[.int .i64 (S.P : Int), .slice ac5 nc5 cc5, .slice ar5 nr5 cr5]], by omega, by omega, by go_num, ?_, (HW7.out.2.2.2.2.trans (by repeat (first | exact Keeps.refl _ _ | refine Keeps.drew ?_ | refine Keeps.drewN ?_ _ | refine Keeps.alloc ?_ _))).trans' HP.out.2.1 (fun b hb => .inr (a1.own.lt b hb).1)⟩
          rw [HX.out.2.2.2.2.1]
          unfold stepS
          rw [HDO.out]
          exact ⟨Grown.beside RSet.moves a2 HP.out.2.1 HP.out.2.2 (OwnEls.ty2 a2.own a1.own (by decide)), Grown.snoc RSV.moves a1 ⟨ac5, nc5, cc5, ar5, nr5, cr5, rfl, HW7.out.2.2.1.keepNil (by repeat (first | exact Keeps.refl _ _ | refine Keeps.drew ?_ | refine Keeps.drewN ?_ _ | refine Keeps.alloc ?_ _))⟩ HP.out.1 HP.out.2.1 HP.out.2.2⟩
        case measure => simp [intOf]; omega
    · have hfin : ∀ i, Fine (((l.take k).foldl stepS [noneSet]).getD i noneSet) := fun i => (good_get (good_build l k hk12) i).fine HI.out.2.1
      obtain ⟨out, hout⟩ : ∃ out, out = (l.take k).foldl stepS [noneSet] := ⟨_, rfl⟩
      have hg := HGR.out.1
      rw [← hout] at hg hfin
      have hsl := OwnEls.sl (M := Nil) hg.1.own (fun _ _ h => h) hg.1.len hg.1.el
      obtain ⟨ax, cx, hvx, hsx⟩ := hsl
      rw [hm] at hvx hsx
      cases hvx
      have hsl2 := OwnEls.sl (M := Nil) hg.2.own (fun _ _ h => h) hg.2.len hg.2.el
      obtain ⟨ax2, cx2, hvx2, hsx2⟩ := hsl2
      rw [HGR.out.2.2.2.1] at hvx2 hsx2
      cases hvx2
      have HX := Lib.hid (And.intro (show Sets Nil _ wr (some ⟨gl, 0, none⟩) (m + 1) cap out from hsx) (And.intro (show RSets Nil _ wr (some ⟨gw, 0, none⟩) (m + 1) cw out from hsx2) (And.intro hfin (And.intro HGR.out.2.1 (numsKeep HL.out.2 HGR.out.2.1)))))
      clear hg hsx hsx2 hfin hout hm HGR
      generalize hL : m + 1 = L at *
      have HLn := Lib.hid hL
      clear hL
      by_cases h1 : k < n
      case' pos =>
        have h2 : k = 12 := by omega
        have i2 : (k : Int) < (n : Int) := by omega
        have i3 : decide ((k : Int) < (n : Int)) = true := decide_eq_true i2
        have i4 : ¬ (k : Int) < 12 := by omega
        have i5 : decide ((k : Int) < 12) = false := decide_eq_false i4
        clear h2
      case' neg =>
        have i2 : ¬ (k : Int) < (n : Int) := by omega
        have i3 : decide ((k : Int) < (n : Int)) = false := decide_eq_false i2
      all_goals
        go_wp2_with fail
        go_loopw [12] (fun i wq => ∃ q : Nat, q ≤ L ∧ i = .int .i64 q ∧ Keeps Nil wr wq) (fun i _ => L - (intOf i).toNat)
        case atStart => exact ⟨0, Nat.zero_le _, rfl, Keeps.refl _ _⟩
        case round =>
          rename World => wq
          obtain ⟨q, hq, rfl, hkq⟩ := hrel
          have q0 : (0 : Int) ≤ (q : Int) := by omega
          by_cases hlt2 : q < L
          · have q1 : (q : Int) < (L : Int) := by omega
            obtain ⟨q2, hq2⟩ : ∃ q2, q2 + q + 1 = L := ⟨L - 1 - q, by omega⟩
            have q3 : (0 : Int) ≤ (q2 : Int) := by omega
            have q4 : (q2 : Int) < (L : Int) := by omega
            obtain ⟨b1, o1, p1, hae, hb1, -, x0, hs1⟩ := (HX.out.1.keepNil hkq).at hlt2
            cases hae
            obtain ⟨b1, o1, p2, hae, -, -, x1, hs2⟩ := (HX.out.1.keepNil hkq).at (i := q2) (by omega)
            cases hae
            obtain ⟨b2, o2, ac1, nc1, cc1, ar1, nr1, cr1, hae, hb2, -, y0, y1, y2, hv1⟩ := (HX.out.2.1.keepNil hkq).at hlt2
            cases hae
            obtain ⟨b2, o2, ac2, nc2, cc2, ar2, nr2, cr2, hae, -, -, z0, z1, z2, hv2⟩ := (HX.out.2.1.keepNil hkq).at (i := q2) (by omega)
            cases hae
            simp only [Nat.zero_add] at x0 x1 y0 y1 y2 z0 z1 z2
            have hf1 := HX.out.2.2.1 q
            have hf2 := HX.out.2.2.1 q2
            generalize out.getD q noneSet = S1 at *
            generalize out.getD q2 noneSet = S2 at *
            obtain ⟨b0, hb0⟩ : ∃ b0 : Bool, b0 = true ↔ ∀ x, has S1 x = has S2 x := by
              by_cases h : ∀ x, has S1 x = has S2 x
              · exact ⟨true, by simp [h]⟩
              · exact ⟨false, by simp [h]⟩
            have jq : IntKind.i64.wrap ((m : Int) - (q : Int)) = (q2 : Int) := by
              have := HLn.out
              rw [show (m : Int) - (q : Int) = (q2 : Int) by omega]; exact IntWalk.i64_in _ (by omega)
            have l1 := Live.of hb1
            have l2 := Live.of hb2
            have HZ := Lib.hid (And.intro hs1.toNil (And.intro hv1.toNil (And.intro hf1 (And.intro hs2.toNil (And.intro hv2.toNil (And.intro hf2 (And.intro hkq (And.intro (numsKeep HX.out.2.2.2.2 hkq) hb0))))))))
            clear hs1 hv1 hf1 hs2 hv2 hf2 hkq hb0 hb1 hb2 hq2
            go_wp2_with fail
            go_region_held3 (fun w' => w'.cell? ⟨gl, q, none⟩ = some (.pointer (some ⟨p1, 0, none⟩)) ∧ w'.cell? ⟨gw, q * 3, none⟩ = some (.int .i64 (S1.P : Int)) ∧ w'.cell? ⟨gw, q * 3 + 1, none⟩ = some (.slice ac1 nc1 cc1) ∧ w'.cell? ⟨gw, q * 3 + 2, none⟩ = some (.slice ar1 nr1 cr1)) (go_keep) (first | (go_at_call 10; refine (is_any (HZ.out.1.keepNil (show Keeps Nil wq _ from (by repeat (first | exact Keeps.refl _ _ | assumption | refine Keeps.drew ?_ | refine Keeps.drewN ?_ _ | refine Keeps.alloc ?_ _ | exact Keeps.of_nil (by assumption) | refine Keeps.trans ?_ (Keeps.of_nil (by assumption)) | refine Keeps.setCell ?_ (.inr (by first | exact Nat.le_refl _ | (dsimp only; omega))) _ | refine Keeps.setCell ?_ (.inl (by first | (unfold Old; dsimp only; omega) | (unfold Old; simp; omega) | (unfold Old; simp))) _)))) (HZ.out.2.1.keepNil (show Keeps Nil wq _ from (by repeat (first | exact Keeps.refl _ _ | assumption | refine Keeps.drew ?_ | refine Keeps.drewN ?_ _ | refine Keeps.alloc ?_ _ | exact Keeps.of_nil (by assumption) | refine Keeps.trans ?_ (Keeps.of_nil (by assumption)) | refine Keeps.setCell ?_ (.inr (by first | exact Nat.le_refl _ | (dsimp only; omega))) _ | refine Keeps.setCell ?_ (.inl (by first | (unfold Old; dsimp only; omega) | (unfold Old; simp; omega) | (unfold Old; simp))) _)))) HZ.out.2.2.1 (numsKeep HZ.out.2.2.2.2.2.2.2.1 (show Keeps Nil wq _ from (by repeat (first | exact Keeps.refl _ _ | assumption | refine Keeps.drew ?_ | refine Keeps.drewN ?_ _ | refine Keeps.alloc ?_ _ | exact Keeps.of_nil (by assumption) | refine Keeps.trans ?_ (Keeps.of_nil (by assumption)) | refine Keeps.setCell ?_ (.inr (by first | exact Nat.le_refl _ | (dsimp only; omega))) _ | refine Keeps.setCell ?_ (.inl (by first | (unfold Old; dsimp only; omega) | (unfold Old; simp; omega) | (unfold Old; simp))) _))))).mono ?_; rintro e w5 ⟨rfl, hk5⟩; obtain ⟨rc5, rf5, ra5⟩ := (show Keeps Nil wq w5 from (by repeat (first | exact Keeps.refl _ _ | assumption | refine Keeps.drew ?_ | refine Keeps.drewN ?_ _ | refine Keeps.alloc ?_ _ | exact Keeps.of_nil (by assumption) | refine Keeps.trans ?_ (Keeps.of_nil (by assumption)) | refine Keeps.setCell ?_ (.inr (by first | exact Nat.le_refl _ | (dsimp only; omega))) _ | refine Keeps.setCell ?_ (.inl (by first | (unfold Old; dsimp only; omega) | (unfold Old; simp; omega) | (unfold Old; simp))) _))).live))
            all_goals go_wp2_with fail
            go_region_held3 (fun w' => w'.cell? ⟨gl, q, none⟩ = some (.pointer (some ⟨p1, 0, none⟩)) ∧ w'.cell? ⟨gl, q2, none⟩ = some (.pointer (some ⟨p2, 0, none⟩)) ∧ w'.cell? ⟨gw, q * 3, none⟩ = some (.int .i64 (S1.P : Int)) ∧ w'.cell? ⟨gw, q * 3 + 1, none⟩ = some (.slice ac1 nc1 cc1) ∧ w'.cell? ⟨gw, q * 3 + 2, none⟩ = some (.slice ar1 nr1 cr1) ∧ w'.cell? ⟨gw, q2 * 3, none⟩ = some (.int .i64 (S2.P : Int)) ∧ w'.cell? ⟨gw, q2 * 3 + 1, none⟩ = some (.slice ac2 nc2 cc2) ∧ w'.cell? ⟨gw, q2 * 3 + 2, none⟩ = some (.slice ar2 nr2 cr2)) (go_keep) (first | (go_at_call 11; refine (same_any (HZ.out.1.keepNil (show Keeps Nil wq _ from (by repeat (first | exact Keeps.refl _ _ | assumption | refine Keeps.drew ?_ | refine Keeps.drewN ?_ _ | refine Keeps.alloc ?_ _ | exact Keeps.of_nil (by assumption) | refine Keeps.trans ?_ (Keeps.of_nil (by assumption)) | refine Keeps.setCell ?_ (.inr (by first | exact Nat.le_refl _ | (dsimp only; omega))) _ | refine Keeps.setCell ?_ (.inl (by first | (unfold Old; dsimp only; omega) | (unfold Old; simp; omega) | (unfold Old; simp))) _)))) (HZ.out.2.2.2.1.keepNil (show Keeps Nil wq _ from (by repeat (first | exact Keeps.refl _ _ | assumption | refine Keeps.drew ?_ | refine Keeps.drewN ?_ _ | refine Keeps.alloc ?_ _ | exact Keeps.of_nil (by assumption) | refine Keeps.trans ?_ (Keeps.of_nil (by assumption)) | refine Keeps.setCell ?_ (.inr (by first | exact Nat.le_refl _ | (dsimp only; omega))) _ | refine Keeps.setCell ?_ (.inl (by first | (unfold Old; dsimp only; omega) | (unfold Old; simp; omega) | (unfold Old; simp))) _)))) HZ.out.2.2.1 HZ.out.2.2.2.2.2.1).mono ?_; rintro e w6 hr; obtain ⟨rfl, hk6⟩ := SameRet.as HZ.out.2.2.2.2.2.2.2.2 hr; clear hr; obtain ⟨rc6, rf6, ra6⟩ := (show Keeps Nil wq w6 from (by repeat (first | exact Keeps.refl _ _ | assumption | refine Keeps.drew ?_ | refine Keeps.drewN ?_ _ | refine Keeps.alloc ?_ _ | exact Keeps.of_nil (by assumption) | refine Keeps.trans ?_ (Keeps.of_nil (by assumption)) | refine Keeps.setCell ?_ (.inr (by first | exact Nat.le_refl _ | (dsimp only; omega))) _ | refine Keeps.setCell ?_ (.inl (by first | (unfold Old; dsimp only; omega) | (unfold Old; simp; omega) | (unfold Old; simp))) _))).live) | (go_at_call 12; refine (refsame18_any (HZ.out.2.1.keepNil (show Keeps Nil wq _ from (by repeat (first | exact Keeps.refl _ _ | assumption | refine Keeps.drew ?_ | refine Keeps.drewN ?_ _ | refine Keeps.alloc ?_ _ | exact Keeps.of_nil (by assumption) | refine Keeps.trans ?_ (Keeps.of_nil (by assumption)) | refine Keeps.setCell ?_ (.inr (by first | exact Nat.le_refl _ | (dsimp only; omega))) _ | refine Keeps.setCell ?_ (.inl (by first | (unfold Old; dsimp only; omega) | (unfold Old; simp; omega) | (unfold Old; simp))) _)))) (HZ.out.2.2.2.2.1.keepNil (show Keeps Nil wq _ from (by repeat (first | exact Keeps.refl _ _ | assumption | refine Keeps.drew ?_ | refine Keeps.drewN ?_ _ | refine Keeps.alloc ?_ _ | exact Keeps.of_nil (by assumption) | refine Keeps.trans ?_ (Keeps.of_nil (by assumption)) | refine Keeps.setCell ?_ (.inr (by first | exact Nat.le_refl _ | (dsimp only; omega))) _ | refine Keeps.setCell ?_ (.inl (by first | (unfold Old; dsimp only; omega) | (unfold Old; simp; omega) | (unfold Old; simp))) _)))) HZ.out.2.2.1 HZ.out.2.2.2.2.2.1).mono ?_; rintro e w7 hr; obtain ⟨rfl, hk7⟩ := SameRet.as HZ.out.2.2.2.2.2.2.2.2 hr; clear hr; obtain ⟨rc7, rf7, ra7⟩ := (show Keeps Nil wq w7 from (by repeat (first | exact Keeps.refl _ _ | assumption | refine Keeps.drew ?_ | refine Keeps.drewN ?_ _ | refine Keeps.alloc ?_ _ | exact Keeps.of_nil (by assumption) | refine Keeps.trans ?_ (Keeps.of_nil (by assumption)) | refine Keeps.setCell ?_ (.inr (by first | exact Nat.le_refl _ | (dsimp only; omega))) _ | refine Keeps.setCell ?_ (.inl (by first | (unfold Old; dsimp only; omega) | (unfold Old; simp; omega) | (unfold Old; simp))) _))).live))
            all_goals go_wp2_with fail
            all_goals go_roundw
            all_goals first | exact ⟨q + 1, by omega, by go_num, HZ.out.2.2.2.2.2.2.1.trans (show Keeps Nil wq _ from (by repeat (first | exact Keeps.refl _ _ | assumption | refine Keeps.drew ?_ | refine Keeps.drewN ?_ _ | refine Keeps.alloc ?_ _ | exact Keeps.of_nil (by assumption) | refine Keeps.trans ?_ (Keeps.of_nil (by assumption)) | refine Keeps.setCell ?_ (.inr (by first | exact Nat.le_refl _ | (dsimp only; omega))) _ | refine Keeps.setCell ?_ (.inl (by first | (unfold Old; dsimp only; omega) | (unfold Old; simp; omega) | (unfold Old; simp))) _)))⟩ | (simp [intOf]; omega)
          · have hL0 : 0 < L := by have := HLn.out; omega
            have z0 : (0 : Int) < (L : Int) := by omega
            obtain ⟨b1, o1, p1, hae, hb1, -, x0, hs1⟩ := (HX.out.1.keepNil hkq).at hL0
            cases hae
            simp only [Nat.add_zero] at x0
            have l1 := Live.of hb1
            have HZ := Lib.hid (And.intro hs1.toNil (And.intro (HX.out.2.2.1 0) hkq))
            clear hs1 hkq hb1 hL0
            go_wp2_with (first | (go_at_call 13; refine (meet_nil (HZ.out.1.keepNil (show Keeps Nil wq _ from (by repeat (first | exact Keeps.refl _ _ | assumption | refine Keeps.drew ?_ | refine Keeps.drewN ?_ _ | refine Keeps.alloc ?_ _ | exact Keeps.of_nil (by assumption) | refine Keeps.trans ?_ (Keeps.of_nil (by assumption)) | refine Keeps.setCell ?_ (.inr (by first | exact Nat.le_refl _ | (dsimp only; omega))) _ | refine Keeps.setCell ?_ (.inl (by first | (unfold Old; dsimp only; omega) | (unfold Old; simp; omega) | (unfold Old; simp))) _)))) HZ.out.2.1).mono ?_; rintro e w5 ⟨rfl, hk5⟩; obtain ⟨rc5, rf5, ra5⟩ := (show Keeps Nil wq w5 from (by repeat (first | exact Keeps.refl _ _ | assumption | refine Keeps.drew ?_ | refine Keeps.drewN ?_ _ | refine Keeps.alloc ?_ _ | exact Keeps.of_nil (by assumption) | refine Keeps.trans ?_ (Keeps.of_nil (by assumption)) | refine Keeps.setCell ?_ (.inr (by first | exact Nat.le_refl _ | (dsimp only; omega))) _ | refine Keeps.setCell ?_ (.inl (by first | (unfold Old; dsimp only; omega) | (unfold Old; simp; omega) | (unfold Old; simp))) _))).live) | (go_at_call 14; refine (join_nil (HZ.out.1.keepNil (show Keeps Nil wq _ from (by repeat (first | exact Keeps.refl _ _ | assumption | refine Keeps.drew ?_ | refine Keeps.drewN ?_ _ | refine Keeps.alloc ?_ _ | exact Keeps.of_nil (by assumption) | refine Keeps.trans ?_ (Keeps.of_nil (by assumption)) | refine Keeps.setCell ?_ (.inr (by first | exact Nat.le_refl _ | (dsimp only; omega))) _ | refine Keeps.setCell ?_ (.inl (by first | (unfold Old; dsimp only; omega) | (unfold Old; simp; omega) | (unfold Old; simp))) _)))) HZ.out.2.1).mono ?_; rintro e w6 ⟨rfl, hk6⟩; obtain ⟨rc6, rf6, ra6⟩ := (show Keeps Nil wq w6 from (by repeat (first | exact Keeps.refl _ _ | assumption | refine Keeps.drew ?_ | refine Keeps.drewN ?_ _ | refine Keeps.alloc ?_ _ | exact Keeps.of_nil (by assumption) | refine Keeps.trans ?_ (Keeps.of_nil (by assumption)) | refine Keeps.setCell ?_ (.inr (by first | exact Nat.le_refl _ | (dsimp only; omega))) _ | refine Keeps.setCell ?_ (.inl (by first | (unfold Old; dsimp only; omega) | (unfold Old; simp; omega) | (unfold Old; simp))) _))).live) | (go_at_call 11; refine (same_nil (HZ.out.1.keepNil (show Keeps Nil wq _ from (by repeat (first | exact Keeps.refl _ _ | assumption | refine Keeps.drew ?_ | refine Keeps.drewN ?_ _ | refine Keeps.alloc ?_ _ | exact Keeps.of_nil (by assumption) | refine Keeps.trans ?_ (Keeps.of_nil (by assumption)) | refine Keeps.setCell ?_ (.inr (by first | exact Nat.le_refl _ | (dsimp only; omega))) _ | refine Keeps.setCell ?_ (.inl (by first | (unfold Old; dsimp only; omega) | (unfold Old; simp; omega) | (unfold Old; simp))) _)))) HZ.out.2.1).mono ?_; rintro e w7 ⟨rfl, hk7⟩; obtain ⟨rc7, rf7, ra7⟩ := (show Keeps Nil wq w7 from (by repeat (first | exact Keeps.refl _ _ | assumption | refine Keeps.drew ?_ | refine Keeps.drewN ?_ _ | refine Keeps.alloc ?_ _ | exact Keeps.of_nil (by assumption) | refine Keeps.trans ?_ (Keeps.of_nil (by assumption)) | refine Keeps.setCell ?_ (.inr (by first | exact Nat.le_refl _ | (dsimp only; omega))) _ | refine Keeps.setCell ?_ (.inl (by first | (unfold Old; dsimp only; omega) | (unfold Old; simp; omega) | (unfold Old; simp))) _))).live))
            go_ret
            exact ⟨rfl, HX.out.2.2.2.1.trans (HZ.out.2.2.trans (show Keeps Nil wq _ from (by repeat (first | exact Keeps.refl _ _ | assumption | refine Keeps.drew ?_ | refine Keeps.drewN ?_ _ | refine Keeps.alloc ?_ _ | exact Keeps.of_nil (by assumption) | refine Keeps.trans ?_ (Keeps.of_nil (by assumption)) | refine Keeps.setCell ?_ (.inr (by first | exact Nat.le_refl _ | (dsimp only; omega))) _ | refine Keeps.setCell ?_ (.inl (by first | (unfold Old; dsimp only; omega) | (unfold Old; simp; omega) | (unfold Old; simp))) _))))⟩
end Go.Proofs.YtfkclbhddiidbaaGreat
