/- The walk of MeterStays: it returns true. Conditions: a number in int's range; lists' own reading. -/
import Derived.Test.YtdldaiakljhfjaaRows
import Derived.Test.YtdldaiakljhfjaaBase
import Derived.Test.YtdldaiakljhfjaaMeterHelp
import Derived.Test.YtdldaiakljhfjaaMeterLaw2
namespace Go.Proofs.Ytdldaiakljhfjaa
open Go.RowKit Go.Rid

theorem node_step {nodes limbs s o : Int} {xs : List (Bool × List Nat)} (h1 : s ≤ nodes) :
    ∃ y1 y2 y3, nodeM nodes limbs s o xs = (y1, y2, y3) ∧ ((o ≠ 0 ∧ s = y1 ∧ o = y2 ∧ o = y3) ∨
      (o = 0 ∧ s ≤ y1 ∧ y1 ≤ nodes ∧ ((great limbs xs = true ∧ y2 = 71 ∧ y3 = 71) ∨ (great limbs xs = false ∧ y2 = 70 ∧ y3 = 70) ∨ (great limbs xs = false ∧ y2 = 0 ∧ y3 = 0)))) := by
  unfold nodeM nodeS
  by_cases ho : o = 0
  · by_cases hg : great limbs xs = true
    · exact ⟨s, 71, 71, by simp [ho, hg], .inr ⟨ho, by omega, by omega, .inl ⟨hg, rfl, rfl⟩⟩⟩
    · have hg' : great limbs xs = false := by simpa using hg
      by_cases hs : s = nodes
      · exact ⟨s, 70, 70, by simp [ho, hg', hs], .inr ⟨ho, by omega, by omega, .inr (.inl ⟨hg', rfl, rfl⟩)⟩⟩
      · exact ⟨s + 1, 0, 0, by simp [ho, hg', hs], .inr ⟨ho, by omega, by omega, .inr (.inr ⟨hg', rfl, rfl⟩)⟩⟩
  · exact ⟨s, o, o, by simp [ho], .inl ⟨ho, rfl, rfl, rfl⟩⟩
theorem spend_step {nodes s o n : Int} (hn : 0 ≤ n) (h1 : s ≤ nodes) :
    ∃ y1 y2 y3, spendM nodes s o n = (y1, y2, y3) ∧ ((o ≠ 0 ∧ s = y1 ∧ o = y2 ∧ o = y3) ∨
      (o = 0 ∧ s ≤ y1 ∧ y1 ≤ nodes ∧ ((y2 = 70 ∧ y3 = 70) ∨ (y2 = 0 ∧ y3 = 0)))) := by
  unfold spendM spendS
  by_cases ho : o = 0
  · by_cases hg : nodes - s < n
    · exact ⟨s, 70, 70, by simp [ho, hg]; omega, .inr ⟨ho, by omega, by omega, .inl ⟨rfl, rfl⟩⟩⟩
    · exact ⟨s + n, 0, 0, by simp [ho, hg]; omega, .inr ⟨ho, by omega, by omega, .inr ⟨rfl, rfl⟩⟩⟩
  · exact ⟨s, o, o, by simp [ho], .inl ⟨ho, rfl, rfl, rfl⟩⟩
/-- Is one of the first k numbers too great? -/
def greatK (limbs : Int) (xs : List (Bool × List Nat)) (k : Nat) : Bool := great limbs (xs.take k)
theorem greatK_zero (limbs : Int) (xs : List (Bool × List Nat)) : greatK limbs xs 0 = false := by simp [greatK, great]
theorem greatK_succ {limbs : Int} {xs : List (Bool × List Nat)} {k : Nat} (hk : k < xs.length) : greatK limbs xs (k + 1) = (greatK limbs xs k || decide (limbs < (top (ith xs k).2 : Int))) := by
  unfold greatK great
  rw [List.take_succ_eq_append_getElem hk, List.any_append]
  simp [ith, hk]
theorem greatK_all {limbs : Int} {xs : List (Bool × List Nat)} : greatK limbs xs xs.length = great limbs xs := by simp [greatK]

set_option maxRecDepth 100000 in
set_option maxHeartbeats 2000000 in
theorem MeterStays_walk {a0 : Int} {a : Option Addr} {n c : Nat} {xs : List (Bool × Int × List (Bool × List Nat))} (w : World) (h00 : -9223372036854775808 ≤ a0) (h01 : a0 ≤ 9223372036854775807) (hx : Script Nil w a n c xs) (_ : n * 40 ≤ 140737488355328) :
    Calls Try.prog 5 #[.int .i64 a0, .slice a n c] w fun e w' => e = .returned (.bool true) ∧ Keeps Nil w w' := by
  have HX := Lib.hid hx.old
  have hcap := SlOf.cap hx
  have hle := SlOf.le hx
  clear hx
  go_enter Try.func5, Try.ntmps5
  go_wp2_with fail
  refine (pick_any a0 50 _ h00 h01 (by decide) (by decide)).mono ?_
  rintro e w1 ⟨p, rfl, hp0, hp1, rfl⟩
  go_wp2_with fail
  refine (new_ok (1 + p) 2 _ (by omega) (by omega) (by omega) (by omega)).mono ?_
  rintro e w1 ⟨g, rfl, hm1, hk1, hg1⟩
  have H1 := Lib.hid (And.intro hm1 (And.intro hk1 hg1))
  clear hm1 hk1 hg1
  go_wp2_with fail
  refine (known_any _).mono ?_
  rintro e w3 ⟨rfl, hk3⟩
  have H3 := Lib.hid (And.intro (H1.out.1.keepNil hk3) (And.intro (H1.out.2.1.trans hk3) H1.out.2.2))
  clear hk3
  go_wp2_with fail
  go_loopw [8, 9] (fun ov i wr => ∃ (k : Nat) (s o : Int), k ≤ n ∧ i = .int .i64 k ∧ ov = .int .i64 o ∧ 0 ≤ s ∧ s ≤ 1 + p ∧ MeterAt wr g (1 + p) 2 s o ∧ Keeps Nil w wr) (fun _ i _ => n - (intOf i).toNat)
  case atStart => exact ⟨0, 0, 0, Nat.zero_le _, rfl, rfl, by omega, by omega, H3.out.1, H3.out.2.1⟩
  case round =>
    obtain ⟨k, s, o, hk, rfl, rfl, hs0, hs1, hm, hkk⟩ := hrel
    have HR := Lib.hid (And.intro hm hkk)
    have HX' := Lib.hid (HX.out.keepNil hkk)
    have hg := hm.lt
    have HG := Lib.hid H3.out.2.2
    clear hm hkk
    by_cases hlt : k < n
    · obtain ⟨b, off, sp, z, l, a', n', c', rfl, hb, hnM, p0, p1, p2, hL, hr', hz0, hz1⟩ := HX'.out.at hlt
      have hcapI := SlOf.cap hL
      have hleI := SlOf.le hL
      have HLI := Lib.hid (SlOf.len hL)
      have HI := Lib.hid hL
      have R0 := Lib.hid (RowIs.alloc (w := wr) (E := 36) (xs := [.bool sp, .int .i64 z, .slice a' n' c']))
      clear hL
      go_wp2_with fail
      refine (spent_any (HR.out.1.keepNil (by repeat (first | exact Keeps.refl _ _ | refine Keeps.drew ?_ | refine Keeps.drewN ?_ _ | refine Keeps.alloc ?_ _)))).mono ?_
      rintro e w4 ⟨rfl, hk4⟩
      obtain ⟨c40, c41, c42⟩ := (R0.out.keep hk4 id).three
      have H4 := Lib.hid (And.intro (R0.out.keep hk4 id) ((Keeps.of_nil (M := Nil) (by repeat (first | exact Keeps.refl _ _ | refine Keeps.drew ?_ | refine Keeps.drewN ?_ _ | refine Keeps.alloc ?_ _))).trans hk4 : Keeps Nil wr w4))
      clear hk4
      go_wp2_with fail
      obtain ⟨wo, hwo⟩ : ∃ wo : World, wo = w4 := ⟨_, rfl⟩
      subst hwo
      obtain ⟨wa, hwa⟩ : ∃ wa : World, wa = wr := ⟨_, rfl⟩
      subst hwa
      clear c40 c41 c42
      go_loopw [12, 13] (fun gr j wi => ∃ t : Nat, t ≤ n' ∧ j = .int .i64 t ∧ gr = .bool (greatK 2 l t) ∧ Keeps Nil wo wi) (fun _ j _ => n' - (intOf j).toNat)
      case atStart => exact ⟨0, Nat.zero_le _, rfl, by rw [greatK_zero], Keeps.refl _ _⟩
      case round =>
        obtain ⟨t, ht, rfl, rfl, hkt⟩ := hrel
        have bi := H4.out.1.keep hkt id
        obtain ⟨c50, c51, c52⟩ := bi.three
        have HT := Lib.hid (And.intro bi (H4.out.2.trans hkt))
        have HKT := Lib.hid hkt
        clear bi hkt
        by_cases hlt2 : t < n'
        · obtain ⟨b3, off3, a3, n3, c3, rfl, hb3, _, e0, e1, hL3, hr3⟩ := (HI.out.keepNil HT.out.2).at hlt2
          have HL3 := Lib.hid (hL3.turn (M' := Nil) (fun _ _ h => h.elim))
          have hsucc := greatK_succ (limbs := 2) (xs := l) (k := t) (by rw [HLI.out]; exact hlt2)
          have HS := Lib.hid hsucc
          clear hL3 hsucc
          by_cases hgk : greatK 2 l t = true
          · rw [hgk] at HS
            simp only [hgk]
            clear hgk
            go_wp2
            go_roundw
            case rel => exact ⟨t + 1, by omega, by go_num, by rw [HS.out]; rfl, HKT.out⟩
            case measure => simp [intOf]; omega
          · have hgk' : greatK 2 l t = false := by simpa using hgk
            rw [hgk'] at HS
            simp only [hgk']
            clear hgk hgk'
            go_wp2_with (go_at_call 19; refine (ref02limbs_any (M := Nil) (MB.nil _) HL3.out hr3).mono ?_; rintro e w9 ⟨rfl, hk9⟩)
            go_roundw
            case rel => exact ⟨t + 1, by omega, by go_num, by rw [HS.out]; simp, HKT.out.trans hk9⟩
            case measure => simp [intOf]; omega
        · obtain rfl : t = n' := by omega
          have hgall : greatK 2 l t = great 2 l := by rw [← HLI.out]; exact greatK_all
          rw [hgall]
          clear hgall
          have HTT := HT
          clear HKT
          cases sp
          · go_wp2_with fail
            refine (lent_any (M := Rid.One g) (fun b hb => by cases hb; have := HTT.out.2.size; omega) ((HI.out.keepNil HTT.out.2).turn (fun b _ hb => by have := HG.out; cases hb; unfold From; omega)) hr').mono ?_
            rintro e w8 ⟨a8, c8, rfl, hl8, hk8⟩
            have H8 := Lib.hid (And.intro hl8 hk8)
            obtain ⟨d80, d81, d82⟩ := (HTT.out.1.keep hk8 id).three
            clear hl8 hk8 c50 c51 c52
            go_wp2_with fail
            refine (node_any (M := Nil) (MB.nil _) ((HR.out.1.keepNil HTT.out.2).keepNil H8.out.2) (H8.out.1.turn fun _ _ h => h.elim) hs0 hs1 (by omega)).mono ?_
            obtain ⟨y1, y2, y3, hy, hstep⟩ := node_step (nodes := 1 + p) (limbs := 2) (o := o) (xs := l) hs1
            rw [hy]
            rintro e w5 ⟨rfl, hm5, hk5⟩
            have b5 := (HTT.out.1.keep H8.out.2 id).keep hk5 (show ¬ wa.heap.size = g by omega)
            obtain ⟨d50, d51, d52⟩ := b5.three
            have HB5 := Lib.hid b5
            have H5 := Lib.hid (And.intro hm5 (((HTT.out.2.trans H8.out.2).of_nil (M := Rid.One g)).trans hk5))
            clear hm5 hk5 b5 hy d80 d81 d82 H8
            rcases hstep with ⟨ho, rfl, rfl, rfl⟩ | ⟨rfl, hy1, hy2, hcase⟩
            · have ho1 : (o != 0) = true := by simpa using ho
              have ho2 : (o == 0) = false := by simpa using ho
              go_wp2_with fail
              refine (spent_any H5.out.1).mono ?_
              rintro e w6 ⟨rfl, hk6⟩
              obtain ⟨c60, c61, c62⟩ := (HB5.out.keep hk6 id).three
              have H6 := Lib.hid (And.intro (H5.out.1.keepNil hk6) (H5.out.2.transNil hk6))
              clear hk6 d50 d51 d52
              go_wp2_with fail
              refine (over_any H6.out.1).mono ?_
              rintro e w7 ⟨rfl, hk7⟩
              have H7 := Lib.hid (And.intro (H6.out.1.keepNil hk7) (H6.out.2.transNil hk7))
              clear hk7
              go_wp2_with fail
              refine (over_any H7.out.1).mono ?_
              rintro e w8 ⟨rfl, hk8⟩
              have H8 := Lib.hid (And.intro (H7.out.1.keepNil hk8) (H7.out.2.transNil hk8))
              clear hk8
              go_wp2_with fail
              refine (over_any H8.out.1).mono ?_
              rintro e w9 ⟨rfl, hk9⟩
              have H9 := Lib.hid (And.intro (H8.out.1.keepNil hk9) (H8.out.2.transNil hk9))
              clear hk9
              go_wp2
              go_roundw
              case rel => exact ⟨k + 1, _, _, by omega, by go_num, rfl, by omega, by omega, H9.out.1, HR.out.2.trans' H9.out.2 (fun b hb => by right; have := HG.out; cases hb; omega)⟩
              case measure => simp [intOf]; omega
            · rcases hcase with ⟨hG, rfl, rfl⟩ | ⟨hG, rfl, rfl⟩ | ⟨hG, rfl, rfl⟩
              all_goals
                go_wp2_with fail
                refine (spent_any H5.out.1).mono ?_
                rintro e w6 ⟨rfl, hk6⟩
                obtain ⟨c60, c61, c62⟩ := (HB5.out.keep hk6 id).three
                have H6 := Lib.hid (And.intro (H5.out.1.keepNil hk6) (H5.out.2.transNil hk6))
                clear hk6 d50 d51 d52
                go_wp2_with fail
                refine (over_any H6.out.1).mono ?_
                rintro e w7 ⟨rfl, hk7⟩
                have H7 := Lib.hid (And.intro (H6.out.1.keepNil hk7) (H6.out.2.transNil hk7))
                clear hk7
                go_wp2_with fail
                refine (over_any H7.out.1).mono ?_
                rintro e w8 ⟨rfl, hk8⟩
                have H8 := Lib.hid (And.intro (H7.out.1.keepNil hk8) (H7.out.2.transNil hk8))
                clear hk8
                go_wp2
                go_roundw
                case rel => exact ⟨k + 1, _, _, by omega, by go_num, rfl, by omega, by omega, H8.out.1, HR.out.2.trans' H8.out.2 (fun b hb => by right; have := HG.out; cases hb; omega)⟩
                case measure => simp [intOf]; omega
          · go_wp2_with fail
            refine (pick_any z 20 _ hz0 hz1 (by decide) (by decide)).mono ?_
            rintro e w8 ⟨z', rfl, hzp0, hzp1, rfl⟩
            go_wp2_with fail
            refine (spend_any (HR.out.1.keepNil HTT.out.2) hs0 hs1 (by omega) (by omega)).mono ?_
            obtain ⟨y1, y2, y3, hy, hstep⟩ := spend_step (nodes := 1 + p) (o := o) hzp0 hs1
            rw [hy]
            rintro e w5 ⟨rfl, hm5, hk5⟩
            have hne : ¬ wo.heap.size < 0 := by omega
            have b5 := HTT.out.1.keep hk5 (show ¬ wa.heap.size = g by omega)
            obtain ⟨d50, d51, d52⟩ := b5.three
            have HB5 := Lib.hid b5
            have H5 := Lib.hid (And.intro hm5 ((HTT.out.2.of_nil (M := Rid.One g)).trans hk5))
            clear hm5 hk5 b5 hy c50 c51 c52 hne
            rcases hstep with ⟨ho, rfl, rfl, rfl⟩ | ⟨rfl, hy1, hy2, hcase⟩
            · have ho1 : (o != 0) = true := by simpa using ho
              have ho2 : (o == 0) = false := by simpa using ho
              go_wp2_with fail
              refine (spent_any H5.out.1).mono ?_
              rintro e w6 ⟨rfl, hk6⟩
              obtain ⟨c60, c61, c62⟩ := (HB5.out.keep hk6 id).three
              have H6 := Lib.hid (And.intro (H5.out.1.keepNil hk6) (H5.out.2.transNil hk6))
              clear hk6 d50 d51 d52
              go_wp2_with fail
              refine (over_any H6.out.1).mono ?_
              rintro e w7 ⟨rfl, hk7⟩
              have H7 := Lib.hid (And.intro (H6.out.1.keepNil hk7) (H6.out.2.transNil hk7))
              clear hk7
              go_wp2_with fail
              refine (over_any H7.out.1).mono ?_
              rintro e w8 ⟨rfl, hk8⟩
              have H8 := Lib.hid (And.intro (H7.out.1.keepNil hk8) (H7.out.2.transNil hk8))
              clear hk8
              go_wp2_with fail
              refine (over_any H8.out.1).mono ?_
              rintro e w9 ⟨rfl, hk9⟩
              have H9 := Lib.hid (And.intro (H8.out.1.keepNil hk9) (H8.out.2.transNil hk9))
              clear hk9
              go_wp2
              go_roundw
              case rel => exact ⟨k + 1, _, _, by omega, by go_num, rfl, by omega, by omega, H9.out.1, HR.out.2.trans' H9.out.2 (fun b hb => by right; have := HG.out; cases hb; omega)⟩
              case measure => simp [intOf]; omega
            · rcases hcase with ⟨rfl, rfl⟩ | ⟨rfl, rfl⟩
              all_goals
                go_wp2_with fail
                refine (spent_any H5.out.1).mono ?_
                rintro e w6 ⟨rfl, hk6⟩
                obtain ⟨c60, c61, c62⟩ := (HB5.out.keep hk6 id).three
                have H6 := Lib.hid (And.intro (H5.out.1.keepNil hk6) (H5.out.2.transNil hk6))
                clear hk6 d50 d51 d52
                go_wp2_with fail
                refine (over_any H6.out.1).mono ?_
                rintro e w7 ⟨rfl, hk7⟩
                have H7 := Lib.hid (And.intro (H6.out.1.keepNil hk7) (H6.out.2.transNil hk7))
                clear hk7
                go_wp2_with fail
                refine (over_any H7.out.1).mono ?_
                rintro e w8 ⟨rfl, hk8⟩
                have H8 := Lib.hid (And.intro (H7.out.1.keepNil hk8) (H7.out.2.transNil hk8))
                clear hk8
                go_wp2
                go_roundw
                case rel => exact ⟨k + 1, _, _, by omega, by go_num, rfl, by omega, by omega, H8.out.1, HR.out.2.trans' H8.out.2 (fun b hb => by right; have := HG.out; cases hb; omega)⟩
                case measure => simp [intOf]; omega
    · go_wp2
      go_ret
      exact ⟨rfl, HR.out.2⟩
end Go.Proofs.Ytdldaiakljhfjaa
