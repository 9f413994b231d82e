/- What the law ArenaNil does: it answers true. Conditions: the library's table; the atom's cells. -/
import Derived.Test.YtnheefnlcnkefaaGreatDoorKAwakes
namespace Go.Proofs.YtnheefnlcnkefaaGreatDoor
open Go.RowKit Go.Rid
set_option maxHeartbeats 4000000 in
set_option maxRecDepth 100000 in
theorem arenaNil_walk {B0 : Nat} {w : World} {k kind v : Int} {gd gk : Bool} {ad ap ak a : Option Addr} {nd cd np cp nk ck n c : Nat} (hT : Tab B0 w) :
    Calls Tryz.prog 7 #[.agg #[.int .i64 k, .bool gd, .slice ad nd cd, .slice ap np cp, .bool gk, .slice ak nk ck], .int .i64 kind, .int .i64 v, .slice a n c] w fun e w' => e = .returned (.bool true) ∧ Keeps Nil w w' := by
  have HT := Lib.hid hT
  clear hT
  go_enter Tryz.func7, Tryz.ntmps7
  go_upto_region 1 with (fail)
  have r0 := RowIs.alloc (w := w) (E := 58) (xs := [.int .i64 k, .bool gd, .slice ad nd cd, .slice ap np cp, .bool gk, .slice ak nk ck])
  change RowIs (w.alloc (.cells #[.int .i64 k, .bool gd, .slice ad nd cd, .slice ap np cp, .bool gk, .slice ak nk ck] 58)) _ _ _ at r0
  have q0 : Keeps Nil w (w.alloc (.cells #[.int .i64 k, .bool gd, .slice ad nd cd, .slice ap np cp, .bool gk, .slice ak nk ck] 58)) := (by repeat (first | exact Keeps.refl _ _ | refine Keeps.drew ?_ | refine Keeps.drewN ?_ _ | refine Keeps.alloc ?_ _))
  generalize (w.alloc (.cells #[.int .i64 k, .bool gd, .slice ad nd cd, .slice ap np cp, .bool gk, .slice ak nk ck] 58)) = w0 at *
  have H0 := Lib.hid (And.intro q0 r0)
  clear q0 r0
  go_upto_region 2 with (go_at_call 9; refine (awake_any (HT.out.keepNil H0.out.1)).mono ?_; rintro e w1 ⟨rfl, hk1⟩; have r1 := H0.out.2.keep hk1 id; have H1 := Lib.hid (And.intro (H0.out.1.trans hk1) r1); clear hk1 r1)
  obtain ⟨c0, c1, c2, c3, c4, c5⟩ := H1.out.2.cells6
  go_upto_region 6 with (first | (go_at_call 24; refine (aatom_nil (.agg #[.int .i64 k, .bool gd, .slice ad nd cd, .slice ap np cp, .bool gk, .slice ak nk ck]) ⟨k, gd, ad, nd, cd, ap, np, cp, gk, ak, nk, ck, rfl⟩).mono ?_; rintro e w2 ⟨rfl, hk2⟩; have H2 := Lib.hid hk2; clear hk2) | (go_at_call 26; refine (ajoin_nil _ _ _ _).mono ?_; rintro e w3 ⟨rfl, hk3⟩; have H3 := Lib.hid hk3; clear hk3) | (go_at_call 28; refine (abind_nil _ _ _).mono ?_; rintro e w4 ⟨rfl, hk4⟩; have H4 := Lib.hid hk4; clear hk4))
  clear c0 c1 c2 c3 c4 c5
  go_upto_region 7 with (first | (go_at_call 18; refine (anode_nil _).mono ?_; rintro e w5 ⟨rfl, hk5⟩; have H5 := Lib.hid hk5; clear hk5))
  have r5 := RowIs.alloc (w := w5) (E := 44) (xs := [.int .i64 0, .bool false, .slice none 0 0, .slice none 0 0, .bool false, .slice none 0 0, .int .i64 0, .slice none 0 0])
  change RowIs (w5.alloc (.cells #[.int .i64 0, .bool false, .slice none 0 0, .slice none 0 0, .bool false, .slice none 0 0, .int .i64 0, .slice none 0 0] 44)) _ _ _ at r5
  have k5 : Keeps Nil w5 (w5.alloc (.cells #[.int .i64 0, .bool false, .slice none 0 0, .slice none 0 0, .bool false, .slice none 0 0, .int .i64 0, .slice none 0 0] 44)) := (by repeat (first | exact Keeps.refl _ _ | refine Keeps.drew ?_ | refine Keeps.drewN ?_ _ | refine Keeps.alloc ?_ _))
  generalize w5.alloc (.cells #[.int .i64 0, .bool false, .slice none 0 0, .slice none 0 0, .bool false, .slice none 0 0, .int .i64 0, .slice none 0 0] 44) = w6 at *
  have H6 := Lib.hid (And.intro r5 (H1.out.1.trans (H2.out.trans (H3.out.trans (H4.out.trans (H5.out.trans k5))))))
  clear r5 k5
  go_upto_region 8 with (go_at_call 20; refine (arelease_nil _).mono ?_; rintro e w7 ⟨rfl, hk7⟩; have H7 := Lib.hid hk7; clear hk7)
  go_upto_region 9 with (go_at_call 32; refine (afree_nil _).mono ?_; rintro e w8 ⟨rfl, hk8⟩; have H8 := Lib.hid hk8; clear hk8)
  go_upto_region 10 with (go_at_call 33; refine (areach_nil _).mono ?_; rintro e w9 ⟨rfl, hk9⟩; have H9 := Lib.hid hk9; clear hk9)
  go_upto_region 11 with (go_at_call 34; refine (aplain_nil _).mono ?_; rintro e w10 ⟨rfl, hk10⟩; have H10 := Lib.hid hk10; clear hk10)
  go_wp2_with (first | (go_at_call 17; refine ameter_nil.mono ?_; rintro e w11 ⟨rfl, hk11⟩; have k611 := H7.out.trans (H8.out.trans (H9.out.trans (H10.out.trans hk11))); have r11 := H6.out.1.keep k611 id; have lr := r11.lt; have d0 : w11.cell? ⟨w5.heap.size, 0, none⟩ = some (.int .i64 0) := r11.cell 0; have d7 : w11.cell? ⟨w5.heap.size, 7, none⟩ = some (.slice none 0 0) := r11.cell 7; have H11 := Lib.hid k611; clear hk11 k611 r11) | (go_at_call 16; refine alen_nil.mono ?_; rintro e w12 ⟨rfl, hk12⟩; have H12 := Lib.hid hk12; clear hk12))
  go_ret
  exact ⟨rfl, H6.out.2.trans (H11.out.trans H12.out)⟩
end Go.Proofs.YtnheefnlcnkefaaGreatDoor
