/- What riddleref18's Meet and Join do. Conditions: the sets' own reading; room. -/
import Derived.Test.YtfkclbhddiidbaaGreatKRJoined
namespace Go.Rid
theorem refF_true : refF true = fun x y => x && y := by funext x y; cases x <;> cases y <;> rfl
theorem refF_false : refF false = fun x y => x || y := by funext x y; cases x <;> cases y <;> rfl
end Go.Rid
namespace Go.Proofs.YtfkclbhddiidbaaGreat
open Go.RowKit Go.Rid
theorem RJoinRet.no {M : Nat → Prop} {w w' : World} {f : Bool → Bool → Bool} {S O : PSet} {e : Ending} (h : RJoinRet M w f S O e w') (hq : 4096 < Nat.lcm S.P O.P) : RSetNo w 180 e w' := by
  rcases h with ⟨_, h⟩ | ⟨h, _⟩
  · exact h
  · exact absurd hq h
theorem RJoinRet.yes {M : Nat → Prop} {w w' : World} {f : Bool → Bool → Bool} {S O : PSet} {e : Ending} (h : RJoinRet M w f S O e w') (hq : ¬ 4096 < Nat.lcm S.P O.P) : RSetYes M w (Rid.joined f S O) e w' := by
  rcases h with ⟨h, _⟩ | ⟨_, h⟩
  · exact absurd h hq
  · exact h
set_option maxHeartbeats 2000000 in
theorem refmeet_any {M : Nat → Prop} {ac ar ac2 ar2 : Option Addr} {nc cc nr cr nc2 cc2 nr2 cr2 : Nat} {S O : PSet} {w : World} (hM : MB M w) (hs : SV M w ac nc cc ar nr cr S) (hs2 : SV M w ac2 nc2 cc2 ar2 nr2 cr2 O) (hf : Fine S) (hf2 : Fine O) :
    Calls Tryz.prog 30 #[.agg #[.int .i64 (S.P : Int), .slice ac nc cc, .slice ar nr cr], .agg #[.int .i64 (O.P : Int), .slice ac2 nc2 cc2, .slice ar2 nr2 cr2]] w fun e w' => RJoinRet M w (fun x y => x && y) S O e w' := by
  have HM := Lib.hid hM
  have HF := Lib.hid (And.intro hf hf2)
  have HRS := Lib.hid (rows3V w 30 30 30 [.int .i64 (S.P : Int), .slice ac nc cc, .slice ar nr cr] [.int .i64 (O.P : Int), .slice ac2 nc2 cc2, .slice ar2 nr2 cr2] [.int .i64 0, .slice none 0 0, .slice none 0 0])
  have hW6 : ∀ b, b < w.heap.size → With M (w.heap.size + 1 + 1) b → M b := fun b hb hm => by
    rcases hm with hm | hm
    · exact hm
    · have : b = w.heap.size + 1 + 1 := hm; omega
  have HS := Lib.hid (And.intro hs (And.intro hs2 hW6))
  clear hM hs hs2 hf hf2 hW6
  go_enter Tryz.func30, Tryz.ntmps30
  go_upto_region 1 with (fail)
  obtain ⟨r0, r1, r2, hk0⟩ := HRS.out
  clear HRS
  generalize ((w.alloc (.cells #[.int .i64 (S.P : Int), .slice ac nc cc, .slice ar nr cr] 30)).alloc (.cells #[.int .i64 (O.P : Int), .slice ac2 nc2 cc2, .slice ar2 nr2 cr2] 30)).alloc (.cells #[.int .i64 0, .slice none 0 0, .slice none 0 0] 30) = w0 at *
  obtain ⟨d0, d1, d2⟩ := r0.three
  obtain ⟨e0, e1, e2⟩ := r1.three
  have HB := Lib.hid (And.intro r2 (And.intro hk0 ((HM.out.keep hk0).with r2.lt)))
  have HS0 := Lib.hid (And.intro (HS.out.1.move hk0 (M2 := With M (w.heap.size + 1 + 1)) (fun _ _ h => h.elim) HS.out.2.2) (HS.out.2.1.move hk0 (M2 := With M (w.heap.size + 1 + 1)) (fun _ _ h => h.elim) HS.out.2.2))
  clear r0 r1 r2 hk0 HS
  by_cases hq : 4096 < Nat.lcm S.P O.P
  · have HQ := Lib.hid hq
    clear hq
    go_wp2_with (go_at_call 65; refine (refjoined_any (m := true) HB.out.2.2 HS0.out.1 HS0.out.2 HF.out.1 HF.out.2).mono ?_; rintro e w1 hr; obtain ⟨rfl, hk1⟩ := hr.no HQ.out; obtain ⟨k0, k1, k2⟩ := (HB.out.1.keep hk1 id).three; have f0 := (HB.out.1.keep hk1 id).frozen 0; have f1 := (HB.out.1.keep hk1 id).frozen 1; have f2 := (HB.out.1.keep hk1 id).frozen 2; have H1 := Lib.hid (And.intro (HB.out.1.keep hk1 id) (HB.out.2.1.trans hk1)); clear hk1)
    obtain ⟨k0, k1, k2⟩ := (H1.out.1.triple (u' := .int .i64 0) (v' := .slice none 0 0) (x' := .slice none 0 0)).three
    exact bodyPost_ret (v := .tuple #[.agg #[.int .i64 0, .slice none 0 0, .slice none 0 0], .int .i64 180]) (by simp [results, Tryz.results30, go_sem, k0, k1, k2]) rfl (.inl ⟨HQ.out, rfl, H1.out.2.own (by omega) (Keeps.triple _ _ _)⟩)
  · have HQ := Lib.hid hq
    clear hq
    go_wp2_with (go_at_call 65; refine (refjoined_any (m := true) HB.out.2.2 HS0.out.1 HS0.out.2 HF.out.1 HF.out.2).mono ?_; rintro e w1 hr; obtain ⟨ac9, nc9, cc9, ar9, nr9, cr9, rfl, hsv, hk1⟩ := hr.yes HQ.out; clear hr; obtain ⟨k0, k1, k2⟩ := (HB.out.1.keep hk1 id).three; have f0 := (HB.out.1.keep hk1 id).frozen 0; have f1 := (HB.out.1.keep hk1 id).frozen 1; have f2 := (HB.out.1.keep hk1 id).frozen 2; have H1 := Lib.hid (And.intro (HB.out.1.keep hk1 id) (And.intro (HB.out.2.1.trans hk1) hsv)); clear hk1 hsv)
    obtain ⟨k0, k1, k2⟩ := (H1.out.1.triple (u' := .int .i64 ((Rid.joined (refF true) S O).P : Int)) (v' := .slice ac9 nc9 cc9) (x' := .slice ar9 nr9 cr9)).three
    refine bodyPost_ret (v := .tuple #[.agg #[.int .i64 ((Rid.joined (refF true) S O).P : Int), .slice ac9 nc9 cc9, .slice ar9 nr9 cr9], .int .i64 0]) (by simp [results, Tryz.results30, go_sem, k0, k1, k2]) rfl (.inr ⟨HQ.out, ?_⟩)
    rw [← refF_true]
    exact ⟨_, _, _, _, _, _, rfl, H1.out.2.2.move (M' := One (w.heap.size + 1 + 1)) (Keeps.triple _ _ _) (fun _ _ h => .inr h) (fun _ _ h => .inl h), H1.out.2.1.own (by omega) (Keeps.triple _ _ _)⟩
set_option maxHeartbeats 2000000 in
theorem refjoin_any {M : Nat → Prop} {ac ar ac2 ar2 : Option Addr} {nc cc nr cr nc2 cc2 nr2 cr2 : Nat} {S O : PSet} {w : World} (hM : MB M w) (hs : SV M w ac nc cc ar nr cr S) (hs2 : SV M w ac2 nc2 cc2 ar2 nr2 cr2 O) (hf : Fine S) (hf2 : Fine O) :
    Calls Tryz.prog 31 #[.agg #[.int .i64 (S.P : Int), .slice ac nc cc, .slice ar nr cr], .agg #[.int .i64 (O.P : Int), .slice ac2 nc2 cc2, .slice ar2 nr2 cr2]] w fun e w' => RJoinRet M w (fun x y => x || y) S O e w' := by
  have HM := Lib.hid hM
  have HF := Lib.hid (And.intro hf hf2)
  have HRS := Lib.hid (rows3V w 30 30 30 [.int .i64 (S.P : Int), .slice ac nc cc, .slice ar nr cr] [.int .i64 (O.P : Int), .slice ac2 nc2 cc2, .slice ar2 nr2 cr2] [.int .i64 0, .slice none 0 0, .slice none 0 0])
  have hW6 : ∀ b, b < w.heap.size → With M (w.heap.size + 1 + 1) b → M b := fun b hb hm => by
    rcases hm with hm | hm
    · exact hm
    · have : b = w.heap.size + 1 + 1 := hm; omega
  have HS := Lib.hid (And.intro hs (And.intro hs2 hW6))
  clear hM hs hs2 hf hf2 hW6
  go_enter Tryz.func31, Tryz.ntmps31
  go_upto_region 1 with (fail)
  obtain ⟨r0, r1, r2, hk0⟩ := HRS.out
  clear HRS
  generalize ((w.alloc (.cells #[.int .i64 (S.P : Int), .slice ac nc cc, .slice ar nr cr] 30)).alloc (.cells #[.int .i64 (O.P : Int), .slice ac2 nc2 cc2, .slice ar2 nr2 cr2] 30)).alloc (.cells #[.int .i64 0, .slice none 0 0, .slice none 0 0] 30) = w0 at *
  obtain ⟨d0, d1, d2⟩ := r0.three
  obtain ⟨e0, e1, e2⟩ := r1.three
  have HB := Lib.hid (And.intro r2 (And.intro hk0 ((HM.out.keep hk0).with r2.lt)))
  have HS0 := Lib.hid (And.intro (HS.out.1.move hk0 (M2 := With M (w.heap.size + 1 + 1)) (fun _ _ h => h.elim) HS.out.2.2) (HS.out.2.1.move hk0 (M2 := With M (w.heap.size + 1 + 1)) (fun _ _ h => h.elim) HS.out.2.2))
  clear r0 r1 r2 hk0 HS
  by_cases hq : 4096 < Nat.lcm S.P O.P
  · have HQ := Lib.hid hq
    clear hq
    go_wp2_with (go_at_call 65; refine (refjoined_any (m := false) HB.out.2.2 HS0.out.1 HS0.out.2 HF.out.1 HF.out.2).mono ?_; rintro e w1 hr; obtain ⟨rfl, hk1⟩ := hr.no HQ.out; obtain ⟨k0, k1, k2⟩ := (HB.out.1.keep hk1 id).three; have f0 := (HB.out.1.keep hk1 id).frozen 0; have f1 := (HB.out.1.keep hk1 id).frozen 1; have f2 := (HB.out.1.keep hk1 id).frozen 2; have H1 := Lib.hid (And.intro (HB.out.1.keep hk1 id) (HB.out.2.1.trans hk1)); clear hk1)
    obtain ⟨k0, k1, k2⟩ := (H1.out.1.triple (u' := .int .i64 0) (v' := .slice none 0 0) (x' := .slice none 0 0)).three
    exact bodyPost_ret (v := .tuple #[.agg #[.int .i64 0, .slice none 0 0, .slice none 0 0], .int .i64 180]) (by simp [results, Tryz.results31, go_sem, k0, k1, k2]) rfl (.inl ⟨HQ.out, rfl, H1.out.2.own (by omega) (Keeps.triple _ _ _)⟩)
  · have HQ := Lib.hid hq
    clear hq
    go_wp2_with (go_at_call 65; refine (refjoined_any (m := false) HB.out.2.2 HS0.out.1 HS0.out.2 HF.out.1 HF.out.2).mono ?_; rintro e w1 hr; obtain ⟨ac9, nc9, cc9, ar9, nr9, cr9, rfl, hsv, hk1⟩ := hr.yes HQ.out; clear hr; obtain ⟨k0, k1, k2⟩ := (HB.out.1.keep hk1 id).three; have f0 := (HB.out.1.keep hk1 id).frozen 0; have f1 := (HB.out.1.keep hk1 id).frozen 1; have f2 := (HB.out.1.keep hk1 id).frozen 2; have H1 := Lib.hid (And.intro (HB.out.1.keep hk1 id) (And.intro (HB.out.2.1.trans hk1) hsv)); clear hk1 hsv)
    obtain ⟨k0, k1, k2⟩ := (H1.out.1.triple (u' := .int .i64 ((Rid.joined (refF false) S O).P : Int)) (v' := .slice ac9 nc9 cc9) (x' := .slice ar9 nr9 cr9)).three
    refine bodyPost_ret (v := .tuple #[.agg #[.int .i64 ((Rid.joined (refF false) S O).P : Int), .slice ac9 nc9 cc9, .slice ar9 nr9 cr9], .int .i64 0]) (by simp [results, Tryz.results31, go_sem, k0, k1, k2]) rfl (.inr ⟨HQ.out, ?_⟩)
    rw [← refF_false]
    exact ⟨_, _, _, _, _, _, rfl, H1.out.2.2.move (M' := One (w.heap.size + 1 + 1)) (Keeps.triple _ _ _) (fun _ _ h => .inr h) (fun _ _ h => .inl h), H1.out.2.1.own (by omega) (Keeps.triple _ _ _)⟩
end Go.Proofs.YtfkclbhddiidbaaGreat
