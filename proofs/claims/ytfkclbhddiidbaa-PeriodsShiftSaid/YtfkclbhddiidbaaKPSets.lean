/- What the laws' own 'sets' does: all wanted sets, one behind the other. Conditions: the recipe reads. -/
import Derived.Test.YtfkclbhddiidbaaKPDo
namespace Go.Rid
open Go.RowKit
def Makes (M : Nat → Prop) (w : World) (a : Option Addr) (n c : Nat) (l : List Mk) : Prop := SlOf M w 7 (RMk M w) ⟨0, 0, 0, 0, 0⟩ a n c l
theorem Makes.keepNil {M : Nat → Prop} {w w' : World} {a : Option Addr} {n c : Nat} {l : List Mk} (h : Makes M w a n c l) (k : Keeps Nil w w') : Makes M w' a n c l :=
  SlOf.move h k (fun _ _ h => h.elim) (fun _ _ => id) fun _ _ hx => RMk.moves hx k (fun _ _ h => h.elim) fun _ _ => id
theorem Makes.at {M : Nat → Prop} {w : World} {a : Option Addr} {n c : Nat} {l : List Mk} (h : Makes M w a n c l) {i : Nat} (hi : i < n) :
    ∃ b off m g a1 n1 c1 g2 a2 n2 c2, m = l.getD i ⟨0, 0, 0, 0, 0⟩ ∧ a = some ⟨b, off, none⟩ ∧ b < w.heap.size ∧ (w.cell? ⟨b, off + i * 7, none⟩ = some (.int .i64 m.kind) ∧ w.cell? ⟨b, off + i * 7 + 1, none⟩ = some (.int .i64 m.a) ∧ w.cell? ⟨b, off + i * 7 + 2, none⟩ = some (.int .i64 m.b) ∧
      w.cell? ⟨b, off + i * 7 + 3, none⟩ = some (.bool g) ∧ w.cell? ⟨b, off + i * 7 + 4, none⟩ = some (.slice a1 n1 c1) ∧ w.cell? ⟨b, off + i * 7 + 5, none⟩ = some (.bool g2) ∧ w.cell? ⟨b, off + i * 7 + 6, none⟩ = some (.slice a2 n2 c2)) ∧
      ZAt M w g a1 n1 c1 m.k ∧ ZAt M w g2 a2 n2 c2 m.d ∧ n1 * 4 + 4096 ≤ 140737488355328 ∧ n2 * 4 + 4096 ≤ 140737488355328 ∧ I64 m.kind ∧ I64 m.a ∧ I64 m.b := by
  obtain ⟨b, off, cs, rfl, hb, hn, hl, hc, g, a1, n1, c1, g2, a2, n2, c2, rfl, r⟩ := SlOf.at h hi
  exact ⟨b, off, _, g, a1, n1, c1, g2, a2, n2, c2, rfl, rfl, hb, ⟨hc 0 (by omega), hc 1 (by omega), hc 2 (by omega), hc 3 (by omega), hc 4 (by omega), hc 5 (by omega), hc 6 (by omega)⟩, r⟩
theorem Makes.fit {w : World} {a : Option Addr} {n c : Nat} {l : List Mk} (h : Makes Nil w a n c l) : ∀ m ∈ l, nlen m.k.natAbs * 4 + 4096 ≤ 140737488355328 := by
  intro m hm
  obtain ⟨i, hi, rfl⟩ := List.mem_iff_getElem.1 hm
  obtain ⟨b, off, m', g, a1, n1, c1, g2, a2, n2, c2, rfl, _, _, _, hz, _, hr, _⟩ := h.at (i := i) (by have : l.length = n := SlOf.len h; omega)
  have e : l.getD i ⟨0, 0, 0, 0, 0⟩ = l[i] := by simp [List.getD, List.getElem?_eq_getElem hi]
  rw [e] at hz
  have := hz.nlen_le
  omega
end Go.Rid
namespace Go.Proofs.Ytfkclbhddiidbaa
open Go.RowKit Go.Rid
theorem info_setp : (Try.prog.info? 27).map (fun i => (i.zero, i.size, i.bytes)) = some (some (.pointer none), 1, 8) := by kernel_rfl
/-- What 'sets' answers. -/
def SetsRet (M : Nat → Prop) (w : World) (l : List Mk) (e : Ending) (w' : World) : Prop := ∃ a c, e = .returned (.slice a (buildS l).length c) ∧ Sets M M w' a (buildS l).length c (buildS l) ∧ Keeps Nil w w'
/-- The last one. -/
theorem grown_last {M : Nat → Prop} {w : World} {base : Nat} {v : Value} {els : List (List Value)} {out : List PSet} (h : Grown RSet noneSet 27 1 M w base v els out) (hl : 1 ≤ out.length) :
    ∃ g cap p, v = .slice (some ⟨g, 0, none⟩) els.length cap ∧ els.length ≤ cap ∧ cap ≤ 9223372036854775807 ∧ w.cell? ⟨g, els.length - 1, none⟩ = some (.pointer (some ⟨p, 0, none⟩)) ∧ g < w.heap.size := by
  have hlen := h.len
  rcases h.own.form with ⟨_, e⟩ | ⟨g, cap, rest, e, hr, h1, h2, _, _⟩
  · rw [e] at hlen; simp only [List.length_nil] at hlen; omega
  · obtain ⟨p, e2, _⟩ := h.el (els.length - 1) (by omega)
    have hf := flatten_get els h.own.sz (els.length - 1) 0 (by omega) (by omega)
    rw [e2] at hf
    refine ⟨g, cap, p, e, h1, h2, ?_, hr.lt⟩
    rw [hr.cell]
    simp only [Nat.mul_one, Nat.add_zero] at hf
    rw [List.getElem?_append_left (List.getElem?_eq_some_iff.1 hf).1, hf]; rfl
theorem do_inl {M : Nat → Prop} {w w' : World} {r : Int ⊕ PSet} {x : Int} {e : Ending} (hr : r = .inl x) (h : DoRet M w r e w') : ∃ k, k ≠ 0 ∧ e = .returned (.tuple #[.pointer none, .int .i64 k]) ∧ Keeps Nil w w' := by
  rcases h with ⟨k, _, h⟩ | ⟨S, p, h, _⟩
  · exact ⟨k, h⟩
  · rw [hr] at h; cases h
theorem do_inr {M : Nat → Prop} {w w' : World} {r : Int ⊕ PSet} {S : PSet} {e : Ending} (hr : r = .inr S) (h : DoRet M w r e w') : TwoRet M w S e w' := by
  rcases h with ⟨k, h, _⟩ | ⟨S', p, h, h2⟩
  · rw [hr] at h; cases h
  · rw [hr] at h; cases h; exact ⟨p, h2⟩
set_option maxHeartbeats 4000000 in
set_option maxRecDepth 100000 in
theorem sets_any {M : Nat → Prop} {a : Option Addr} {n c : Nat} {l : List Mk} {w : World} (hM : MB M w) (h : Makes Nil w a n c l) :
    Calls Try.prog 6 #[.slice a n c] w fun e w' => SetsRet M w l e w' := by
  obtain ⟨i1, hi1⟩ := info_parts info_setp
  have hroom := roomy_cuts h.fit
  have hlen : l.length = n := SlOf.len h
  have hcap := SlOf.cap h
  have hle := SlOf.le h
  have HI := Lib.hid (And.intro hi1 (And.intro hroom hlen))
  have HM := Lib.hid hM
  have HL := Lib.hid h
  clear hi1 hM h hroom hlen
  go_enter Try.func6, Try.ntmps6
  go_upto_region 2 with (go_at_call 20; refine (none_any HM.out).mono ?_; rintro e w1 ⟨p, rfl, hs, hk1⟩)
  have hk2 : Keeps Nil w (w1.alloc (.cells #[.pointer (some ⟨p, 0, none⟩)] 27)) := (by repeat (first | exact Keeps.refl _ _ | assumption | refine Keeps.drew ?_ | refine Keeps.drewN ?_ _ | refine Keeps.alloc ?_ _ | exact Keeps.of_nil (by assumption) | refine Keeps.trans ?_ (Keeps.of_nil (by assumption)) | refine Keeps.setCell ?_ (.inr (by first | exact Nat.le_refl _ | (dsimp only; omega))) _ | refine Keeps.setCell ?_ (.inl (by first | (unfold Old; dsimp only; omega) | (unfold Old; simp; omega) | (unfold Old; simp))) _))
  have r0 := RowIs.alloc (w := w1) (E := 27) (xs := [.pointer (some ⟨p, 0, none⟩)])
  change RowIs (w1.alloc (.cells #[.pointer (some ⟨p, 0, none⟩)] 27)) _ _ _ at r0
  have hg : Grown RSet noneSet 27 1 M (w1.alloc (.cells #[.pointer (some ⟨p, 0, none⟩)] 27)) w.heap.size (.slice (some ⟨w1.heap.size, 0, none⟩) 1 1) [[.pointer (some ⟨p, 0, none⟩)]] [noneSet] := by
    refine ⟨OwnEls.ofRow1 r0 hk1.size, rfl, fun i hi => ?_⟩
    obtain rfl : i = 0 := by simpa using hi
    refine ⟨p, rfl, hs.move (M' := Nil) (by repeat (first | exact Keeps.refl _ _ | refine Keeps.drew ?_ | refine Keeps.drewN ?_ _ | refine Keeps.alloc ?_ _)) (fun _ _ h => h.elim) fun b hb hm => ?_⟩
    rcases hm with hm | hm
    · exact hm
    · simp [Value.ownBlock] at hm; omega
  generalize w1.alloc (.cells #[.pointer (some ⟨p, 0, none⟩)] 27) = w2 at *
  have HG := Lib.hid (And.intro hg hk2)
  clear hg hk2 r0 hs hk1
  go_wp2_with fail
  go_loopw [3, 4] (fun v i wr => ∃ (k : Nat) (els : List (List Value)), k ≤ n ∧ k ≤ 12 ∧ i = .int .i64 k ∧ Grown RSet noneSet 27 1 M wr w.heap.size v els ((l.take k).foldl stepS [noneSet]) ∧ Keeps Nil w wr) (fun _ i _ => 12 - (intOf i).toNat)
  case atStart => exact ⟨0, _, Nat.zero_le _, Nat.zero_le _, rfl, HG.out.1, HG.out.2⟩
  case round =>
    clear HG
    obtain ⟨k, els, hk, hk12, rfl, hg, hkk⟩ := hrel
    have hll := length_fold (l.take k) [noneSet]
    simp only [List.length_singleton, List.length_take] at hll
    obtain ⟨gl, cap, pl, hv, hcap1, hcap2, xl, hlb⟩ := grown_last hg (by omega)
    subst hv
    obtain ⟨m, hm⟩ : ∃ m, els.length = m + 1 := ⟨els.length - 1, by have := hg.len; omega⟩
    have hm13 : m ≤ 12 := by have := hg.len; omega
    rw [hm] at xl hcap1
    rw [show m + 1 - 1 = m by omega] at xl
    have j1 : IntKind.i64.wrap (m : Int) = (m : Int) := IntWalk.i64_in _ (by omega)
    have j2 : IntKind.i64.wrap ((m : Int) + 1 - 1) = (m : Int) := by rw [show (m : Int) + 1 - 1 = (m : Int) by omega]; exact j1
    have j3 : IntKind.i64.wrap (((m + 1 : Nat) : Int) - 1) = (m : Int) := by rw [show ((m + 1 : Nat) : Int) - 1 = (m : Int) by omega]; exact j1
    have j4 : (0 : Int) ≤ (m : Int) := by omega
    have j5 : (m : Int) < ((m + 1 : Nat) : Int) := by omega
    have j6 : (m : Int) < (m : Int) + 1 := by omega
    have HGR := Lib.hid (And.intro hg (And.intro hkk (And.intro hm hll)))
    rw [hm]
    clear hg hkk hll
    by_cases hlt : k < n ∧ k < 12
    · obtain ⟨h1, h2⟩ := hlt
      have i2 : (k : Int) < (n : Int) := by omega
      have i3 : decide ((k : Int) < (n : Int)) = true := decide_eq_true i2
      have i4 : (k : Int) < 12 := by omega
      have i5 : (0 : Int) ≤ (k : Int) := by omega
      obtain ⟨b, off, mk, g, a1, n1, c1, g2, a2, n2, c2, hmk, hae, hb, ⟨x0, x1, x2, x3, x4, x5, x6⟩, hz, hz2, hr1, hr2, q1, q2, q3⟩ := (HL.out.keepNil HGR.out.2.1).at h1
      subst hae
      obtain ⟨out, hout⟩ : ∃ out, out = (l.take k).foldl stepS [noneSet] := ⟨_, rfl⟩
      have hg := HGR.out.1
      rw [← hout] at hg
      have hsl := OwnEls.sl (M := Nil) hg.own (fun _ _ h => h) hg.len hg.el
      obtain ⟨ax, cx, hvx, hsx⟩ := hsl
      cases hvx
      rw [hm] at hsx
      have hfine : ∀ S ∈ out, Fine S := fun S hS => (good_build l k hk12 S (by rw [← hout]; exact hS)).fine HI.out.2.1
      have hMB := MB.and (HM.out.keep HGR.out.2.1) hg.own (Nat.le_refl _)
      have hds : (l.take (k + 1)).foldl stepS [noneSet] = stepS out mk := by
        rw [take_get l ⟨0, 0, 0, 0, 0⟩ (by have := HI.out.2.2; omega), List.foldl_append, ← hout, hmk]; rfl
      have HX := Lib.hid (And.intro hg (And.intro hsx (And.intro hfine (And.intro hMB hds))))
      have HZ := Lib.hid (And.intro hz (And.intro hz2 (And.intro hr1 (And.intro hr2 (And.intro q1 (And.intro q2 q3))))))
      have hlo : out.length = m + 1 := by rw [hg.len, hm]
      clear hg hsx hfine hMB hds hz hz2 hr1 hr2 q1 q2 q3 hout hmk
      cases hdo : doR mk out with
      | inl x =>
        have HDO := Lib.hid hdo
        clear hdo
        go_wp2_with (go_at_call 21; refine (do_any HX.out.2.2.2.1 HZ.out.1 HZ.out.2.1 HZ.out.2.2.1 HZ.out.2.2.2.1 HZ.out.2.2.2.2.1 HZ.out.2.2.2.2.2.1 HZ.out.2.2.2.2.2.2 HX.out.2.1 (by omega) (by omega) HX.out.2.2.1).mono ?_; rintro e w3 hc; obtain ⟨kx, hkx, rfl, hk3⟩ := do_inl HDO.out hc; have hkx' : (kx == 0) = false := (by simpa using hkx); clear hc)
        go_roundw
        case rel => exact ⟨k + 1, els, by omega, by omega, by go_num, by rw [HX.out.2.2.2.2]; unfold stepS; rw [HDO.out]; exact (hm ▸ HX.out.1.keepNil RSet.moves hk3), HGR.out.2.1.trans hk3⟩
        case measure => simp [intOf]; omega
      | inr S =>
        have HDO := Lib.hid hdo
        clear hdo
        go_wp2_with (first | (go_at_call 21; refine (do_any HX.out.2.2.2.1 HZ.out.1 HZ.out.2.1 HZ.out.2.2.1 HZ.out.2.2.2.1 HZ.out.2.2.2.2.1 HZ.out.2.2.2.2.2.1 HZ.out.2.2.2.2.2.2 HX.out.2.1 (by omega) (by omega) HX.out.2.2.1).mono ?_; rintro e w3 hc; obtain ⟨p3, rfl, hs3, hk3⟩ := do_inr HDO.out hc; have H3 := Lib.hid (And.intro hs3 hk3); clear hc hs3 hk3) | (at_builtin; refine wpList_append_els _ rfl (.tmp 37) (.tmp 39) 24 rfl w.heap.size 27 i1 (.pointer none) 1 8 Try.underlying24 HI.out.1.1 HI.out.1.2.1 HI.out.1.2.2.1 HI.out.1.2.2.2 rfl (by decide) (.slice (some ⟨gl, 0, none⟩) els.length cap) els (by rw [hm]; rfl) ((HX.out.1.own.keepNil H3.out.2).keepNil (by repeat (first | exact Keeps.refl _ _ | refine Keeps.drew ?_ | refine Keeps.drewN ?_ _ | refine Keeps.alloc ?_ _))) ⟨w3.heap.size, 0, none⟩ 1 1 [[.pointer (some ⟨p3, 0, none⟩)]] rfl rfl (by simp) (alloc_news _ _ _) (by simp [Value.oneCell']) (by omega) (by omega) (by have := HGR.out.2.1.size; have := H3.out.2.size; simp; omega) ?_; intro v' w4 ho hk4 hf4 _; have HO := Lib.hid (And.intro ho (And.intro hk4 hf4)); clear ho hk4 hf4))
        go_roundw
        case rel =>
          have h1 := (HX.out.1.keepNil RSet.moves H3.out.2).keepNil RSet.moves (w' := w3.alloc (.cells #[.pointer (some ⟨p3, 0, none⟩)] 27)) (by repeat (first | exact Keeps.refl _ _ | refine Keeps.drew ?_ | refine Keeps.drewN ?_ _ | refine Keeps.alloc ?_ _))
          refine ⟨k + 1, els ++ [[.pointer (some ⟨p3, 0, none⟩)]], by omega, by omega, by go_num, ?_, ((HGR.out.2.1.trans H3.out.2).trans (by repeat (first | exact Keeps.refl _ _ | refine Keeps.drew ?_ | refine Keeps.drewN ?_ _ | refine Keeps.alloc ?_ _))).trans' HO.out.2.1 (fun b hb => .inr (HX.out.1.own.lt b hb).1)⟩
          rw [HX.out.2.2.2.2]
          unfold stepS
          rw [HDO.out]
          exact Grown.snoc RSet.moves h1 ⟨p3, rfl, H3.out.1.keepNil (by repeat (first | exact Keeps.refl _ _ | refine Keeps.drew ?_ | refine Keeps.drewN ?_ _ | refine Keeps.alloc ?_ _))⟩ HO.out.1 HO.out.2.1 HO.out.2.2
        case measure => simp [intOf]; omega
    · have hb : buildS l = (l.take k).foldl stepS [noneSet] := by
        unfold buildS
        by_cases h1 : k = 12
        · rw [h1]
        · rw [List.take_of_length_le (by have := HI.out.2.2; omega), List.take_of_length_le (by have := HI.out.2.2; omega)]
      have hg := HGR.out.1
      rw [← hb] at hg
      have hsl := hg.sl RSet.moves (fun b hb => HM.out b hb)
      obtain ⟨ax, cx, hvx, hsx⟩ := hsl
      cases hvx
      have hbl : (buildS l).length = m + 1 := by rw [hg.len, hm]
      have HX := Lib.hid (And.intro hsx hbl)
      clear hg hsx hb hbl
      by_cases h1 : k < n
      · have h2 : k = 12 := by omega
        have i2 : (k : Int) < (n : Int) := by omega
        have i3 : decide ((k : Int) < (n : Int)) = true := decide_eq_true i2
        have i4 : ¬ (k : Int) < 12 := by omega
        have i5 : decide ((k : Int) < 12) = false := decide_eq_false i4
        clear h2
        go_wp2_with fail
        go_ret
        exact ⟨_, _, by rw [HX.out.2]; rfl, by rw [HX.out.2, ← hm]; exact HX.out.1, HGR.out.2.1⟩
      · have i2 : ¬ (k : Int) < (n : Int) := by omega
        have i3 : decide ((k : Int) < (n : Int)) = false := decide_eq_false i2
        go_wp2_with fail
        go_ret
        exact ⟨_, _, by rw [HX.out.2]; rfl, by rw [HX.out.2, ← hm]; exact HX.out.1, HGR.out.2.1⟩
end Go.Proofs.Ytfkclbhddiidbaa
