/- What Meet and Join do; what a nil set answers. Conditions: the sets read. -/
import Derived.Test.YtfkclbhddiidbaaGreatKPJoined
import Derived.Test.YtfkclbhddiidbaaGreatKPSame
namespace Go.Proofs.YtfkclbhddiidbaaGreat
open Go.RowKit Go.Rid
def errV (k : Int) : Ending := .returned (.tuple #[.pointer none, .int .i64 k])
/-- What Meet and Join answer. -/
def TwoRet (M : Nat → Prop) (w : World) (S : PSet) (e : Ending) (w' : World) : Prop := ∃ p, e = .returned (.tuple #[.pointer (some ⟨p, 0, none⟩), .int .i64 0]) ∧ SetAt M w' p S ∧ Keeps Nil w w'
section
variable {M : Nat → Prop} {p p2 : Nat} {S O : PSet} {w : World}
set_option maxHeartbeats 1000000 in
theorem meet_ok (hM : MB M w) (hs : SetAt M w p S) (hs2 : SetAt M w p2 O) (hf : Fine S) (hf2 : Fine O) (hq : Nat.lcm S.P O.P ≤ 4096) :
    Calls Tryz.prog 13 #[.pointer (some ⟨p, 0, none⟩), .pointer (some ⟨p2, 0, none⟩)] w fun e w' => TwoRet M w (joined (fun x y => x && y) S O) e w' := by
  have HX := Lib.hid (show Calls _ _ _ _ (TwoRet M w (joined (fun x y => x && y) S O)) from (joined_any hM hs hs2 hf hf2 meet_fn).mono fun e w' h => by
    rcases h with ⟨h1, _⟩ | ⟨_, h⟩
    · omega
    · exact h)
  clear hM hs hs2 hf hf2 hq
  go_enter Tryz.func13, Tryz.ntmps13
  go_wp2_with (go_at_call 48; refine HX.out.mono ?_; rintro e w' ⟨p3, rfl, hs3, hk3⟩)
  go_ret2
  exact ⟨p3, rfl, hs3, hk3⟩
set_option maxHeartbeats 1000000 in
theorem join_ok (hM : MB M w) (hs : SetAt M w p S) (hs2 : SetAt M w p2 O) (hf : Fine S) (hf2 : Fine O) (hq : Nat.lcm S.P O.P ≤ 4096) :
    Calls Tryz.prog 14 #[.pointer (some ⟨p, 0, none⟩), .pointer (some ⟨p2, 0, none⟩)] w fun e w' => TwoRet M w (joined (fun x y => x || y) S O) e w' := by
  have HX := Lib.hid (show Calls _ _ _ _ (TwoRet M w (joined (fun x y => x || y) S O)) from (joined_any hM hs hs2 hf hf2 join_fn).mono fun e w' h => by
    rcases h with ⟨h1, _⟩ | ⟨_, h⟩
    · omega
    · exact h)
  clear hM hs hs2 hf hf2 hq
  go_enter Tryz.func14, Tryz.ntmps14
  go_wp2_with (go_at_call 48; refine HX.out.mono ?_; rintro e w' ⟨p3, rfl, hs3, hk3⟩)
  go_ret2
  exact ⟨p3, rfl, hs3, hk3⟩
set_option maxHeartbeats 1000000 in
theorem meet_err (hM : MB M w) (hs : SetAt M w p S) (hs2 : SetAt M w p2 O) (hf : Fine S) (hf2 : Fine O) (hq : 4096 < Nat.lcm S.P O.P) :
    Calls Tryz.prog 13 #[.pointer (some ⟨p, 0, none⟩), .pointer (some ⟨p2, 0, none⟩)] w fun e w' => e = errV 180 ∧ Keeps Nil w w' := by
  have HX := Lib.hid (show Calls _ _ _ _ (fun e w' => e = .returned (.tuple #[.pointer none, .int .i64 180]) ∧ Keeps Nil w w') from (joined_any hM hs hs2 hf hf2 meet_fn).mono fun e w' h => by
    rcases h with h | h
    · exact h.2
    · have := h.1; omega)
  clear hM hs hs2 hf hf2 hq
  go_enter Tryz.func13, Tryz.ntmps13
  go_wp2_with (go_at_call 48; refine HX.out.mono ?_; rintro e w' ⟨rfl, hk3⟩)
  go_ret2
  exact ⟨rfl, hk3⟩
set_option maxHeartbeats 1000000 in
theorem join_err (hM : MB M w) (hs : SetAt M w p S) (hs2 : SetAt M w p2 O) (hf : Fine S) (hf2 : Fine O) (hq : 4096 < Nat.lcm S.P O.P) :
    Calls Tryz.prog 14 #[.pointer (some ⟨p, 0, none⟩), .pointer (some ⟨p2, 0, none⟩)] w fun e w' => e = errV 180 ∧ Keeps Nil w w' := by
  have HX := Lib.hid (show Calls _ _ _ _ (fun e w' => e = .returned (.tuple #[.pointer none, .int .i64 180]) ∧ Keeps Nil w w') from (joined_any hM hs hs2 hf hf2 join_fn).mono fun e w' h => by
    rcases h with h | h
    · exact h.2
    · have := h.1; omega)
  clear hM hs hs2 hf hf2 hq
  go_enter Tryz.func14, Tryz.ntmps14
  go_wp2_with (go_at_call 48; refine HX.out.mono ?_; rintro e w' ⟨rfl, hk3⟩)
  go_ret2
  exact ⟨rfl, hk3⟩
/-- One is nil. -/
theorem made_no {q q2 : Option Nat} (hp : ∀ p, some p ∈ [q, q2] → ∃ S, SetAt Nil w p S ∧ Fine S) (hn : ([q, q2].all Option.isSome) = false) (W : World) (hk : Keeps Nil w W) (hr : RowIs W w.heap.size 25 [ptrV q, ptrV q2]) :
    Calls Tryz.prog 34 #[.slice (some ⟨w.heap.size, 0, none⟩) 2 2] W fun e w' => e = .returned (.bool false) ∧ W = w' :=
  (made_sets (M := Nil) (ps := [q, q2]) rfl (ptrs2 hr id) (fun x hx => by
    obtain ⟨S, h1, h2⟩ := hp x hx
    exact ⟨S, h1.keepNil hk, h2⟩)).mono fun e w' ⟨he, hw⟩ => ⟨by rw [he, hn], hw⟩
theorem rows222 (w : World) (E1 E2 E3 : TypeId) (u v x : Value) : RowIs ((((w.alloc (.cells #[u] E1)).alloc (.cells #[v] E2)).alloc (.cells #[x] E3)).alloc (.cells #[u, v] E1)) (w.heap.size + 3) E1 [u, v] := by
  have := RowIs.alloc (w := ((w.alloc (.cells #[u] E1)).alloc (.cells #[v] E2)).alloc (.cells #[x] E3)) (E := E1) (xs := [u, v])
  simpa using this
set_option maxHeartbeats 1000000 in
set_option maxRecDepth 100000 in
theorem joined_no {q q2 : Option Nat} {a a2 : Option Addr} {F : Nat} {w : World} (hv : .pointer a = ptrV q) (hv2 : .pointer a2 = ptrV q2) (hp : ∀ p, some p ∈ [q, q2] → ∃ S, SetAt Nil w p S ∧ Fine S) (hn : ([q, q2].all Option.isSome) = false) :
    Calls Tryz.prog 48 #[.pointer a, .pointer a2, .func (.func F) #[] #[]] w fun e w' => e = .returned (.tuple #[.pointer none, .int .i64 1]) ∧ Keeps Nil w w' := by
  obtain ⟨b0, b1, b2, hk0⟩ := rows111 w 25 25 78 (.pointer a) (.pointer a2) (.func (.func F) #[] #[])
  have hp1 : ∀ p, some p ∈ [q, q2] → ∃ S, SetAt Nil (((w.alloc (.cells #[.pointer a] 25)).alloc (.cells #[.pointer a2] 25)).alloc (.cells #[.func (.func F) #[] #[]] 78)) p S ∧ Fine S := fun p hp' => by
    obtain ⟨S, h1, h2⟩ := hp p hp'; exact ⟨S, h1.keepNil hk0, h2⟩
  have HN := Lib.hid (And.intro hp1 hn)
  have HV := Lib.hid (And.intro hv hv2)
  clear hp hp1 hn hv hv2
  obtain ⟨la, ls, ld, ln, ln', ln1, ln1', lc, lf⟩ := liveRules
  go_enter Tryz.func48, Tryz.ntmps48
  go_upto_region 1 with (fail)
  generalize (((w.alloc (.cells #[.pointer a] 25)).alloc (.cells #[.pointer a2] 25)).alloc (.cells #[.func (.func F) #[] #[]] 78)) = w0 at *
  obtain ⟨v0, _⟩ := b0.one
  obtain ⟨v1, _⟩ := b1.one
  have HK := Lib.hid hk0
  clear b0 b1 b2 hk0
  go_wp2_with (go_at_call 34; rw [HV.out.1, HV.out.2]; refine (made_no HN.out.1 HN.out.2 _ (by repeat (first | exact Keeps.refl _ _ | refine Keeps.drew ?_ | refine Keeps.drewN ?_ _ | refine Keeps.alloc ?_ _)) RowIs.alloc).mono ?_; rintro e w' ⟨rfl, rfl⟩)
  go_ret2
  exact ⟨rfl, HK.out.trans (by repeat (first | exact Keeps.refl _ _ | refine Keeps.drew ?_ | refine Keeps.drewN ?_ _ | refine Keeps.alloc ?_ _))⟩
set_option maxHeartbeats 1000000 in
theorem meet_no' {q q2 : Option Nat} {a a2 : Option Addr} {w : World} (hv : .pointer a = ptrV q) (hv2 : .pointer a2 = ptrV q2) (hp : ∀ p, some p ∈ [q, q2] → ∃ S, SetAt Nil w p S ∧ Fine S) (hn : ([q, q2].all Option.isSome) = false) :
    Calls Tryz.prog 13 #[.pointer a, .pointer a2] w fun e w' => e = errV 1 ∧ Keeps Nil w w' := by
  have HX := Lib.hid (joined_no (F := 49) hv hv2 hp hn)
  clear hp hn hv hv2
  go_enter Tryz.func13, Tryz.ntmps13
  go_wp2_with (go_at_call 48; refine HX.out.mono ?_; rintro e w' ⟨rfl, hk⟩)
  go_ret2
  exact ⟨rfl, hk⟩
set_option maxHeartbeats 1000000 in
theorem join_no' {q q2 : Option Nat} {a a2 : Option Addr} {w : World} (hv : .pointer a = ptrV q) (hv2 : .pointer a2 = ptrV q2) (hp : ∀ p, some p ∈ [q, q2] → ∃ S, SetAt Nil w p S ∧ Fine S) (hn : ([q, q2].all Option.isSome) = false) :
    Calls Tryz.prog 14 #[.pointer a, .pointer a2] w fun e w' => e = errV 1 ∧ Keeps Nil w w' := by
  have HX := Lib.hid (joined_no (F := 50) hv hv2 hp hn)
  clear hp hn hv hv2
  go_enter Tryz.func14, Tryz.ntmps14
  go_wp2_with (go_at_call 48; refine HX.out.mono ?_; rintro e w' ⟨rfl, hk⟩)
  go_ret2
  exact ⟨rfl, hk⟩
set_option maxHeartbeats 1000000 in
theorem same_no' {q q2 : Option Nat} {a a2 : Option Addr} {w : World} (hv : .pointer a = ptrV q) (hv2 : .pointer a2 = ptrV q2) (hp : ∀ p, some p ∈ [q, q2] → ∃ S, SetAt Nil w p S ∧ Fine S) (hn : ([q, q2].all Option.isSome) = false) :
    Calls Tryz.prog 11 #[.pointer a, .pointer a2] w fun e w' => e = .returned (.bool false) ∧ Keeps Nil w w' := by
  have HN := Lib.hid (And.intro hp hn)
  have HV := Lib.hid (And.intro hv hv2)
  clear hp hn hv hv2
  go_enter Tryz.func11, Tryz.ntmps11
  go_wp2_with (go_at_call 34; rw [HV.out.1, HV.out.2]; refine (made_no HN.out.1 HN.out.2 _ (by repeat (first | exact Keeps.refl _ _ | refine Keeps.drew ?_ | refine Keeps.drewN ?_ _ | refine Keeps.alloc ?_ _)) RowIs.alloc).mono ?_; rintro e w' ⟨rfl, rfl⟩)
  go_ret
  exact ⟨rfl, (by repeat (first | exact Keeps.refl _ _ | refine Keeps.drew ?_ | refine Keeps.drewN ?_ _ | refine Keeps.alloc ?_ _))⟩
theorem ptr_of (q : Option Nat) : ∃ a, .pointer a = ptrV q := by cases q; exact ⟨_, rfl⟩; exact ⟨_, rfl⟩
theorem same_no {q q2 : Option Nat} {w : World} (hp : ∀ p, some p ∈ [q, q2] → ∃ S, SetAt Nil w p S ∧ Fine S) (hn : ([q, q2].all Option.isSome) = false) :
    Calls Tryz.prog 11 #[ptrV q, ptrV q2] w fun e w' => e = .returned (.bool false) ∧ Keeps Nil w w' := by
  obtain ⟨a, ha⟩ := ptr_of q
  obtain ⟨a2, ha2⟩ := ptr_of q2
  rw [← ha, ← ha2]; exact same_no' ha ha2 hp hn
theorem meet_no {q q2 : Option Nat} {w : World} (hp : ∀ p, some p ∈ [q, q2] → ∃ S, SetAt Nil w p S ∧ Fine S) (hn : ([q, q2].all Option.isSome) = false) :
    Calls Tryz.prog 13 #[ptrV q, ptrV q2] w fun e w' => e = errV 1 ∧ Keeps Nil w w' := by
  obtain ⟨a, ha⟩ := ptr_of q
  obtain ⟨a2, ha2⟩ := ptr_of q2
  rw [← ha, ← ha2]; exact meet_no' ha ha2 hp hn
theorem join_no {q q2 : Option Nat} {w : World} (hp : ∀ p, some p ∈ [q, q2] → ∃ S, SetAt Nil w p S ∧ Fine S) (hn : ([q, q2].all Option.isSome) = false) :
    Calls Tryz.prog 14 #[ptrV q, ptrV q2] w fun e w' => e = errV 1 ∧ Keeps Nil w w' := by
  obtain ⟨a, ha⟩ := ptr_of q
  obtain ⟨a2, ha2⟩ := ptr_of q2
  rw [← ha, ← ha2]; exact join_no' ha ha2 hp hn
theorem has_no {g : Bool} {a : Option Addr} {n c : Nat} {w : World} : Calls Tryz.prog 17 #[.pointer none, .agg #[.bool g, .slice a n c]] w fun e w' => e = .returned (.bool false) ∧ Keeps Nil w w' := by
  go_enter Tryz.func17, Tryz.ntmps17
  go_wp2_with fail
  go_quiet (fail)
  go_wp2_with fail
  go_ret
  exact ⟨rfl, (by repeat (first | exact Keeps.refl _ _ | refine Keeps.drew ?_ | refine Keeps.drewN ?_ _ | refine Keeps.alloc ?_ _))⟩
theorem cuts_no {w : World} : Calls Tryz.prog 18 #[.pointer none] w fun e w' => e = .returned (.slice none 0 0) ∧ w = w' := by
  go_enter Tryz.func18, Tryz.ntmps18
  go_wp2_with fail
  go_ret
  exact ⟨rfl, rfl⟩
theorem period_no {w : World} : Calls Tryz.prog 19 #[.pointer none] w fun e w' => e = .returned (.int .i64 0) ∧ w = w' := by
  go_enter Tryz.func19, Tryz.ntmps19
  go_wp2_with fail
  go_ret
  exact ⟨rfl, rfl⟩
end
end Go.Proofs.YtfkclbhddiidbaaGreat
