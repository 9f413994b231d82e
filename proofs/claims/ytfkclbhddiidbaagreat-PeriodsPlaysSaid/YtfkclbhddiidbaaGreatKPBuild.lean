/- Plain: the sets that a recipe makes, one behind the other; all their cuts are among few. Nothing of the program; no condition. -/
import Derived.Test.YtfkclbhddiidbaaGreatKPMeet
import Derived.Test.YtfkclbhddiidbaaGreatKPLaw1
import Derived.Test.YtfkclbhddiidbaaGreatKPRead
namespace Go.Rid
/-- One wanted set, of those that there are; or an error. -/
def doR (m : Mk) (l : List PSet) : Int ⊕ PSet :=
  let A := l.getD (pk m.a l.length) noneSet
  let B := l.getD (pk m.b l.length) noneSet
  let k := pk m.kind 8
  if k = 0 ∨ k = 1 then .inr (aboveSet m.k)
  else if k = 2 ∨ k = 3 then (if m.d = 0 then .inl 11 else if 4096 < m.d.natAbs then .inl 180 else .inr (classSet m.d m.k))
  else if k = 4 then .inr (restOf A)
  else if k = 5 ∨ k = 6 then (if 4096 < Nat.lcm A.P B.P then .inl 180 else .inr (joined (fun x y => x && y) A B))
  else (if 4096 < Nat.lcm A.P B.P then .inl 180 else .inr (joined (fun x y => x || y) A B))
def stepS (out : List PSet) (m : Mk) : List PSet := match doR m out with | .inl _ => out | .inr S => out ++ [S]
def buildS (l : List Mk) : List PSet := (l.take 12).foldl stepS [noneSet]
/-- A set whose cuts are among these. -/
structure GoodS (C : List Int) (S : PSet) : Prop where
  ok : S.Ok
  sub : ∀ c ∈ S.cuts, c ∈ C
/-- A list of numbers with room. -/
structure RoomyC (C : List Int) : Prop where
  few : C.length ≤ 1000
  fit : ∀ c ∈ C, nlen c.natAbs * 4 + 64 ≤ 140737488355328
theorem length_le_of_sub : ∀ {l C : List Int}, l.Pairwise (· < ·) → (∀ x ∈ l, x ∈ C) → l.length ≤ C.length
  | [], _, _, _ => Nat.zero_le _
  | x :: l, C, hp, hs => by
    have hp' := List.pairwise_cons.1 hp
    have hx := hs x (by simp)
    have h := length_le_of_sub (l := l) (C := C.erase x) hp'.2 fun y hy => by
      have hne : y ≠ x := fun e => by have := hp'.1 y hy; omega
      exact (List.mem_erase_of_ne hne).2 (hs y (List.mem_cons_of_mem _ hy))
    rw [List.length_erase_of_mem hx] at h
    have : 0 < C.length := List.length_pos_of_mem hx
    rw [List.length_cons]; omega
theorem GoodS.fine {C : List Int} {S : PSet} (h : GoodS C S) (hC : RoomyC C) : Fine S :=
  ⟨h.ok, by have := length_le_of_sub h.ok.sorted h.sub; have := hC.few; omega, fun x hx => hC.fit x (h.sub x hx)⟩
theorem pushRow_sub {F : Int → List Bool} : ∀ (zs : List Int) (out : List Int × List (List Bool)), ∀ c ∈ (zs.foldl (pushRow F) out).1, c ∈ out.1 ∨ c ∈ zs
  | [], out, c, h => .inl h
  | z :: zs, out, c, h => by
    rcases pushRow_sub zs _ c h with h | h
    · unfold pushRow at h
      split at h
      · exact .inl h
      · rcases List.mem_append.1 h with h | h
        · exact .inl h
        · rw [List.mem_singleton.1 h]; exact .inr (by simp)
    · exact .inr (List.mem_cons_of_mem _ h)
theorem GoodS.joined {C : List Int} {S O : PSet} {f : Bool → Bool → Bool} (h : GoodS C S) (h2 : GoodS C O) (hq : ¬ 4096 < Nat.lcm S.P O.P) : GoodS C (Rid.joined f S O) :=
  ⟨joined_ok h.ok h2.ok (by omega), fun c hc => by
    rcases pushRow_sub _ _ c hc with hc | hc
    · simp at hc
    · rcases mem_mergeC.1 hc with hc | hc
      · exact h.sub c hc
      · exact h2.sub c hc⟩
theorem GoodS.rest {C : List Int} {S : PSet} (h : GoodS C S) : GoodS C (restOf S) := ⟨rest_ok h.ok, h.sub⟩
theorem good_none (C : List Int) : GoodS C noneSet := ⟨fine_none.ok, by simp [noneSet]⟩
theorem good_get {C : List Int} {l : List PSet} (h : ∀ S ∈ l, GoodS C S) (i : Nat) : GoodS C (l.getD i noneSet) := by
  rcases Nat.lt_or_ge i l.length with hi | hi
  · simp only [List.getD, List.getElem?_eq_getElem hi, Option.getD_some]; exact h _ (List.getElem_mem _)
  · simp only [List.getD, List.getElem?_eq_none hi, Option.getD_none]; exact good_none C
theorem good_above {C : List Int} {k : Int} (h : k + 1 ∈ C) : GoodS C (aboveSet k) :=
  ⟨⟨Nat.le_refl 1, by simp [aboveSet], rfl, by simp [aboveSet], by simp [aboveSet]⟩, fun c hc => by rw [show c = k + 1 by simpa [aboveSet] using hc]; exact h⟩
theorem good_class {C : List Int} {d r : Int} (h0 : d ≠ 0) (h1 : ¬ 4096 < d.natAbs) : GoodS C (classSet d r) := ⟨(fine_class h0 (by omega)).ok, by simp [classSet]⟩
theorem good_do {C : List Int} {m : Mk} {l : List PSet} {S : PSet} (h : ∀ S ∈ l, GoodS C S) (hm : m.k + 1 ∈ C) (hd : doR m l = .inr S) : GoodS C S := by
  unfold doR at hd
  simp only at hd
  repeat' split at hd
  all_goals first
    | (cases hd; done)
    | (cases hd; first | exact good_above hm | exact good_class (by assumption) (by assumption) | exact (good_get h _).rest | exact (good_get h _).joined (good_get h _) (by assumption))
theorem good_step {C : List Int} {m : Mk} {l : List PSet} (h : ∀ S ∈ l, GoodS C S) (hm : m.k + 1 ∈ C) : ∀ S ∈ stepS l m, GoodS C S := by
  intro S hS
  unfold stepS at hS
  split at hS
  · exact h S hS
  · rcases List.mem_append.1 hS with hS | hS
    · exact h S hS
    · rw [List.mem_singleton.1 hS]; exact good_do h hm (by assumption)
theorem good_fold {C : List Int} : ∀ (l : List Mk) (out : List PSet), (∀ m ∈ l, m.k + 1 ∈ C) → (∀ S ∈ out, GoodS C S) → ∀ S ∈ l.foldl stepS out, GoodS C S
  | [], _, _, h => h
  | m :: l, out, hm, h => good_fold l _ (fun x hx => hm x (List.mem_cons_of_mem _ hx)) (good_step h (hm m (by simp)))
/-- The cuts of a recipe. -/
def cutsOf (l : List Mk) : List Int := (l.take 12).map fun m => m.k + 1
theorem good_build (l : List Mk) (k : Nat) (hk : k ≤ 12) : ∀ S ∈ (l.take k).foldl stepS [noneSet], GoodS (cutsOf l) S :=
  good_fold _ _ (fun m hm => List.mem_map.2 ⟨m, by
    have : l.take k = (l.take 12).take k := by rw [List.take_take, Nat.min_eq_left hk]
    rw [this] at hm; exact List.mem_of_mem_take hm, rfl⟩) fun S hS => by rw [List.mem_singleton.1 hS]; exact good_none _
theorem length_step (l : List PSet) (m : Mk) : l.length ≤ (stepS l m).length ∧ (stepS l m).length ≤ l.length + 1 := by
  unfold stepS
  split
  · exact ⟨Nat.le_refl _, Nat.le_succ _⟩
  · simp
theorem length_fold : ∀ (l : List Mk) (out : List PSet), out.length ≤ (l.foldl stepS out).length ∧ (l.foldl stepS out).length ≤ out.length + l.length
  | [], out => ⟨Nat.le_refl _, Nat.le_refl _⟩
  | m :: l, out => by
    have h := length_fold l (stepS out m)
    have h2 := length_step out m
    simp only [List.foldl_cons, List.length_cons]
    omega
theorem roomy_cuts {l : List Mk} (h : ∀ m ∈ l, nlen m.k.natAbs * 4 + 4096 ≤ 140737488355328) : RoomyC (cutsOf l) := by
  refine ⟨by simp [cutsOf]; omega, fun c hc => ?_⟩
  obtain ⟨m, hm, rfl⟩ := List.mem_map.1 hc
  have h1 := h m (List.mem_of_mem_take hm)
  have h2 := nlen_natAbs_add m.k 1
  have h3 : nlen (1 : Int).natAbs ≤ 1 := nlen_le_of_lt (by decide)
  omega
end Go.Rid
