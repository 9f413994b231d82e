/- Plain sets: from cut to cut, number by number, as far as both periods go: when two sets have the same numbers. Nothing of the program; no condition. -/
import Derived.Test.YtfkclbhddiidbaaGreatKPSearch
namespace Go.Rid
/-- Where a stretch begins, and how many numbers of it are looked at. -/
def segF (q : Nat) (zs : List Int) (k : Nat) : Int := if 0 < k then zth zs (k - 1) else if 0 < zs.length then zth zs 0 - (q : Int) else 0
def segN (q : Nat) (zs : List Int) (k : Nat) : Nat := if 0 < k ∧ k < zs.length then min (zth zs k - zth zs (k - 1)).toNat q else q
theorem seg_mem {zs : List Int} {i : Nat} (h : i < zs.length) : zth zs i ∈ zs := by rw [zth_lt h]; exact List.getElem_mem _
theorem seg_mono {zs : List Int} (hs : zs.Pairwise (· < ·)) {i j : Nat} (hij : i < j) (hj : j < zs.length) : zth zs i < zth zs j := by
  rw [zth_lt (by omega), zth_lt hj]; exact List.pairwise_iff_getElem.1 hs i j (by omega) hj hij
theorem seg_of_mem {zs : List Int} {c : Int} (h : c ∈ zs) : ∃ i, i < zs.length ∧ c = zth zs i := by
  obtain ⟨i, hi, rfl⟩ := List.mem_iff_getElem.1 h
  exact ⟨i, hi, (zth_lt hi).symm⟩
/-- Within a stretch no cut lies. -/
theorem seg_cut {q : Nat} {zs : List Int} (hs : zs.Pairwise (· < ·)) {k j : Nat} (hk : k ≤ zs.length) (hj : j < segN q zs k) {c : Int} (hc : c ∈ zs) : c ≤ segF q zs k + (j : Int) ↔ c ≤ segF q zs k := by
  obtain ⟨i, hi, rfl⟩ := seg_of_mem hc
  unfold segF segN at *
  by_cases h0 : 0 < k
  · rw [if_pos h0]
    by_cases hik : i < k
    · have : zth zs i ≤ zth zs (k - 1) := by
        rcases Nat.lt_or_ge i (k - 1) with h | h
        · exact Int.le_of_lt (seg_mono hs h (by omega))
        · rw [show i = k - 1 by omega]; exact Int.le_refl _
      constructor <;> omega
    · rw [if_pos ⟨h0, by omega⟩] at hj
      have h1 : zth zs (k - 1) < zth zs k := seg_mono hs (by omega) (by omega)
      have h2 : zth zs k ≤ zth zs i := by
        rcases Nat.lt_or_ge k i with h | h
        · exact Int.le_of_lt (seg_mono hs h hi)
        · rw [show i = k by omega]; exact Int.le_refl _
      have h3 : (j : Int) < zth zs k - zth zs (k - 1) := by omega
      constructor <;> omega
  · rw [if_neg (fun h => h0 h.1)] at hj
    rw [if_neg h0, if_pos (show 0 < zs.length by omega)]
    have h2 : zth zs 0 ≤ zth zs i := by
      rcases Nat.lt_or_ge 0 i with h | h
      · exact Int.le_of_lt (seg_mono hs h hi)
      · rw [show i = 0 by omega]; exact Int.le_refl _
    constructor <;> omega
/-- Each number lies in a stretch, or a whole number of periods away from one that is looked at. -/
theorem seg_of {q : Nat} (hq : 1 ≤ q) {zs : List Int} (hs : zs.Pairwise (· < ·)) (x : Int) : ∃ k j : Nat, k ≤ zs.length ∧ j < segN q zs k ∧ (∀ c ∈ zs, c ≤ x ↔ c ≤ segF q zs k + (j : Int)) ∧ ∃ u : Int, x = segF q zs k + (j : Int) + (q : Int) * u := by
  obtain ⟨k, hk, h1, h2⟩ : ∃ k, k ≤ zs.length ∧ (∀ i, i < k → zth zs i ≤ x) ∧ ∀ i, k ≤ i → i < zs.length → x < zth zs i := by
    have h : ∀ n, n ≤ zs.length → ∃ k, k ≤ n ∧ (∀ i, i < k → zth zs i ≤ x) ∧ ∀ i, k ≤ i → i < n → x < zth zs i := by
      intro n
      induction n with
      | zero => intro _; exact ⟨0, Nat.le_refl _, fun i hi => by omega, fun i _ hi => by omega⟩
      | succ n ih =>
        intro hn
        obtain ⟨k, hk, h1, h2⟩ := ih (by omega)
        by_cases hx : zth zs n ≤ x
        · refine ⟨n + 1, Nat.le_refl _, fun i hi => ?_, fun i h h' => by omega⟩
          rcases Nat.lt_or_ge i n with h | h
          · have := seg_mono hs h (by omega); omega
          · rw [show i = n by omega]; exact hx
        · refine ⟨k, by omega, h1, fun i hi hin => ?_⟩
          rcases Nat.lt_or_ge i n with h | h
          · exact h2 i hi h
          · rw [show i = n by omega]; omega
    exact h _ (Nat.le_refl _)
  have hqI : (0 : Int) < (q : Int) := by omega
  have hm0 := Int.emod_nonneg (x - segF q zs k) (show (q : Int) ≠ 0 by omega)
  have hm1 := Int.emod_lt_of_pos (x - segF q zs k) hqI
  have hme := Int.emod_add_mul_ediv (x - segF q zs k) (q : Int)
  obtain ⟨j, hj⟩ : ∃ j : Nat, (j : Int) = (x - segF q zs k) % (q : Int) := ⟨((x - segF q zs k) % (q : Int)).toNat, by omega⟩
  rw [← hj] at hm0 hm1 hme
  have hjn : j < segN q zs k := by
    unfold segN
    split
    · rename_i h
      have hf : segF q zs k = zth zs (k - 1) := by unfold segF; rw [if_pos h.1]
      have hx1 := h1 (k - 1) (by omega)
      have hx2 := h2 k (Nat.le_refl _) h.2
      rw [hf] at hj
      have hd := Int.mul_nonneg (Int.le_of_lt hqI) (Int.ediv_nonneg (show 0 ≤ x - segF q zs k by omega) (Int.le_of_lt hqI))
      rw [hf] at hd hme
      omega
    · omega
  refine ⟨k, j, hk, hjn, fun c hc => ?_, (x - segF q zs k) / (q : Int), by omega⟩
  rw [seg_cut hs hk hjn hc]
  obtain ⟨i, hi, rfl⟩ := seg_of_mem hc
  unfold segF
  by_cases hik : i < k
  · have := h1 i hik
    rw [if_pos (by omega)]
    constructor
    · intro _
      rcases Nat.lt_or_ge i (k - 1) with h | h
      · exact Int.le_of_lt (seg_mono hs h (by omega))
      · rw [show i = k - 1 by omega]; exact Int.le_refl _
    · intro _; exact this
  · have := h2 i (by omega) hi
    constructor
    · intro _; omega
    · intro h
      exfalso
      split at h
      · have := seg_mono hs (show k - 1 < i by omega) hi; omega
      · split at h
        · rcases Nat.lt_or_ge 0 i with h' | h'
          · have := seg_mono hs h' hi; omega
          · rw [show i = 0 by omega] at h; omega
        · omega
/-- The numbers that are looked at say it of all. -/
theorem same_all {S O : PSet} {q : Nat} (hq : 1 ≤ q) (hS : S.P ∣ q) (hO : O.P ∣ q) {zs : List Int} (hs : zs.Pairwise (· < ·)) (h1 : ∀ c ∈ S.cuts, c ∈ zs) (h2 : ∀ c ∈ O.cuts, c ∈ zs) (h : ∀ k j : Nat, k ≤ zs.length → j < segN q zs k → has S (segF q zs k + (j : Int)) = has O (segF q zs k + (j : Int))) (x : Int) : has S x = has O x := by
  obtain ⟨k, j, hk, hj, hc, u, hu⟩ := seg_of hq hs x
  have hm : ∀ p : Nat, p ∣ q → x % (p : Int) = (segF q zs k + (j : Int)) % (p : Int) := fun p hp => by
    obtain ⟨v, rfl⟩ := hp
    rw [hu, Int.natCast_mul, Int.mul_assoc, Int.add_mul_emod_self_left]
  rw [has_shift (fun c hc' => hc c (h1 c hc')) (hm _ hS), has_shift (fun c hc' => hc c (h2 c hc')) (hm _ hO)]
  exact h k j hk hj
theorem length_insC (x : Int) : ∀ l : List Int, (ins x l).length ≤ l.length + 1
  | [] => by simp [ins]
  | y :: l => by
    have := length_insC x l
    unfold ins
    split
    · simp
    · split
      · simp
      · simp only [List.length_cons]; omega
theorem length_mergeC (a b : List Int) : (mergeC a b).length ≤ a.length + b.length := by
  induction a with
  | nil => simp [mergeC]
  | cons x a ih =>
    have := length_insC x (mergeC a b)
    simp only [mergeC, List.foldr_cons, List.length_cons] at *
    omega
/-- A number of a stretch: its cell. -/
theorem seg_has {S : PSet} (hS : S.Ok) {q : Nat} {zs : List Int} (hs : zs.Pairwise (· < ·)) (h1 : ∀ c ∈ S.cuts, c ∈ zs) {k j x : Nat} (hk : k ≤ zs.length) (hj : j < segN q zs k) (hx : (segF q zs k + (j : Int)) % (S.P : Int) = (x : Int)) :
    has S (segF q zs k + (j : Int)) = (S.rows.getD (place S.cuts (segF q zs k)) []).getD x false := by
  unfold has rowOf
  rw [place_congr (x := segF q zs k + (j : Int)) (y := segF q zs k) (fun c hc => seg_cut hs hk hj (h1 c hc)), hx]
  rfl
end Go.Rid
