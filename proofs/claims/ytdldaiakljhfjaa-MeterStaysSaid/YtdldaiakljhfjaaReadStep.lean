/- Reading an argument that is a script of a meter's steps. Nothing is asked. -/
import Derived.Test.YtdldaiakljhfjaaRead
import Derived.Test.YtdldaiakljhfjaaMeterLaw2
namespace Go.Proofs.Ytdldaiakljhfjaa
open Go.RowKit Go.Rid Go.Deep Go.ChangeShapes Go.WideShapes Go.Joins
section
variable {H : Type} {enc : TypeId × Value → H} {w : World}
theorem script_of_trod {fuel : Nat} {cs : List Value} {x : DataW H × List MemPlace} (h : DataW.trod enc Try.prog w 0 (fun _ => true) true fuel 30 cs = some x) (hL : Light Try.prog 30 x.1) :
    ∃ a n c xs, cs = [.slice a n c] ∧ Script Nil w a n c xs ∧ n * 40 ≤ 140737488355328 := by
  have hc : Try.prog.cellsOf 36 = 3 := by kernel_rfl
  have hc0 : Try.prog.cellsOf 4 = 1 := by kernel_rfl
  have hc1 : Try.prog.cellsOf 3 = 1 := by kernel_rfl
  have hc2 : Try.prog.cellsOf 34 = 1 := by kernel_rfl
  obtain ⟨a, n, c, xs, rfl, hs, hb⟩ := slOf_of_trod (R := RStep Nil w) (d := (false, 0, [])) (sz := 3) Try.underlying30 hc (by decide) h hL (fun n cs' y hl hy hlt => by
    obtain ⟨y0, y1, y2, m, rfl, _, h0, h1, h2⟩ := trod_struct3 Try.underlying36 hy
    match cs', hl with
    | [c0, c1, c2], _ =>
      simp only [hc0, hc1, hc2, List.drop_zero, List.take_succ_cons, List.take_zero, List.drop_succ_cons] at h0 h1 h2
      obtain ⟨b, e0, _⟩ := DataW.trod_bool Try.underlying4 h0
      obtain ⟨z, e1, _, hz⟩ := DataW.trod_int Try.underlying3 h1
      obtain ⟨a, k, c, l, e2, hI, hr⟩ := ints_of_trod h2 (hlt.field (j := 2) Try.underlying36 rfl rfl)
      cases e0
      cases e1
      cases e2
      exact ⟨(b, z, l), a, k, c, rfl, hI, hr, (bounds_i64 hz).1, (bounds_i64 hz).2⟩)
  have hb4 : Try.prog.bytesOf 36 = 40 := by kernel_rfl
  rw [hb4] at hb
  exact ⟨a, n, c, xs, rfl, hs, by have := hs.le; unfold reachBytes at hb; omega⟩
end
end Go.Proofs.Ytdldaiakljhfjaa
