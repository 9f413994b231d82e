/- append of a slice, nil or not, behind a slice of one's own. Conditions: the slices' own reading; room. -/
import Derived.Test.YtnheefnlcnkefaaGreatDoorKLTermsB
namespace Go.Rid
open Go.RowKit
section
variable {P : Program} {w : World}
theorem wpList_append_sl {α : Type} {R : List Value → α → Prop} {d : α} {M : Nat → Prop} {ops : Array Oper} {rest : List Oper} {o : Oper} {a : Act} {Q : Exit → Act → World → Prop} (hgd : o.guard = none) (s x : Operand) (t : TypeId)
  (ho : o.op = .call { callee := .builtin .append, args := #[s, x], argTypes := #[t, t] }) (B : Nat) (e : TypeId) (i : TypeInfo) (z : Value) (size bytes : Nat) (ht : P.underlying t = some (.slice e)) (hi : P.info? e = some i) (hz : i.zero = some z)
  (hsize : i.size = size) (hby : i.bytes = bytes) (hzs : z.cells.size = size) (hsz : 0 < size) (v : Value) (els : List (List Value)) (hs : a.eval s = v) (hown : OwnEls w B e size v els) {ad : Option Addr} {n c : Nat} {xs : List α} (hx : a.eval x = .slice ad n c) (hl : SlOf M w size R d ad n c xs)
  (h1 : ∀ cs x, R cs x → ∀ u ∈ cs, u.oneCell' = true) (h63 : els.length + n ≤ 9223372036854775807) (hbytes : (els.length + n) * bytes ≤ 140737488355328) (hbase : B ≤ w.heap.size)
  (h : ∀ v' w' new, OwnEls w' B e size v' (els ++ new) → new.length = n → (∀ i, i < n → R (new.getD i []) (xs.getD i d)) → Keeps (Own v) w w' → Fresh w v v' → wpList P ops Q rest (a.put o.dst v') w') : wpList P ops Q (o :: rest) a w := by
 cases ad with
 | none =>
  obtain ⟨rfl, rfl⟩ := SlOf.none hl
  exact wpList_append_ownR_none w hgd s x t ho B e i size ht hi v _ _ hs hown.row hx (h v w [] (by simpa using hown) rfl (fun i hi => by omega) (Keeps.refl _ _) (fun k hk => .inl hk))
 | some p =>
  obtain ⟨new, q1, q2, q3, q4⟩ := SlOf.els hl
  refine wpList_append_els w hgd s x t ho B e i z size bytes ht hi hz hsize hby hzs hsz v els hs hown p c n new hx q1 q2 (q4 p rfl) ?_ h63 hbytes hbase ?_
  ·intro u hu
   obtain ⟨cs, hcs, hu⟩ := List.mem_flatten.1 hu
   obtain ⟨k, hk, rfl⟩ := List.mem_iff_getElem.1 hcs
   have h2 := q3 k (by omega)
   rw [show new.getD k [] = new[k] by simp [List.getD, List.getElem?_eq_getElem hk]] at h2
   exact h1 _ _ h2 u hu
  ·intro v' w' ho' hk hf _
   exact h v' w' new ho' q1 q3 hk hf
end
end Go.Rid
