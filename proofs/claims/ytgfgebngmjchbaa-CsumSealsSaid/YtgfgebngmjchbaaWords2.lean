/- More on folded sums: what two sums that are one modulo 65535 fold to; a sum with one byte that is another one. -/
import Derived.Test.YtgfgebngmjchbaaCsum
namespace Go.Proofs.Ytgfgebngmjchbaa.P
open Go Go.RowKit Go.Proofs.YtgfgebngmjchbaaW.PrintWords Go.Proofs.YtgfgebngmjchbaaW.PrintLast Go.Proofs.YtgfgebngmjchbaaW.PrintMore Go.Proofs.Ytgfgebngmjchbaa.L

theorem foldN_mod (a b : Nat) (h : a % 65535 = b % 65535) : foldN a = foldN b ∨ (foldN a = 0 ∧ foldN b = 65535) ∨ (foldN a = 65535 ∧ foldN b = 0) := by
  unfold foldN
  split <;> split <;> omega
/-- One byte that is another one. -/
theorem wsum_set (l : List Nat) (c k : Nat) (hk : k < l.length) : wsum (l.take k ++ (c :: l.drop (k + 1))) + (if k % 2 = 0 then 256 * l.getD k 0 else l.getD k 0) = wsum l + (if k % 2 = 0 then 256 * c else c) := by
  suffices ∀ n (l : List Nat) (k : Nat), l.length ≤ n → k < l.length → wsum (l.take k ++ (c :: l.drop (k + 1))) + (if k % 2 = 0 then 256 * l.getD k 0 else l.getD k 0) = wsum l + (if k % 2 = 0 then 256 * c else c) from this _ l k (Nat.le_refl _) hk
  intro n
  induction n with
  | zero => intro l k hl hk; omega
  | succ n ih =>
    intro l k hl hk
    match l, k, hl, hk with
    | [], k, _, hk => simp at hk
    | [a], 0, _, _ => simp [wsum]; omega
    | [a], k + 1, _, hk => simp at hk
    | a :: b :: r, 0, _, _ => simp [wsum]; omega
    | a :: b :: r, 1, _, _ => simp [wsum]; omega
    | a :: b :: r, k + 2, hl, hk =>
      have h := ih r k (by simp at hl; omega) (by simp at hk; omega)
      have e : (k + 2) % 2 = k % 2 := by omega
      simp only [List.take_succ_cons, List.cons_append, List.drop_succ_cons, wsum, e, List.getD_cons_succ]
      omega
end Go.Proofs.Ytgfgebngmjchbaa.P
