/- What the document's Parse of bpdu computes: the same as the program's. -/
import Derived.Test.YtbfjlhjfpmgplaaDoorPx20
import Derived.Test.YtbfjlhjfpmgplaaDoorPx21
import Derived.Test.YtbfjlhjfpmgplaaDoorBpduFixed
namespace Go.Proofs.YtbfjlhjfpmgplaaDoor.P
set_option linter.unusedSimpArgs false
set_option linter.unusedVariables false
open Go Go.RowKit Go.Proofs.YtbfjlhjfpmgplaaDoorW.PrintWords Go.Proofs.YtbfjlhjfpmgplaaDoorW.PrintLast Go.Proofs.YtbfjlhjfpmgplaaDoorW.PrintMore Go.Proofs.YtbfjlhjfpmgplaaDoor.L

theorem rnum_ev {s : ByteArray} {i n : Nat} (hn : n ≤ 4) (h : i + n ≤ s.size) : Ev (fun k => gangwayref09_num.f k s (i : Int) ((i + n : Nat) : Int)) ((numAt (nb s) i n : Nat) : Int) := by
  unfold gangwayref09_num.f
  refine ev_pos (by omega) (ev_pos (by omega) (ev_pos (by omega) ?_))
  rw [Int.toNat_natCast, Int.toNat_natCast]
  have e : nb (s.extract i (i + n)) = ((nb s).drop i).take n := by rw [nb_extract, List.drop_take, Nat.add_sub_cancel_left]
  have g := num_ev (t := s.extract i (i + n)) (by rw [ByteArray.size_extract]; omega)
  rw [e] at g
  refine Ev.bind g (ev_now ?_)
  have l := numAt_lt (nb_byt s) i n
  have hp : 256 ^ n ≤ 256 ^ 4 := Nat.pow_le_pow_right (by decide) hn
  rw [e256.2.1] at hp
  show wrap64 ((numAt (nb s) i n : Nat) : Int) = _
  exact w64 (by omega) (by omega)
theorem rnum8_ev {s : ByteArray} {i j : Nat} (hj : j = i + 8) (h : j ≤ s.size) : Ev (fun k => gangwayref01_Num.f k (s.extract i j)) ((numAt (nb s) i 8 : Nat) : Int) := by
  subst hj
  have e : nb (s.extract i (i + 8)) = ((nb s).drop i).take 8 := by rw [nb_extract, List.drop_take, Nat.add_sub_cancel_left]
  have g := num_ev (t := s.extract i (i + 8)) (by rw [ByteArray.size_extract]; omega)
  rw [e] at g
  exact g
theorem drop_getD {l : List Nat} {i : Nat} (h : i < l.length) : l.drop i = l.getD i 0 :: l.drop (i + 1) := by
  rw [List.getD_eq_getElem?_getD, List.getElem?_eq_getElem h, Option.getD_some]
  exact List.drop_eq_getElem_cons h
theorem numAt_one {l : List Nat} {i : Nat} (h : i < l.length) : numAt l i 1 = l.getD i 0 := by
  unfold numAt
  rw [drop_getD h]
  show num [l.getD i 0] = _
  simp [num]
theorem numAt_two {l : List Nat} {i : Nat} (h : i + 1 < l.length) : (l.drop i).take 2 = [l.getD i 0, l.getD (i + 1) 0] ∧ numAt l i 2 = l.getD i 0 * 256 + l.getD (i + 1) 0 := by
  have e : (l.drop i).take 2 = [l.getD i 0, l.getD (i + 1) 0] := by
    rw [drop_getD (i := i) (by omega), drop_getD (i := i + 1) h]
    rfl
  refine ⟨e, ?_⟩
  unfold numAt
  rw [e]
  simp [num]
theorem t_one : ∀ b : Nat, b < 256 → (Int.tmod (b : Int) 2 == 1) = decide (b % 2 = 1) ∧ (wrap64 (Int.tdiv (b : Int) 128) == 1) = decide (b / 128 % 2 = 1) ∧ (Int.tmod (wrap64 (Int.tdiv (b : Int) 2)) 2 == 1) = decide (b / 2 % 2 = 1) ∧ (Int.tmod (wrap64 (Int.tdiv (b : Int) 16)) 2 == 1) = decide (b / 16 % 2 = 1) ∧ (Int.tmod (wrap64 (Int.tdiv (b : Int) 32)) 2 == 1) = decide (b / 32 % 2 = 1) ∧ (Int.tmod (wrap64 (Int.tdiv (b : Int) 64)) 2 == 1) = decide (b / 64 % 2 = 1) ∧ Int.tmod (wrap64 (Int.tdiv (b : Int) 4)) 4 = ((b / 4 % 4 : Nat) : Int) := by decide +kernel
theorem rparse_j1 {s : ByteArray} (hs : s.size ≤ 1000000) {c : Bool} {x : Int} (h : c = true ↔ s.size < 38 ∨ x = 514 ∧ s.size < 39) (h0 : x = 0 ∧ ((nb s).drop 5).take 2 = [0, 0] ∨ x = 514 ∧ ((nb s).drop 5).take 2 = [2, 2]) (h7 : 7 ≤ s.size) (hh : (nb s).take 5 = bhead) :
    Ev (fun k => gangwayref09_Parse.j1 k s x c) (mtup (bparse (nb s)).1 (bparse (nb s)).2) := by
  have hl := nb_len s
  refine ev_succ ?_
  simp only [gangwayref09_Parse.j1]
  unfold bparse
  rw [hl, if_neg (by omega), if_neg (by rw [hh]; exact fun h => h rfl)]
  by_cases hc : c = true
  · refine ev_pos hc ?_
    rcases h0 with ⟨hx, h0⟩ | ⟨hx, h0⟩
    · rw [h0, if_neg (by decide), if_pos rfl, if_pos (by rcases h.1 hc with h | h <;> omega)]
      exact ev_now rfl
    · rw [h0, if_neg (by decide), if_neg (by decide), if_pos rfl, if_pos (by rcases h.1 hc with h | h <;> omega)]
      exact ev_now rfl
  · refine ev_neg hc ?_
    have h1 : ¬ s.size < 38 := fun k => hc (h.2 (Or.inl k))
    have hb := getD_byte (nb_byt s) 7
    obtain ⟨t1, t2, t3, t4, t5, t6, t7⟩ := t_one _ hb
    have q0 : Ev (fun k => gangwayref09_num.f k s 7 8) ((numAt (nb s) 7 1 : Nat) : Int) := rnum_ev (i := 7) (n := 1) (by decide) (by omega)
    rw [numAt_one (by omega)] at q0
    have q1 : Ev (fun k => gangwayref09_num.f k s 16 20) ((numAt (nb s) 16 4 : Nat) : Int) := rnum_ev (i := 16) (n := 4) (by decide) (by omega)
    have q2 : Ev (fun k => gangwayref09_num.f k s 28 30) ((numAt (nb s) 28 2 : Nat) : Int) := rnum_ev (i := 28) (n := 2) (by decide) (by omega)
    have q3 : Ev (fun k => gangwayref09_num.f k s 30 32) ((numAt (nb s) 30 2 : Nat) : Int) := rnum_ev (i := 30) (n := 2) (by decide) (by omega)
    have q4 : Ev (fun k => gangwayref09_num.f k s 32 34) ((numAt (nb s) 32 2 : Nat) : Int) := rnum_ev (i := 32) (n := 2) (by decide) (by omega)
    have q5 : Ev (fun k => gangwayref09_num.f k s 34 36) ((numAt (nb s) 34 2 : Nat) : Int) := rnum_ev (i := 34) (n := 2) (by decide) (by omega)
    have q6 : Ev (fun k => gangwayref09_num.f k s 36 38) ((numAt (nb s) 36 2 : Nat) : Int) := rnum_ev (i := 36) (n := 2) (by decide) (by omega)
    have g1 : Ev (fun k => gangwayref01_Num.f k (s.extract 8 16)) ((numAt (nb s) 8 8 : Nat) : Int) := rnum8_ev rfl (by omega)
    have g2 : Ev (fun k => gangwayref01_Num.f k (s.extract 20 28)) ((numAt (nb s) 20 8 : Nat) : Int) := rnum8_ev rfl (by omega)
    refine Ev.bind q0 (ev_pos (by decide) (ev_pos (by omega) (Ev.bind g1 (Ev.bind q1 (ev_pos (by decide) (ev_pos (by omega) (Ev.bind g2 (Ev.bind q2 (Ev.bind q3 (Ev.bind q4 (Ev.bind q5 (Ev.bind q6 (ev_succ ?_)))))))))))))
    simp only [gangwayref09_Parse.j2]
    rw [t1, t2, t3, t4, t5, t6, t7]
    rcases h0 with ⟨hx, h0⟩ | ⟨hx, h0⟩
    · refine ev_neg (by simp [hx]) (ev_now ?_)
      rw [h0, if_neg (by decide), if_pos rfl, if_neg h1]
      rfl
    · have h2 : ¬ s.size < 39 := fun k => hc (h.2 (Or.inr ⟨hx, k⟩))
      refine ev_pos (by simp [hx]) (ev_now ?_)
      rw [h0, if_neg (by decide), if_neg (by decide), if_pos rfl, if_neg h2]
      rfl
theorem rparse_ev {s : ByteArray} (hs : s.size ≤ 1000000) : Ev (fun k => gangwayref09_Parse.f k s) (mtup (bparse (nb s)).1 (bparse (nb s)).2) := by
  have hl := nb_len s
  unfold gangwayref09_Parse.f
  by_cases h7 : s.size < 7
  · refine ev_pos (by omega) ?_
    unfold bparse
    rw [hl, if_pos h7]
    exact ev_now rfl
  refine ev_neg (by omega) (ev_pos (by decide) (ev_pos (by omega) ?_))
  have he : (s.extract 0 5).toList = ([66, 66, 3, 0, 0] : List UInt8) ↔ (nb s).take 5 = bhead := by
    refine (list_nb _ _).trans ?_
    rw [nb_extract]
    exact Iff.rfl
  by_cases hh : (nb s).take 5 = bhead
  rotate_left
  · refine ev_neg (fun h => hh (he.1 h)) ?_
    unfold bparse
    rw [hl, if_neg h7, if_pos hh]
    exact ev_now rfl
  refine ev_pos (he.2 hh) ?_
  have q : Ev (fun k => gangwayref09_num.f k s 5 7) ((numAt (nb s) 5 2 : Nat) : Int) := rnum_ev (i := 5) (n := 2) (by decide) (by omega)
  refine Ev.bind q ?_
  obtain ⟨c2, n2⟩ := numAt_two (l := nb s) (i := 5) (by omega)
  have b5 := getD_byte (nb_byt s) 5
  have b6 := getD_byte (nb_byt s) (5 + 1)
  rw [n2]
  have go : ∀ x : Int, (x = 0 ∧ ((nb s).drop 5).take 2 = [0, 0] ∨ x = 514 ∧ ((nb s).drop 5).take 2 = [2, 2]) → Ev (fun k => gangwayref09_Parse.j0 k s x false) (mtup (bparse (nb s)).1 (bparse (nb s)).2) := by
    intro x h0
    refine ev_succ ?_
    simp only [gangwayref09_Parse.j0]
    refine ev_neg (by decide) ?_
    by_cases h38 : s.size < 38
    · exact ev_pos (by omega) (rparse_j1 hs ⟨fun _ => Or.inl h38, fun _ => rfl⟩ h0 (by omega) hh)
    refine ev_neg (by omega) ?_
    by_cases hx : x = 0
    · exact ev_pos hx (rparse_j1 hs ⟨fun h => (by cases h), fun h => by rcases h with h | h <;> omega⟩ h0 (by omega) hh)
    · refine ev_neg hx (rparse_j1 hs ?_ h0 (by omega) hh)
      rw [decide_eq_true_eq]
      have hx5 : x = 514 := by
        rcases h0 with h | h
        · exact absurd h.1 hx
        · exact h.1
      omega
  have go' : ∀ a b : Nat, a < 256 → b < 256 → ((nb s).drop 5).take 2 = [a, b] → Ev (fun k => if ((a * 256 + b : Nat) : Int) = 128 then (some (128, false, false, false, false, false, false, 0, 0, 0, 0, 0, 0, 0, 0, 0, 0)) else (if ((a * 256 + b : Nat) : Int) = 0 then (gangwayref09_Parse.j0 k s ((a * 256 + b : Nat) : Int) false) else (gangwayref09_Parse.j0 k s ((a * 256 + b : Nat) : Int) (((a * 256 + b : Nat) : Int) != 514)))) (mtup (bparse (nb s)).1 (bparse (nb s)).2) := by
    intro a b ha hb hc
    by_cases k1 : a * 256 + b = 128
    · refine ev_pos (by omega) ?_
      obtain ⟨rfl, rfl⟩ : a = 0 ∧ b = 128 := by omega
      unfold bparse
      rw [hl, if_neg h7, if_neg (by rw [hh]; exact fun h => h rfl), if_pos hc]
      exact ev_now rfl
    refine ev_neg (by omega) ?_
    by_cases k2 : a * 256 + b = 0
    · refine ev_pos (by omega) ?_
      obtain ⟨rfl, rfl⟩ : a = 0 ∧ b = 0 := by omega
      exact go _ (Or.inl ⟨rfl, hc⟩)
    refine ev_neg (by omega) ?_
    by_cases k3 : a * 256 + b = 514
    · obtain ⟨rfl, rfl⟩ : a = 2 ∧ b = 2 := by omega
      exact go _ (Or.inr ⟨rfl, hc⟩)
    · have e : (((a * 256 + b : Nat) : Int) != 514) = true := by
        rw [bne_iff_ne]
        omega
      rw [e]
      unfold bparse
      rw [hl, if_neg h7, if_neg (by rw [hh]; exact fun h => h rfl), hc, if_neg (by simp; omega), if_neg (by simp; omega), if_neg (by simp; omega)]
      refine ev_succ ?_
      simp only [gangwayref09_Parse.j0]
      first | exact ev_pos rfl (ev_now rfl) | exact ev_pos trivial (ev_now rfl) | exact ev_now rfl
  exact go' _ _ b5 b6 c2
end Go.Proofs.YtbfjlhjfpmgplaaDoor.P
