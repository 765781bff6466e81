/- UdpBack: what is built is parsed as it was, between the same addresses, and these the other way round, whatever stands behind: for every input (of at most 1700 bytes, as the statement cuts them). -/
import Derived.Test.YtppaikjbafobbaaDoorUdpMore
import Derived.OpenShut
import Derived.Test.YtppaikjbafobbaaDoorPx20
namespace Go.Proofs.YtppaikjbafobbaaDoor.Pure
set_option linter.unusedSimpArgs false
set_option linter.unusedVariables false
open Go Go.RowKit Go.Proofs.YtppaikjbafobbaaDoorW.PrintWords Go.Proofs.YtppaikjbafobbaaDoorW.PrintLast Go.Proofs.YtppaikjbafobbaaDoorW.PrintMore Go.Proofs.YtppaikjbafobbaaDoor.L Go.Proofs.YtppaikjbafobbaaDoor.P

theorem UdpBack (a b : Int) (s d : Int) (n : Bool) (body more : ByteArray) (wa : (Lit.int .u32 a).wf = true) (wb : (Lit.int .u32 b).wf = true) (ws : (Lit.int .i64 s).wf = true) (wd : (Lit.int .i64 d).wf = true) (hb0 : body.size ≤ maxLen) (hm0 : more.size ≤ 140737488351232) :
    ∃ k, gangwaylaw07_UdpBack.f k a b s d n body more = some true := by
  have ha := bounds_u32 wa
  have hb := bounds_u32 wb
  obtain ⟨a, rfl⟩ := Int.eq_ofNat_of_zero_le ha.1
  obtain ⟨b, rfl⟩ := Int.eq_ofNat_of_zero_le hb.1
  refine Ev.rounds ?_
  unfold gangwaylaw07_UdpBack.f
  obtain ⟨c, e, hc⟩ := cut_some s d n body
  rw [e]
  refine ev_some ?_
  dsimp only
  have h1 := mn_le (more.size : Int) 1700
  have h2 := mn_nonneg (size_nat more) (show (0 : Int) ≤ 1700 by decide)
  refine ev_pos h2 (ev_pos h1.1 ?_)
  have hm := cut_size more 1700
  generalize more.extract 0 (mn (more.size : Int) 1700).toNat = more at *
  refine ev_succ ?_
  simp only [gangwaylaw07_UdpBack.j0]
  have hl := nb_len c
  refine Ev.bind (build_ev (by omega) (by omega) s d n c) ?_
  unfold ubuild
  by_cases hok : uok s d c = true
  · rw [if_pos hok]
    obtain ⟨⟨q1, q2⟩, ⟨q3, q4⟩, q5⟩ := uok_iff.1 hok
    obtain ⟨s, rfl⟩ := Int.eq_ofNat_of_zero_le q1
    obtain ⟨d, rfl⟩ := Int.eq_ofNat_of_zero_le q3
    rw [Int.toNat_natCast, Int.toNat_natCast]
    have hz := built_size a b s d n c more
    have hz0 : (bs (ubytes a b s d n (nb c))).size = c.size + 8 := by rw [bs_size, ubytes_len, hl]
    have hr := headL_wsum (a := a) (b := b) (by omega) (by omega) (n := (nb c).length + 8) (by omega)
    have w1 : n = true ∨ foldN (wsum (headL a b 17 (((nb c).length + 8 : Nat) : Int)) + rest a b s d n (nb c)) = 65535 := by
      cases n with
      | true => exact Or.inl rfl
      | false => exact Or.inr ((fold_iff _).2 ⟨by omega, sum_right (by omega) (by omega) s d (nb c) (by omega)⟩)
    have w2 : n = true ∨ foldN (wsum (headL b a 17 (((nb c).length + 8 : Nat) : Int)) + rest a b s d n (nb c)) = 65535 := by
      rw [swap_sum b a]
      exact w1
    refine ev_pos rfl (ev_neg (by dsimp only; omega) (ev_pos (by dsimp only; omega) ?_))
    refine Ev.bind (parse_ev (by omega) (by omega) (by dsimp only; omega)) (Ev.bind (parse_ev (by omega) (by omega) (by dsimp only; omega)) ?_)
    rw [built_parse more (by omega) (by omega) q5 w1, built_parse more (by omega) (by omega) q5 w2]
    have ew : wrap64 (((bs (ubytes a b s d n (nb c))).size : Int) - 1) = ((c.size + 7 : Nat) : Int) := by
      rw [w64 (by omega) (by omega)]
      omega
    dsimp only
    rw [ew, Int.toNat_natCast]
    refine ev_pos (by omega) (ev_pos (by omega) (Ev.bind (parse_ev (by omega) (by omega) (by rw [ByteArray.size_extract]; omega)) ?_))
    rw [short_parse a b a b s d n c q5]
    refine ev_pos rfl (ev_pos (by simp) (ev_pos rfl (ev_pos (by simp) (ev_pos rfl ?_))))
    exact Ev.bind udp_fixed_ev (ev_now rfl)
  · rw [if_neg hok]
    exact ev_neg (by dsimp only; decide) (ev_pos empty_list (Ev.bind udp_fixed_ev (ev_now rfl)))
end Go.Proofs.YtppaikjbafobbaaDoor.Pure
