/- UdpSizes: a datagram's bytes are eight more than its body's; with no sum their sum is 0, with one it is not: for every input (of bodies of at most 1700 bytes, as the statement cuts them). -/
import Derived.Test.YtppaikjbafobbaaDoorUdp
import Derived.OpenShut
import Derived.Test.YtppaikjbafobbaaDoorPx2
import Derived.Test.YtppaikjbafobbaaDoorPx22
namespace Go.Proofs.YtppaikjbafobbaaDoor.Pure
set_option linter.unusedSimpArgs false
set_option linter.unusedVariables false
open Go Go.RowKit Go.Proofs.YtppaikjbafobbaaDoorW.PrintWords Go.Proofs.YtppaikjbafobbaaDoorW.PrintLast Go.Proofs.YtppaikjbafobbaaDoorW.PrintMore Go.Proofs.YtppaikjbafobbaaDoor.L Go.Proofs.YtppaikjbafobbaaDoor.P

theorem cut_some (s d : Int) (n : Bool) (b : ByteArray) : ∃ c : ByteArray, gangwaylaw07_cut.f s d n b = some (s, d, n, c) ∧ c.size ≤ 1700 := by
  have h1 := mn_le (b.size : Int) 1700
  have h2 := mn_nonneg (size_nat b) (show (0 : Int) ≤ 1700 by decide)
  unfold gangwaylaw07_cut.f
  rw [if_pos h2, if_pos h1.1]
  exact ⟨_, rfl, cut_size b 1700⟩
theorem empty_list : (⟨#[]⟩ : ByteArray).toList = [] := by decide +kernel
theorem UdpSizes (a b : Int) (s d : Int) (n : Bool) (body : ByteArray) (wa : (Lit.int .u32 a).wf = true) (wb : (Lit.int .u32 b).wf = true) (ws : (Lit.int .i64 s).wf = true) (wd : (Lit.int .i64 d).wf = true) (hb0 : body.size ≤ maxLen) :
    ∃ k, gangwaylaw07_UdpSizes.f k a b s d n body = some true := by
  have ha := bounds_u32 wa
  have hb := bounds_u32 wb
  obtain ⟨a, rfl⟩ := Int.eq_ofNat_of_zero_le ha.1
  obtain ⟨b, rfl⟩ := Int.eq_ofNat_of_zero_le hb.1
  refine Ev.rounds ?_
  unfold gangwaylaw07_UdpSizes.f
  obtain ⟨c, e, hc⟩ := cut_some s d n body
  rw [e]
  refine ev_some ?_
  dsimp only
  have hl := nb_len c
  refine Ev.bind (build_ev (by omega) (by omega) s d n c) ?_
  unfold ubuild
  by_cases hok : uok s d c = true
  · rw [if_pos hok]
    have hby := nb_byt c
    have hB := ubytes_byt (a := a) (b := b) (src := s.toNat) (dst := d.toNat) (nosum := n) hby
    have hL := ubytes_len a b s.toNat d.toNat n (nb c)
    have hz : (bs (ubytes a b s.toNat d.toNat n (nb c))).size = c.size + 8 := by rw [bs_size, hL, hl]
    have hu := usum_bound a b s.toNat d.toNat (nb c)
    dsimp only
    refine ev_pos rfl (ev_pos ?_ (ev_pos (by decide) (ev_pos (by omega) (ev_pos ?_ (ev_pos ?_ (Ev.bind udp_fixed_ev (ev_now rfl)))))))
    · rw [hz, w64 (by omega) (by omega)]
      omega
    · rw [two_zero (by omega), nb_bs hB]
      have e2 : numAt (ubytes a b s.toNat d.toNat n (nb c)) 6 2 = if n = true then 0 else usum a b s.toNat d.toNat (nb c) := by
        unfold numAt ubytes
        rw [List.drop_append_of_le_length (by rw [uhead_len]; exact Nat.le_refl _), List.drop_of_length_le (by rw [uhead_len]; exact Nat.le_refl _), List.nil_append, List.take_append_of_le_length (by rw [be_len]; exact Nat.le_refl _), List.take_of_length_le (by rw [be_len]; exact Nat.le_refl _), num_be]
        refine Nat.mod_eq_of_lt ?_
        split <;> omega
      rw [e2]
      cases n with
      | true => rfl
      | false =>
        rw [if_neg (by decide), decide_eq_false (by omega)]
        rfl
    · have : (bs (ubytes a b s.toNat d.toNat n (nb c))).extract 8 (bs (ubytes a b s.toNat d.toNat n (nb c))).size = c := by
        apply nb_inj
        rw [nb_extract, List.take_of_length_le (by rw [nb_len]; exact Nat.le_refl _), nb_bs hB]
        unfold ubytes
        rw [← List.append_assoc, List.drop_append_of_le_length (by rw [List.length_append, uhead_len, be_len]; exact Nat.le_refl _), List.drop_of_length_le (by rw [List.length_append, uhead_len, be_len]; exact Nat.le_refl _)]
        rfl
      rw [this]
  · rw [if_neg hok]
    refine ev_neg (by decide) (ev_pos empty_list ?_)
    rw [check_eq, if_neg hok]
    exact ev_some (ev_pos rfl (Ev.bind udp_fixed_ev (ev_now rfl)))
end Go.Proofs.YtppaikjbafobbaaDoor.Pure
