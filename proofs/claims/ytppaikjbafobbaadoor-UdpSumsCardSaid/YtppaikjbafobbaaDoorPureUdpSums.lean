/- UdpSums: without a sum any addresses do; with one, one of them that is 1 more does not, unless the words' sum stays: for every input (of bodies of at most 1700 bytes, as the statement cuts them). -/
import Derived.Test.YtppaikjbafobbaaDoorUdpMore
import Derived.OpenShut
import Derived.Test.YtppaikjbafobbaaDoorPx21
namespace Go.Proofs.YtppaikjbafobbaaDoor.Pure
set_option linter.unusedSimpArgs false
set_option linter.unusedVariables false
open Go Go.RowKit Go.Proofs.YtppaikjbafobbaaDoorW.PrintWords Go.Proofs.YtppaikjbafobbaaDoorW.PrintLast Go.Proofs.YtppaikjbafobbaaDoorW.PrintMore Go.Proofs.YtppaikjbafobbaaDoor.L Go.Proofs.YtppaikjbafobbaaDoor.P

theorem xor_u32 {a b : Nat} (ha : a < 4294967296) (hb : b < 4294967296) : Go.bits .xor .u32 (a : Int) (b : Int) = ((Nat.xor a b : Nat) : Int) := by
  have h := Nat.xor_lt_two_pow (n := 32) ha hb
  have e : (BitVec.ofNat 32 a ^^^ BitVec.ofNat 32 b).toNat = Nat.xor a b := by
    rw [BitVec.toNat_xor, BitVec.toNat_ofNat, BitVec.toNat_ofNat, Nat.mod_eq_of_lt ha, Nat.mod_eq_of_lt hb]
    rfl
  simp [Go.bits, IntKind.signed, IntKind.bits, IntKind.wrap]
  have h2 : Nat.xor a b < 4294967296 := h
  show (((BitVec.ofNat 32 a ^^^ BitVec.ofNat 32 b).toNat : Nat) : Int) % 4294967296 = ((Nat.xor a b : Nat) : Int)
  rw [e]
  omega
theorem xor_one (a : Nat) : Nat.xor a 1 = if a % 2 = 0 then a + 1 else a - 1 := by
  show a ^^^ 1 = _
  have h := Nat.div_add_mod (a ^^^ 1) 2
  have h1 : (a ^^^ 1) / 2 = a / 2 := by rw [Nat.xor_div_two]; exact Nat.xor_zero _
  have h2 : (a ^^^ 1) % 2 = 1 ↔ ¬ (a % 2 = 1 ↔ 1 % 2 = 1) := Nat.xor_mod_two_eq_one
  have h3 := Nat.mod_two_eq_zero_or_one (a ^^^ 1)
  rw [h1] at h
  split <;> omega
theorem UdpSums (a b : Int) (s d : Int) (n : Bool) (body : ByteArray) (wa : (Lit.int .u32 a).wf = true) (wb : (Lit.int .u32 b).wf = true) (ws : (Lit.int .i64 s).wf = true) (wd : (Lit.int .i64 d).wf = true) (hb0 : body.size ≤ maxLen) :
    ∃ k, gangwaylaw07_UdpSums.f k a b s d n body = some true := by
  have ha := bounds_u32 wa
  have hb := bounds_u32 wb
  obtain ⟨a, rfl⟩ := Int.eq_ofNat_of_zero_le ha.1
  obtain ⟨b, rfl⟩ := Int.eq_ofNat_of_zero_le hb.1
  refine Ev.rounds ?_
  unfold gangwaylaw07_UdpSums.f
  obtain ⟨c, e, hc⟩ := cut_some s d n body
  rw [e]
  refine ev_some ?_
  dsimp only
  have hl := nb_len c
  refine Ev.bind (build_ev (by omega) (by omega) s d true c) ?_
  have b2 := build_ev (a := a) (b := b) (by omega) (by omega) s d false c
  unfold ubuild at *
  by_cases hok : uok s d c = true
  · rw [if_pos hok] at *
    obtain ⟨⟨q1, q2⟩, ⟨q3, q4⟩, q5⟩ := uok_iff.1 hok
    obtain ⟨s, rfl⟩ := Int.eq_ofNat_of_zero_le q1
    obtain ⟨d, rfl⟩ := Int.eq_ofNat_of_zero_le q3
    rw [Int.toNat_natCast, Int.toNat_natCast] at *
    have hz0 : ∀ m : Bool, (bs (ubytes a b s d m (nb c))).size = c.size + 8 := fun m => by rw [bs_size, ubytes_len, hl]
    have hz1 := hz0 true
    have hz2 := hz0 false
    have hr := headL_wsum (a := a) (b := b) (by omega) (by omega) (n := (nb c).length + 8) (by omega)
    have hx := xor_one a
    have hx2 : Nat.xor a 1 < 4294967296 := Nat.xor_lt_two_pow (n := 32) (by omega) (by omega)
    have hy2 : Nat.xor b 77 < 4294967296 := Nat.xor_lt_two_pow (n := 32) (by omega) (by omega)
    have hr2 := headL_wsum (a := Nat.xor a 1) (b := b) (by omega) (by omega) (n := (nb c).length + 8) (by omega)
    have hsr := sum_right (a := a) (b := b) (by omega) (by omega) s d (nb c) (by omega)
    have w2 : foldN (wsum (headL (Nat.xor a 1) b 17 (((nb c).length + 8 : Nat) : Int)) + rest a b s d false (nb c)) ≠ 65535 := by
      intro h
      have h3 := ((fold_iff _).1 h).2
      rw [hr2] at h3
      rw [hr] at hsr
      generalize rest a b s d false (nb c) = z at *
      rw [hx] at h3
      split at h3 <;> omega
    refine ev_pos rfl ?_
    have ea : ((a : Int) + 1) % 4294967296 = (((a + 1) % 4294967296 : Nat) : Int) := by omega
    have e77 : Go.bits .xor .u32 (b : Int) 77 = ((Nat.xor b 77 : Nat) : Int) := xor_u32 (b := 77) (by omega) (by omega)
    have e1 : Go.bits .xor .u32 (a : Int) 1 = ((Nat.xor a 1 : Nat) : Int) := xor_u32 (b := 1) (by omega) (by omega)
    rw [ea, e77, e1]
    have p1 := built_parse (a := a) (b := b) (a' := (a + 1) % 4294967296) (b' := Nat.xor b 77) (s := s) (d := d) (nosum := true) (body := c) (⟨#[]⟩ : ByteArray) (by omega) (by omega) q5 (Or.inl rfl)
    have p2 := spoilt_parse (a := a) (b := b) (a' := Nat.xor a 1) (b' := b) (s := s) (d := d) (body := c) (⟨#[]⟩ : ByteArray) q5 w2
    rw [show ∀ x : ByteArray, x ++ (⟨#[]⟩ : ByteArray) = x from fun x => nb_inj (by rw [nb_append, nb_empty, List.append_nil])] at p1 p2
    refine Ev.bind (parse_ev (by omega) (by omega) (by dsimp only; omega)) ?_
    refine Ev.bind b2 ?_
    refine Ev.bind (parse_ev (by omega) (by omega) (by dsimp only; omega)) ?_
    dsimp only
    rw [p1, p2]
    refine ev_pos rfl (ev_pos rfl (ev_pos rfl (ev_pos rfl (ev_pos (by omega) (ev_pos rfl ?_)))))
    exact Ev.bind udp_fixed_ev (ev_now rfl)
  · rw [if_neg hok]
    exact ev_neg (by dsimp only; decide) (ev_pos empty_list (Ev.bind udp_fixed_ev (ev_now rfl)))
end Go.Proofs.YtppaikjbafobbaaDoor.Pure
