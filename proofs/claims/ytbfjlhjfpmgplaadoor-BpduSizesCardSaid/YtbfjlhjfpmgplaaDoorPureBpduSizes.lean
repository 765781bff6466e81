/- BpduSizes: a message has 7, 38 or 39 bytes; cut short it is none: for every input. -/
import Derived.Test.YtbfjlhjfpmgplaaDoorBpduMore
import Derived.Test.YtbfjlhjfpmgplaaDoorBpduFixed
import Derived.OpenShut
import Derived.Test.YtbfjlhjfpmgplaaDoorPx26
namespace Go.Proofs.YtbfjlhjfpmgplaaDoor.Pure
set_option linter.unusedSimpArgs false
set_option linter.unusedVariables false
open Go Go.RowKit Go.Proofs.YtbfjlhjfpmgplaaDoorW.PrintWords Go.Proofs.YtbfjlhjfpmgplaaDoorW.PrintLast Go.Proofs.YtbfjlhjfpmgplaaDoorW.PrintMore Go.Proofs.YtbfjlhjfpmgplaaDoor.L Go.Proofs.YtbfjlhjfpmgplaaDoor.P

theorem sizes_j1 {m : Msg} (hok : m.ok = true) {n x : Int} (hx : x = (m.bytes.length : Int)) (hpos : 0 < m.bytes.length) : Ev (fun k => gangwaylaw09_BpduSizes.j1 k n (bs m.bytes) x) true := by
  have hby : Byt m.bytes := Msg.bytes_byt (by
    rcases Msg.ok_right hok with ⟨h, _⟩ | ⟨_, h, _⟩
    · exact Or.inl h
    · exact Or.inr h)
  have hz : (bs m.bytes).size = m.bytes.length := bs_size _
  have hl2 : m.bytes.length ≤ 39 := by
    rw [Msg.bytes_len]
    split
    · omega
    · split <;> omega
  have hs := fun {k : Nat} (hk : k < m.bytes.length) => short_msg hok hk
  refine ev_succ ?_
  simp only [gangwaylaw09_BpduSizes.j1]
  have hp : (0 : Int) < ((bs m.bytes).size : Int) := by omega
  have hm : 0 ≤ n % 65536 := Int.emod_nonneg _ (by decide)
  have h0 := Int.emod_nonneg (n % 65536) (Int.ne_of_gt hp)
  have h1 := Int.emod_lt_of_pos (n % 65536) hp
  have ht : Int.tmod (n % 65536) ((bs m.bytes).size : Int) = (n % 65536) % ((bs m.bytes).size : Int) := Int.tmod_eq_emod_of_nonneg hm
  rw [mask16, ht]
  clear ht
  generalize (n % 65536) % ((bs m.bytes).size : Int) = i at *
  obtain ⟨i, rfl⟩ := Int.eq_ofNat_of_zero_le h0
  have hb : bparse (nb ((bs m.bytes).extract 0 i)) = (mzero, 90) := by
    rw [nb_extract, nb_bs hby, List.drop_zero]
    exact hs (by omega)
  rw [Int.toNat_natCast]
  refine ev_pos (by omega) (ev_neg (by omega) (ev_pos h0 (ev_pos (by omega) (Ev.bind (parse_ev (s := (bs m.bytes).extract 0 i) (by rw [ByteArray.size_extract]; omega)) ?_))))
  rw [hb]
  exact ev_pos rfl (ev_pos (by decide) (Ev.bind bpdu_fixed_ev (ev_now rfl)))
theorem BpduSizes (kind : Int) (ch pr le fo ag ac : Bool) (role root cost bridge port age mage hello delay : Int) (n : Int) (w0 : (Lit.int .i64 kind).wf = true) (w7 : (Lit.int .i64 role).wf = true) (w8 : (Lit.int .u64 root).wf = true) (w9 : (Lit.int .i64 cost).wf = true) (w10 : (Lit.int .u64 bridge).wf = true) (w11 : (Lit.int .i64 port).wf = true) (w12 : (Lit.int .i64 age).wf = true) (w13 : (Lit.int .i64 mage).wf = true) (w14 : (Lit.int .i64 hello).wf = true) (w15 : (Lit.int .i64 delay).wf = true) (w16 : (Lit.int .i64 n).wf = true) :
    ∃ k, gangwaylaw09_BpduSizes.f k kind ch pr le fo ag ac role root cost bridge port age mage hello delay n = some true := by
  have b8 := bounds_u64 w8
  have b10 := bounds_u64 w10
  obtain ⟨root, rfl⟩ := Int.eq_ofNat_of_zero_le b8.1
  obtain ⟨bridge, rfl⟩ := Int.eq_ofNat_of_zero_le b10.1
  refine Ev.rounds ?_
  unfold gangwaylaw09_BpduSizes.f
  have h1 : root < 18446744073709551616 := by omega
  have h2 : bridge < 18446744073709551616 := by omega
  refine Ev.bind (build_ev (m := ⟨kind, ch, pr, le, fo, ag, ac, role, root, cost, bridge, port, age, mage, hello, delay⟩) h1 h2) ?_
  unfold bbuild
  by_cases hok : Msg.ok ⟨kind, ch, pr, le, fo, ag, ac, role, root, cost, bridge, port, age, mage, hello, delay⟩ = true
  · rw [if_pos hok]
    have hl := Msg.bytes_len (m := ⟨kind, ch, pr, le, fo, ag, ac, role, root, cost, bridge, port, age, mage, hello, delay⟩)
    dsimp only at hl
    refine ev_pos rfl ?_
    by_cases c1 : kind = 128
    · rw [if_pos c1] at hl
      refine ev_pos c1 (ev_succ ?_)
      simp only [gangwaylaw09_BpduSizes.j0]
      exact ev_neg (by omega) (sizes_j1 hok (by omega) (by omega))
    · rw [if_neg c1] at hl
      refine ev_neg c1 (ev_succ ?_)
      simp only [gangwaylaw09_BpduSizes.j0]
      by_cases c2 : kind = 2
      · rw [if_pos c2] at hl
        exact ev_pos c2 (sizes_j1 hok (by omega) (by omega))
      · rw [if_neg c2] at hl
        exact ev_neg c2 (sizes_j1 hok (by omega) (by omega))
  · rw [if_neg hok]
    exact ev_neg (by decide) (ev_pos (by decide +kernel) (Ev.bind bpdu_fixed_ev (ev_now rfl)))
end Go.Proofs.YtbfjlhjfpmgplaaDoor.Pure
