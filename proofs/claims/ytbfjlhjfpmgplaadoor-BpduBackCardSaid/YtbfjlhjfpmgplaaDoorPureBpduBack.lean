/- BpduBack: what is built is parsed as it was, whatever stands behind; what is parsed may be, and is parsed again, as it is: for every input (of at most 200 bytes, as the statement cuts them). -/
import Derived.Test.YtbfjlhjfpmgplaaDoorBpduMore
import Derived.Test.YtbfjlhjfpmgplaaDoorBpduFixed
import Derived.OpenShut
import Derived.Test.YtbfjlhjfpmgplaaDoorPx25
namespace Go.Proofs.YtbfjlhjfpmgplaaDoor.Pure
set_option linter.unusedSimpArgs false
set_option linter.unusedVariables false
open Go Go.RowKit Go.Proofs.YtbfjlhjfpmgplaaDoorW.PrintWords Go.Proofs.YtbfjlhjfpmgplaaDoorW.PrintLast Go.Proofs.YtbfjlhjfpmgplaaDoorW.PrintMore Go.Proofs.YtbfjlhjfpmgplaaDoor.L Go.Proofs.YtbfjlhjfpmgplaaDoor.P

theorem back_j1 {s : ByteArray} (hs : s.size ≤ 1000) : Ev (fun k => gangwaylaw09_BpduBack.j1 k s) true := by
  refine ev_succ ?_
  simp only [gangwaylaw09_BpduBack.j1]
  refine Ev.bind (parse_ev (by omega)) ?_
  obtain ⟨m, e, hb⟩ : ∃ m e, bparse (nb s) = (m, e) := ⟨_, _, rfl⟩
  rw [hb]
  by_cases he : e = 0
  · subst he
    obtain ⟨hok, h1, h2, hl⟩ := parsed_ok (nb_byt s) hb
    have hby : Byt m.bytes := Msg.bytes_byt (by
      rcases Msg.ok_right hok with ⟨h, _⟩ | ⟨_, h, _⟩
      · exact Or.inl h
      · exact Or.inr h)
    have hp := built_msg hok h1 h2 []
    rw [List.append_nil] at hp
    have hb2 : bparse (nb (bs m.bytes)) = (m, 0) := by rw [nb_bs hby]; exact hp
    have hz : (bs m.bytes).size ≤ s.size := by rw [bs_size, ← nb_len s]; exact hl
    refine ev_pos rfl (Ev.bind (build_ev h1 h2) ?_)
    unfold bbuild
    rw [if_pos hok]
    refine Ev.bind (parse_ev (s := bs m.bytes) (by omega)) ?_
    rw [hb2]
    refine Ev.bind (check_ev m) ?_
    rw [if_pos hok]
    exact ev_pos rfl (ev_pos rfl (ev_pos rfl (ev_pos (by simp [mtup]) (ev_pos (by dsimp only; omega) (Ev.bind bpdu_fixed_ev (ev_now rfl))))))
  · obtain rfl := parsed_bad hb he
    exact ev_neg he (ev_pos (by simp [mtup, mzero]) (Ev.bind bpdu_fixed_ev (ev_now rfl)))
theorem BpduBack (kind : Int) (ch pr le fo ag ac : Bool) (role root cost bridge port age mage hello delay : Int) (s : ByteArray) (w0 : (Lit.int .i64 kind).wf = true) (w7 : (Lit.int .i64 role).wf = true) (w8 : (Lit.int .u64 root).wf = true) (w9 : (Lit.int .i64 cost).wf = true) (w10 : (Lit.int .u64 bridge).wf = true) (w11 : (Lit.int .i64 port).wf = true) (w12 : (Lit.int .i64 age).wf = true) (w13 : (Lit.int .i64 mage).wf = true) (w14 : (Lit.int .i64 hello).wf = true) (w15 : (Lit.int .i64 delay).wf = true) (w16 : s.size ≤ 140737488351232) :
    ∃ k, gangwaylaw09_BpduBack.f k kind ch pr le fo ag ac role root cost bridge port age mage hello delay s = some true := by
  have b8 := bounds_u64 w8
  have b10 := bounds_u64 w10
  obtain ⟨root, rfl⟩ := Int.eq_ofNat_of_zero_le b8.1
  obtain ⟨bridge, rfl⟩ := Int.eq_ofNat_of_zero_le b10.1
  refine Ev.rounds ?_
  unfold gangwaylaw09_BpduBack.f
  refine ev_pos (mn_nonneg (size_nat s) (by decide)) (ev_pos (mn_le (s.size : Int) 200).1 ?_)
  have hm := cut_size s 200
  generalize s.extract 0 (mn (s.size : Int) 200).toNat = t at *
  refine ev_succ ?_
  simp only [gangwaylaw09_BpduBack.j0]
  have h1 : root < 18446744073709551616 := by omega
  have h2 : bridge < 18446744073709551616 := by omega
  refine Ev.bind (build_ev (m := ⟨kind, ch, pr, le, fo, ag, ac, role, root, cost, bridge, port, age, mage, hello, delay⟩) h1 h2) ?_
  unfold bbuild
  by_cases hok : Msg.ok ⟨kind, ch, pr, le, fo, ag, ac, role, root, cost, bridge, port, age, mage, hello, delay⟩ = true
  · rw [if_pos hok]
    have hby : Byt (Msg.bytes ⟨kind, ch, pr, le, fo, ag, ac, role, root, cost, bridge, port, age, mage, hello, delay⟩) := Msg.bytes_byt (by
      rcases Msg.ok_right hok with ⟨h, _⟩ | ⟨_, h, _⟩
      · exact Or.inl h
      · exact Or.inr h)
    have hp := built_msg hok h1 h2 (nb t)
    have hl := Msg.bytes_len (m := ⟨kind, ch, pr, le, fo, ag, ac, role, root, cost, bridge, port, age, mage, hello, delay⟩)
    have hl2 : (Msg.bytes ⟨kind, ch, pr, le, fo, ag, ac, role, root, cost, bridge, port, age, mage, hello, delay⟩).length ≤ 39 := by
      rw [hl]
      split
      · omega
      · split <;> omega
    generalize Msg.bytes ⟨kind, ch, pr, le, fo, ag, ac, role, root, cost, bridge, port, age, mage, hello, delay⟩ = l at *
    have hz : (bs l).size ≤ 39 := size_bs_le hl2
    have hb : bparse (nb (bs l ++ t)) = (⟨kind, ch, pr, le, fo, ag, ac, role, root, cost, bridge, port, age, mage, hello, delay⟩, 0) := by rw [nb_append, nb_bs hby]; exact hp
    refine ev_pos rfl (ev_pos (by dsimp only; omega) (Ev.bind (parse_ev (s := bs l ++ t) (by rw [ByteArray.size_append]; omega)) ?_))
    rw [hb]
    exact ev_pos rfl (ev_neg (by simp [mtup]) (back_j1 (by omega)))
  · rw [if_neg hok]
    exact ev_neg (by decide) (back_j1 (by omega))
end Go.Proofs.YtbfjlhjfpmgplaaDoor.Pure
