/- BpduFrames: the frame that any message goes in, and the message in any frame, is as the document says: for every input (of bodies of at most 200 bytes, as the statement cuts them). -/
import Derived.Test.YtbfjlhjfpmgplaaDoorBpduPlain
import Derived.OpenShut
import Derived.Test.YtbfjlhjfpmgplaaDoorPx23
namespace Go.Proofs.YtbfjlhjfpmgplaaDoor.Pure
set_option linter.unusedSimpArgs false
set_option linter.unusedVariables false
open Go Go.RowKit Go.Proofs.YtbfjlhjfpmgplaaDoorW.PrintWords Go.Proofs.YtbfjlhjfpmgplaaDoorW.PrintLast Go.Proofs.YtbfjlhjfpmgplaaDoorW.PrintMore Go.Proofs.YtbfjlhjfpmgplaaDoor.L Go.Proofs.YtbfjlhjfpmgplaaDoor.P

theorem BpduFrames (src : Int) (kind : Int) (ch pr le fo ag ac : Bool) (role root cost bridge port age mage hello delay : Int) (fd fs : Int) (ft : Bool) (fv : Int) (fx : Bool) (fy fz : Int) (body : ByteArray) (ws : (Lit.int .u64 src).wf = true) (w0 : (Lit.int .i64 kind).wf = true) (w7 : (Lit.int .i64 role).wf = true) (w8 : (Lit.int .u64 root).wf = true) (w9 : (Lit.int .i64 cost).wf = true) (w10 : (Lit.int .u64 bridge).wf = true) (w11 : (Lit.int .i64 port).wf = true) (w12 : (Lit.int .i64 age).wf = true) (w13 : (Lit.int .i64 mage).wf = true) (w14 : (Lit.int .i64 hello).wf = true) (w15 : (Lit.int .i64 delay).wf = true)
    (v0 : (Lit.int .u64 fd).wf = true) (v1 : (Lit.int .u64 fs).wf = true) (v3 : (Lit.int .i64 fv).wf = true) (v5 : (Lit.int .i64 fy).wf = true) (v6 : (Lit.int .i64 fz).wf = true) (v7 : body.size ≤ maxLen) :
    ∃ k, gangwaylaw09_BpduFrames.f k src kind ch pr le fo ag ac role root cost bridge port age mage hello delay fd fs ft fv fx fy fz body = some true := by
  have bs := bounds_u64 ws
  have b8 := bounds_u64 w8
  have b10 := bounds_u64 w10
  obtain ⟨src, rfl⟩ := Int.eq_ofNat_of_zero_le bs.1
  obtain ⟨root, rfl⟩ := Int.eq_ofNat_of_zero_le b8.1
  obtain ⟨bridge, rfl⟩ := Int.eq_ofNat_of_zero_le b10.1
  refine Ev.rounds ?_
  unfold gangwaylaw09_BpduFrames.f
  have h0 : src < 18446744073709551616 := by omega
  have h1 : root < 18446744073709551616 := by omega
  have h2 : bridge < 18446744073709551616 := by omega
  refine ev_pos (mn_nonneg (size_nat body) (by decide)) (ev_pos (mn_le (body.size : Int) 200).1 ?_)
  have hm := cut_size body 200
  generalize body.extract 0 (mn (body.size : Int) 200).toNat = t at *
  refine ev_succ ?_
  simp only [gangwaylaw09_BpduFrames.j0]
  refine Ev.bind (frame_ev (m := ⟨kind, ch, pr, le, fo, ag, ac, role, root, cost, bridge, port, age, mage, hello, delay⟩) h0 h1 h2) ?_
  refine Ev.bind (rframe_ev (m := ⟨kind, ch, pr, le, fo, ag, ac, role, root, cost, bridge, port, age, mage, hello, delay⟩) h0 h1 h2) ?_
  refine Ev.bind (of_ev (by omega) fd fs ft fv fx fy fz) (Ev.bind (rof_ev (by omega) fd fs ft fv fx fy fz) (Ev.bind bpdu_fixed_ev (ev_pos rfl ?_)))
  generalize (bof fd ft fz t).1 = m
  generalize (bof fd ft fz t).2 = e
  generalize bframe src ⟨kind, ch, pr, le, fo, ag, ac, role, root, cost, bridge, port, age, mage, hello, delay⟩ = q
  exact ev_pos (by simp) (ev_pos rfl (ev_pos (by simp [mtup]) (ev_now (by simp [mtup]))))
end Go.Proofs.YtbfjlhjfpmgplaaDoor.Pure
