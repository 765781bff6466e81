-- Written by wip/hprint.py (this session's program) through the kit's print program; hand contracts are marked 'by hand'.
import Derived.Test.YtppaikjbafobbaaDoorPx0
import Derived.Test.YtppaikjbafobbaaDoorPx3
namespace Go.Proofs.YtppaikjbafobbaaDoor.P
open Go.RowKit Go.Proofs.YtppaikjbafobbaaDoorW.PrintWords Go.Proofs.YtppaikjbafobbaaDoorW.PrintLast Go.Proofs.YtppaikjbafobbaaDoorW.PrintMore
attribute [local go_sem] max2_int min2_int max_two min_two max_three min_three max_four min_four   -- for this text's walks alone
set_option linter.unusedVariables false
set_option linter.unusedSimpArgs false

/-! ### udp_word: function 16 -/
def udp_word.f (k : Nat) (a0 : Int) : Option (ByteArray) := (octets_Put.f k (IntKind.u64.wrap (a0)) 2).bind fun bt107 => (some bt107.1)
theorem udp_word.mono : ∀ a0 k, LeO (udp_word.f k a0) (udp_word.f (k + 1) a0) := by
  intro a0 k
  unfold udp_word.f
  repeat' first
      | (with_reducible exact octets_Put.mono _ _ _)
      | (with_reducible exact LeO.refl _)
      | (with_reducible exact LeO.none _)
      | (with_reducible refine LeO.ite ?_ ?_)
      | (with_reducible refine LeO.bind ?_ (fun _ => ?_))
      | exact octets_Put.mono _ _ _
      | exact LeO.none _
      | refine LeO.ite ?_ ?_
      | refine LeO.bind ?_ (fun _ => ?_)
set_option maxHeartbeats 8000000 in
set_option maxRecDepth 100000 in
theorem udp_word.calls (k : Nat) (a0 : Int) (r : ByteArray) (w : World) (h : udp_word.f k a0 = some r) :
    Calls Tryd.prog 16 #[.int .i64 a0] w fun e w' => e = .returned (.string r) ∧ Below w.heap.size w w' := by
  have HB := Aside0.mk (Below.refl w.heap.size w)
  have H : ((octets_Put.f k (IntKind.u64.wrap (a0)) 2).bind fun bt107 => (some bt107.1)) = some r := h
  clear h
  replace H := Option.bind_eq_some_iff.mp H
  obtain ⟨⟨t107, t108⟩, A20, H⟩ := H
  replace H : (some t107) = some r := H
  have A2 := Aside0.mk A20
  clear A20
  obtain rfl := Option.some.inj H
  go_enter Tryd.func16, Tryd.ntmps16
  go_wp2_with (first | ((with_reducible refine gate_callee (f := 26) rfl ?_); refine goesL_ (some 8) rfl rfl Tryd.func26 (by kernel_rfl) rfl #[.int .u64 (IntKind.u64.wrap (a0)), .int .i64 2] rfl (by (try simp only [List.map_toArray, List.map_cons, List.map_nil]); first | done | rfl | (simp only [List.length_drop, List.length_take]; rfl)) ?_; (with_reducible refine (octets_Put.calls k (IntKind.u64.wrap (a0)) 2 t107 t108 _ A2.out).mono ?_); rintro e w3 ⟨rfl, hb⟩; refine ⟨_, rfl, ?_⟩; have n0_ := Aside0.mk (below_step (by repeat (first | (with_reducible first | exact HB.out | apply below_alloc | apply pw_below_drewN | apply below_drew1) | exact HB.out)) hb); clear HB; have HB := n0_; clear n0_; (try clear hb); (try clear hb2); (try clear hk); (try clear hi)))
  go_ret
  exact ⟨by first | rfl | (simp [errW_none, errW_some] <;> rfl) | (simp [*, errW_none, errW_some] <;> rfl) | (simp [*, IntKind.wrap_u32]; done) | (simp_all [IntKind.wrap_u32]; done), by repeat (first | (with_reducible first | exact HB.out | apply below_alloc | apply pw_below_drewN | apply below_drew1) | exact HB.out)⟩

/-! ### strings_Join: function 34, by hand -/
-- IMPORT Derived.Test.YtppaikjbafobbaaDoorShelf
def joined_ (l : List ByteArray) (s : ByteArray) : List UInt8 := Go.Lib.join (l.map (·.data.toList)) s.data.toList
def strings_Join.f (l0 : List ByteArray) (a1 : ByteArray) : Option (ByteArray) :=
  if l0.length ≤ 140737488355328 then (if (joined_ l0 a1).length ≤ 140737488355328 then some ⟨(joined_ l0 a1).toArray⟩ else none) else none
theorem spot_none_ {w : World} {a : Addr} {v : Value} (h : w.cell? a = some v) : a.spot = none := by
  unfold World.cell? at h
  split at h
  · split at h
    · cases h
    · rename_i _ h2
      cases hs : a.spot with
      | none => rfl
      | some x => rw [hs] at h2; exact absurd rfl h2
  · cases h
theorem lt_heap_ {w : World} {a : Addr} {v : Value} (h : w.cell? a = some v) : a.block < w.heap.size := by
  unfold World.cell? at h
  split at h
  · rename_i h1
    exact (Array.getElem?_eq_some_iff.1 h1).1
  · cases h
theorem strings_Join.calls (A0 : Option Addr) (c0 : Nat) (l0 : List ByteArray) (a1 : ByteArray) (r : ByteArray) (w : World) (hr0 : Kd.C Kd.string w A0 l0.length l0) (hc0 : l0.length ≤ c0) (h : strings_Join.f l0 a1 = some r) :
    Calls Tryd.prog 34 #[.slice A0 l0.length c0, .string a1] w fun e w' => e = .returned (.string r) ∧ Below w.heap.size w w' := by
  unfold strings_Join.f at h
  by_cases h1 : l0.length ≤ 140737488355328
  · rw [if_pos h1] at h
    by_cases h2 : (joined_ l0 a1).length ≤ 140737488355328
    · rw [if_pos h2] at h
      cases h
      have hr := Kd.reads_of_C (enc := Value.string) (d := ByteArray.empty) (h1 := fun _ => rfl) hr0
      match l0, hr, hc0, h1, h2 with
      | [], _, _, _, _ => exact (Tryd.strings_Join_none A0 c0 a1 w).mono fun e w' ⟨he, hw⟩ => ⟨he, hw ▸ Below.refl _ _⟩
      | x :: xs, hr, hc0, h1, h2 =>
        have hat := fun (j : Nat) (hj : j < (x :: xs).length) => hr.at_ (j : Int) (Int.natCast_nonneg j) (Int.ofNat_lt.2 hj)
        obtain ⟨ad, rfl, hc⟩ := hat 0 (Nat.zero_lt_succ _)
        have hsp : ad.spot = none := by
          have := spot_none_ hc
          simpa [Addr.add] using this
        have hlt : ad.block < w.heap.size := by
          have := lt_heap_ hc
          simpa [Addr.add] using this
        obtain ⟨bk, o, sp⟩ := ad
        simp only at hsp hlt
        subst hsp
        refine Tryd.strings_Join bk o c0 (x :: xs) a1 w (fun j y hy => ?_) hlt h1 hc0 h2
        have hj := (List.getElem?_eq_some_iff.1 hy).1
        obtain ⟨ad, he, hcell⟩ := hat j hj
        cases he
        have e : (rdOf ByteArray.empty (x :: xs) (j : Int)) = y := by
          simp only [rdOf, Int.toNat_natCast, List.getD_eq_getElem?_getD, hy, Option.getD_some]
        rw [e, Int.toNat_natCast] at hcell
        cases j with
        | zero => simpa [Addr.add] using hcell
        | succ j => simpa [Addr.add] using hcell
    · rw [if_neg h2] at h
      cases h
  · rw [if_neg h1] at h
    cases h

/-! ### csum_fold: function 35 -/
def csum_fold.l0 : Nat → Int → Option (Int)
  | 0, _ => none
  | k + 1, x0 => if x0 > 65535 then (csum_fold.l0 k (wrap64 ((Go.bits .and .i64 x0 65535) + (x0 / 65536)))) else (some x0)
def csum_fold.f (k : Nat) (a0 : Int) : Option (Int) := csum_fold.l0 k a0
theorem csum_fold.mono_l : ∀ k, (∀ y0, LeO (csum_fold.l0 k y0) (csum_fold.l0 (k + 1) y0))
  | 0 => fun _ r h => by simp [csum_fold.l0] at h
  | k + 1 => by
    have ih0 := csum_fold.mono_l k
    · intro y0
      unfold csum_fold.l0
      repeat' first
      | (with_reducible exact ih0 _)
      | (with_reducible exact LeO.refl _)
      | (with_reducible exact LeO.none _)
      | (with_reducible refine LeO.ite ?_ ?_)
      | (with_reducible refine LeO.bind ?_ (fun _ => ?_))
      | exact ih0 _
      | exact LeO.none _
      | refine LeO.ite ?_ ?_
      | refine LeO.bind ?_ (fun _ => ?_)
theorem csum_fold.mono : ∀ a0 k, LeO (csum_fold.f k a0) (csum_fold.f (k + 1) a0) := by
  intro a0 k
  have ih0 := csum_fold.mono_l k
  unfold csum_fold.f
  repeat' first
      | (with_reducible exact ih0 _)
      | (with_reducible exact LeO.refl _)
      | (with_reducible exact LeO.none _)
      | (with_reducible refine LeO.ite ?_ ?_)
      | (with_reducible refine LeO.bind ?_ (fun _ => ?_))
      | exact ih0 _
      | exact LeO.none _
      | refine LeO.ite ?_ ?_
      | refine LeO.bind ?_ (fun _ => ?_)
set_option maxHeartbeats 8000000 in
set_option maxRecDepth 100000 in
theorem csum_fold.calls (k : Nat) (a0 : Int) (r : Int) (w : World) (h : csum_fold.f k a0 = some r) :
    Calls Tryd.prog 35 #[.int .i64 a0] w fun e w' => e = .returned (.int .i64 r) ∧ Drawn0 w w' := by
  have H : (csum_fold.l0 k a0) = some r := h
  clear h
  have H' := Aside0.mk H
  clear H
  go_enter Tryd.func35, Tryd.ntmps35
  go_wp2
  go_loopg [0] k (fun kq v0 w' => ∃ (x0_1 : Int), v0 = .int .i64 x0_1 ∧ Aside0 (csum_fold.l0 kq x0_1 = some r) ∧ Aside0 (kq ≤ k) ∧ Drawn0 w w')
  case atStart => exact ⟨(a0), (by first | rfl | (simp; done) | (simp [*]; done)), H', ⟨Nat.le_refl _⟩, by repeat (first | exact Drawn0.refl _ | apply Drawn0.step)⟩
  case round =>
    clear H'
    obtain ⟨x0_1, rfl, HA, HK1, ⟨m1, rfl⟩⟩ := hrel
    cases gk with
    | zero => exact absurd HA.out (by simp [csum_fold.l0])
    | succ k1 =>
      have H := HA.out
      clear HA
      simp only [csum_fold.l0] at H
      by_cases c2 : x0_1 > 65535
      · rw [if_pos c2] at H
        have c2b0 : decide (65535 < x0_1) = true := decide_eq_true c2
        clear c2
        have H' := Aside0.mk H
        clear H
        go_wp2
        go_roundg k1
        case measure => have := HK1.out; omega
        case rel => exact ⟨(wrap64 ((Go.bits .and .i64 x0_1 65535) + (x0_1 / 65536))), (by first | rfl | (simp; done) | (simp [*]; done)), H', ⟨by have := HK1.out; omega⟩, by repeat (first | exact Drawn0.refl _ | apply Drawn0.step)⟩
      · rw [if_neg c2] at H
        have c2b0 : decide (65535 < x0_1) = false := decide_eq_false c2
        clear c2
        obtain rfl := Option.some.inj H
        go_wp2
        go_ret
        exact ⟨by first | rfl | (simp; done) | (simp [*]; done), by repeat (first | exact Drawn0.refl _ | apply Drawn0.step)⟩

end Go.Proofs.YtppaikjbafobbaaDoor.P
