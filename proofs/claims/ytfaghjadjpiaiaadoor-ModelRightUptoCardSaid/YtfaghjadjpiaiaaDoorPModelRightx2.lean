-- PRINTED BY print.sh 35421559b90ae4d0a3588c463048766b98c2df88dd9212a6774a882060cdf62d: not written by this session
import Derived.Test.YtfaghjadjpiaiaaDoorPModelRightx0
namespace Go.Proofs.YtfaghjadjpiaiaaDoor.PModelRight
open Go.RowKit Go.Proofs.YtfaghjadjpiaiaaDoorW.PrintWords Go.Proofs.YtfaghjadjpiaiaaDoorW.PrintLast Go.Proofs.YtfaghjadjpiaiaaDoorW.PrintMore
attribute [local go_sem] max2_int min2_int max_two min_two max_three min_three max_four min_four   -- for this text's walks alone
set_option linter.unusedVariables false
set_option linter.unusedSimpArgs false

-- NOT PRINTED: function 127 (api_Fn_127)

-- NOT PRINTED: function 80 (api_Fn_80)

-- NOT PRINTED: function 37 (fns_May)

-- NOT PRINTED: function 83 (bits_TrailingZeros64)

-- NOT PRINTED: function 38 (bitmap_Bits)

/-! ### bitmap_fits: function 84 -/
def bitmap_fits.f (a0 : Int) : Option (Bool) := if a0 ≥ 0 then (some (decide (a0 < 4096))) else (some false)
set_option maxHeartbeats 8000000 in
set_option maxRecDepth 100000 in
theorem bitmap_fits.calls (a0 : Int) (r : Bool) (w : World) (h : bitmap_fits.f a0 = some r) :
    Calls Tryd.prog 84 #[.int .i64 a0] w fun e w' => e = .returned (.bool r) ∧ Drawn0 w w' := by
  have H : (if a0 ≥ 0 then (some (decide (a0 < 4096))) else (some false)) = some r := h
  clear h
  by_cases c2 : a0 ≥ 0
  · rw [if_pos c2] at H
    have c2b0 : decide (0 ≤ a0) = true := decide_eq_true c2
    clear c2
    obtain rfl := Option.some.inj H
    go_enter Tryd.func84, Tryd.ntmps84
    go_wp2
    go_ret
    exact ⟨by first | rfl | (simp; done) | (simp [*]; done), by repeat (first | exact Drawn0.refl _ | apply Drawn0.step)⟩
  · rw [if_neg c2] at H
    have c2b0 : decide (0 ≤ a0) = false := decide_eq_false c2
    clear c2
    obtain rfl := Option.some.inj H
    go_enter Tryd.func84, Tryd.ntmps84
    go_wp2
    go_ret
    exact ⟨by first | rfl | (simp; done) | (simp [*]; done), by repeat (first | exact Drawn0.refl _ | apply Drawn0.step)⟩

-- NOT PRINTED: function 59 (slices_Clone_uint64_uint64)

/-! ### bitmap_cut: function 129 -/
def bitmap_cut.l0 : Nat → List Int → Option (List Int)
  | 0, _ => none
  | k + 1, x0 => if (x0.length : Int) > 0 then (if 0 ≤ (wrap64 ((x0.length : Int) - 1)) then (if (wrap64 ((x0.length : Int) - 1)) < (x0.length : Int) then (if (rd x0 (wrap64 ((x0.length : Int) - 1))) = 0 then (if (wrap64 ((x0.length : Int) - 1)) ≤ (x0.length : Int) then (bitmap_cut.l0 k (x0.take ((wrap64 ((x0.length : Int) - 1)) : Int).toNat)) else (none)) else (some x0)) else (none)) else (none)) else (some x0)
def bitmap_cut.f (k : Nat) (l0 : List Int) : Option (List Int) := bitmap_cut.l0 k l0
theorem bitmap_cut.mono_l : ∀ k, (∀ y0, LeO (bitmap_cut.l0 k y0) (bitmap_cut.l0 (k + 1) y0))
  | 0 => fun _ r h => by simp [bitmap_cut.l0] at h
  | k + 1 => by
    have ih0 := bitmap_cut.mono_l k
    · intro y0
      unfold bitmap_cut.l0
      repeat' first
      | (with_reducible exact ih0 _)
      | (with_reducible exact LeO.refl _)
      | (with_reducible exact LeO.none _)
      | (with_reducible refine LeO.ite ?_ ?_)
      | (with_reducible refine LeO.bind ?_ (fun _ => ?_))
      | exact ih0 _
      | exact LeO.none _
      | refine LeO.ite ?_ ?_
      | refine LeO.bind ?_ (fun _ => ?_)
theorem bitmap_cut.mono : ∀ a0 k, LeO (bitmap_cut.f k a0) (bitmap_cut.f (k + 1) a0) := by
  intro a0 k
  have ih0 := bitmap_cut.mono_l k
  unfold bitmap_cut.f
  repeat' first
      | (with_reducible exact ih0 _)
      | (with_reducible exact LeO.refl _)
      | (with_reducible exact LeO.none _)
      | (with_reducible refine LeO.ite ?_ ?_)
      | (with_reducible refine LeO.bind ?_ (fun _ => ?_))
      | exact ih0 _
      | exact LeO.none _
      | refine LeO.ite ?_ ?_
      | refine LeO.bind ?_ (fun _ => ?_)
set_option maxHeartbeats 8000000 in
set_option maxRecDepth 100000 in
theorem bitmap_cut.calls (k : Nat) (P0_ : Nat → Prop) (A0 : Option Addr) (c0 : Nat) (l0 : List Int) (r : List Int) (w : World) (hs0 : Kd.V (Kd.int .u64) 24 w w.heap.size (fun k_ => P0_ k_) (.slice A0 l0.length c0) l0) (h : bitmap_cut.f k l0 = some r) :
    Calls Tryd.prog 129 #[.slice A0 l0.length c0] w fun e w' => ∃ v0_ : Value, e = .returned (v0_) ∧ Kd.V (Kd.int .u64) 24 w' w.heap.size (fun k_ => (P0_ k_ ∨ w.heap.size ≤ k_)) v0_ r ∧ Below w.heap.size w w' := by
  have HO0 := Aside0.mk (show Kd.V (Kd.int .u64) 24 w w.heap.size (fun k_ => (P0_ k_ ∨ w.heap.size ≤ k_)) (.slice A0 l0.length c0) l0 from Kd.V_mono hs0 (fun k_ hk => .inl hk))
  have HB := Aside0.mk (Below.refl w.heap.size w)
  have H : (bitmap_cut.l0 k l0) = some r := h
  clear h
  have H' := Aside0.mk H
  clear H
  go_enter Tryd.func129, Tryd.ntmps129
  go_wp2
  go_loopg [0] k (fun kq v0 w' => ∃ (x0_1 : List Int), Aside0 (bitmap_cut.l0 kq x0_1 = some r) ∧ Aside0 (kq ≤ k) ∧ Aside0 (Kd.V (Kd.int .u64) 24 w' w.heap.size (fun k_ => (P0_ k_ ∨ w.heap.size ≤ k_)) v0 x0_1) ∧ Aside0 (Below w.heap.size w w'))
  case atStart => exact ⟨(l0), H', ⟨Nat.le_refl _⟩, ⟨by (with_reducible repeat (first | apply Kd.V_alloc | apply Kd.V_drewN | apply Kd.V_drew)); exact HO0.out⟩, ⟨by repeat (first | (with_reducible first | exact HB.out | apply below_alloc | apply pw_below_drewN | apply below_drew1) | exact HB.out)⟩⟩
  case round =>
    clear H'
    try clear c1
    obtain ⟨x0_1, HA, HK1, HO_0, HB⟩ := hrel
    cases gk with
    | zero => exact absurd HA.out (by simp [bitmap_cut.l0])
    | succ k1 =>
      have H := HA.out
      clear HA
      simp only [bitmap_cut.l0] at H
      by_cases c2 : (x0_1.length : Int) > 0
      · rw [if_pos c2] at H
        have c2b0 : decide (0 < (x0_1.length : Int)) = true := decide_eq_true c2
        have c2b1 : decide (0 < x0_1.length) = true := decide_eq_true (by omega)
        clear c2
        obtain ⟨ji3, hji3⟩ : ∃ j_ : Int, (wrap64 ((x0_1.length : Int) - 1)) = j_ := ⟨_, rfl⟩
        replace H : (if 0 ≤ (ji3) then (if (ji3) < (x0_1.length : Int) then (if (rd x0_1 (ji3)) = 0 then (if (ji3) ≤ (x0_1.length : Int) then (bitmap_cut.l0 k1 (x0_1.take ((ji3) : Int).toNat)) else (none)) else (some x0_1)) else (none)) else (none)) = some r := by first | (rw [hji3] at H; exact H) | (simp only [hji3] at H ⊢; exact H)
        have hji3w : (IntKind.i64.wrap ((x0_1.length : Int) - 1)) = ji3 := (i64_w _).trans hji3
        by_cases c4 : 0 ≤ (ji3)
        · rw [if_pos c4] at H
          have c4b0 : decide (0 ≤ (ji3)) = true := decide_eq_true c4
          clear c4
          by_cases c5 : (ji3) < (x0_1.length : Int)
          · rw [if_pos c5] at H
            have c5b0 : decide ((ji3) < (x0_1.length : Int)) = true := decide_eq_true c5
            clear c5
            by_cases c6 : (rd x0_1 (ji3)) = 0
            · rw [if_pos c6] at H
              have c6b0 : ((rd x0_1 (ji3)) == 0) = true := beq_iff_eq.mpr c6
              have c6b1 : ((rd x0_1 (ji3)) != 0) = false := bne_eq_false_iff_eq.mpr c6
              clear c6
              have c7b0 := eq_true (of_decide_eq_true (by first | (with_reducible assumption) | assumption) : 0 ≤ (ji3))
              by_cases c8 : (ji3) ≤ (x0_1.length : Int)
              · rw [if_pos c8] at H
                have c8b0 := eq_true c8
                have c8b1 : decide ((ji3) ≤ (x0_1.length : Int)) = true := decide_eq_true c8
                clear c8
                obtain ⟨y103, hy103⟩ : ∃ y_ : List Int, y_ = (x0_1.take ((ji3) : Int).toNat) := ⟨_, rfl⟩
                replace H : (bitmap_cut.l0 k1 y103) = some r := by first | (rw [hy103]; with_reducible exact H) | (have H2_ := (Option.bind_some _ _).symm.trans H; rw [hy103]; with_reducible exact H2_) | (have H2_ := (Option.bind_some _ _).symm.trans H; with_reducible exact H2_) | with_reducible exact H | (rw [hy103]; exact H) | exact H
                have Ny103 := Aside0.mk hy103
                clear hy103
                have H' := Aside0.mk H
                clear H
                obtain ⟨Ao9, co9, eo9⟩ := Kd.V_slice HO_0.out
                subst eo9
                have p102 : 0 ≤ ((ji3) : Int) := of_decide_eq_true (by first | (with_reducible assumption) | assumption)
                have q102 : (ji3) < (x0_1.length : Int) := of_decide_eq_true (by first | (with_reducible assumption) | assumption)
                obtain ⟨ad102, e102, hx102_0⟩ := Kd.at_int (Kd.V_reads' HO_0.out).2.2 (ji3) p102 q102
                cases e102
                replace p102 := eq_true p102
                replace q102 := eq_true q102
                have q10 : ((ji3) : Int) ≤ ((x0_1.length : Int) : Int) := of_decide_eq_true (by first | (with_reducible assumption) | assumption)
                obtain ⟨i010, hi010, _, hsz10, _⟩ := info_parts info24
                have hroom10 : x0_1.length ≤ co9 := (Kd.V_reads' HO_0.out).2.1
                have hC10 : Kd.F (Kd.int .u64) _ _ (some ad102) x0_1.length x0_1 := (Kd.V_at (base := w.heap.size) HO_0.out).2.2
                have hcut10 := cut_to (P := Tryd.prog) 42 24 .i64 Tryd.underlying42 hi010 (some ad102) x0_1.length co9 (ji3) (of_decide_eq_true (by first | (with_reducible assumption) | assumption)) q10 hroom10
                have hr10 := Kd.F_take (m := ((ji3) : Int).toNat) hC10 (by omega)
                have hy10 : y103.length = ((ji3) : Int).toNat := (by rw [Ny103.out, List.length_take]; omega)
                rw [← Ny103.out] at hr10
                rw [← hy10] at hcut10
                have HO107 := Aside0.mk (show Kd.V (Kd.int .u64) 24 _ w.heap.size _ (.slice (some ad102) y103.length co9) y103 from Kd.V_mk (by omega) hr10)
                have HC107 := Aside0.mk (show y103.length ≤ co9 from by omega)
                clear hr10 hC10 hroom10 hi010 hsz10
                have KY10 := Aside0.mk hy10
                clear hy10
                replace q10 := eq_true q10
                go_wp2
                go_roundg k1
                case measure => have := HK1.out; omega
                case rel => exact ⟨(y103), H', ⟨by have := HK1.out; omega⟩, ⟨by (with_reducible repeat (first | apply Kd.V_alloc | apply Kd.V_drewN | apply Kd.V_drew)); exact HO107.out⟩, ⟨by repeat (first | (with_reducible first | exact HB.out | apply below_alloc | apply pw_below_drewN | apply below_drew1) | exact HB.out)⟩⟩
              · rw [if_neg c8] at H
                exact absurd H (by simp)
            · rw [if_neg c6] at H
              have c6b0 : ((rd x0_1 (ji3)) == 0) = false := beq_eq_false_iff_ne.mpr c6
              have c6b1 : ((rd x0_1 (ji3)) != 0) = true := bne_iff_ne.mpr c6
              obtain rfl := Option.some.inj H
              obtain ⟨Ao11, co11, eo11⟩ := Kd.V_slice HO_0.out
              subst eo11
              have p102 : 0 ≤ ((ji3) : Int) := of_decide_eq_true (by first | (with_reducible assumption) | assumption)
              have q102 : (ji3) < (x0_1.length : Int) := of_decide_eq_true (by first | (with_reducible assumption) | assumption)
              obtain ⟨ad102, e102, hx102_0⟩ := Kd.at_int (Kd.V_reads' HO_0.out).2.2 (ji3) p102 q102
              cases e102
              replace p102 := eq_true p102
              replace q102 := eq_true q102
              go_wp2
              go_ret
              exact ⟨_, by first | rfl | (simp [errW_none, errW_some] <;> rfl) | (simp only [← hji3]; first | rfl | (simp [errW_none, errW_some] <;> rfl)) | (simp [*, errW_none, errW_some] <;> rfl), by (with_reducible repeat (first | apply Kd.V_alloc | apply Kd.V_drewN | apply Kd.V_drew)); exact HO_0.out, by repeat (first | (with_reducible first | exact HB.out | apply below_alloc | apply pw_below_drewN | apply below_drew1) | exact HB.out)⟩
          · rw [if_neg c5] at H
            exact absurd H (by simp)
        · rw [if_neg c4] at H
          exact absurd H (by simp)
      · rw [if_neg c2] at H
        have c2b0 : decide (0 < (x0_1.length : Int)) = false := decide_eq_false c2
        have c2b1 : decide (0 < x0_1.length) = false := decide_eq_false (by omega)
        clear c2
        obtain rfl := Option.some.inj H
        obtain ⟨Ao12, co12, eo12⟩ := Kd.V_slice HO_0.out
        subst eo12
        go_wp2
        go_ret
        exact ⟨_, by first | rfl | (simp [errW_none, errW_some] <;> rfl) | (simp [*, errW_none, errW_some] <;> rfl), by (with_reducible repeat (first | apply Kd.V_alloc | apply Kd.V_drewN | apply Kd.V_drew)); exact HO_0.out, by repeat (first | (with_reducible first | exact HB.out | apply below_alloc | apply pw_below_drewN | apply below_drew1) | exact HB.out)⟩

-- NOT PRINTED: function 85 (bitmap_With)

-- NOT PRINTED: function 39 (bitmap_Of)

-- NOT PRINTED: function 9 (fns_New)

/-! ### shoringref13_Great: function 10 -/
def shoringref13_Great.l0 : Nat → List (S88) → Int → Int → Option (Bool)
  | 0, _, _, _ => none
  | k + 1, x0, x8, x9 => if x9 < x8 then (if 0 ≤ x9 then (if x9 < (x0.length : Int) then (if (((rd_T88 x0 x9).f1).length : Int) > 40 then (some true) else (shoringref13_Great.l0 k x0 x8 (wrap64 (x9 + 1)))) else (none)) else (none)) else (some false)
def shoringref13_Great.f (k : Nat) (l0 : List (S88)) : Option (Bool) := if (l0.length : Int) > 120 then (some true) else (shoringref13_Great.l0 k l0 (l0.length : Int) 0)
theorem shoringref13_Great.mono_l : ∀ k, (∀ y0 y1 y2, LeO (shoringref13_Great.l0 k y0 y1 y2) (shoringref13_Great.l0 (k + 1) y0 y1 y2))
  | 0 => fun _ _ _ r h => by simp [shoringref13_Great.l0] at h
  | k + 1 => by
    have ih0 := shoringref13_Great.mono_l k
    · intro y0 y1 y2
      unfold shoringref13_Great.l0
      repeat' first
      | (with_reducible exact ih0 _ _ _)
      | (with_reducible exact LeO.refl _)
      | (with_reducible exact LeO.none _)
      | (with_reducible refine LeO.ite ?_ ?_)
      | (with_reducible refine LeO.bind ?_ (fun _ => ?_))
      | exact ih0 _ _ _
      | exact LeO.none _
      | refine LeO.ite ?_ ?_
      | refine LeO.bind ?_ (fun _ => ?_)
theorem shoringref13_Great.mono : ∀ a0 k, LeO (shoringref13_Great.f k a0) (shoringref13_Great.f (k + 1) a0) := by
  intro a0 k
  have ih0 := shoringref13_Great.mono_l k
  unfold shoringref13_Great.f
  repeat' first
      | (with_reducible exact ih0 _ _ _)
      | (with_reducible exact LeO.refl _)
      | (with_reducible exact LeO.none _)
      | (with_reducible refine LeO.ite ?_ ?_)
      | (with_reducible refine LeO.bind ?_ (fun _ => ?_))
      | exact ih0 _ _ _
      | exact LeO.none _
      | refine LeO.ite ?_ ?_
      | refine LeO.bind ?_ (fun _ => ?_)
set_option maxHeartbeats 8000000 in
set_option maxRecDepth 100000 in
theorem shoringref13_Great.calls (k : Nat) (A0 : Option Addr) (c0 : Nat) (l0 : List (S88)) (r : Bool) (w : World) (hr0 : Kd.C k88 w A0 l0.length l0) (hc0 : l0.length ≤ c0) (h : shoringref13_Great.f k l0 = some r) :
    Calls Tryd.prog 10 #[.slice A0 l0.length c0] w fun e w' => e = .returned (.bool r) ∧ Drawn0 w w' := by
  have HR0 := Aside0.mk hr0
  have HC0 := Aside0.mk hc0
  clear hr0 hc0
  have H : (if (l0.length : Int) > 120 then (some true) else (shoringref13_Great.l0 k l0 (l0.length : Int) 0)) = some r := h
  clear h
  by_cases c2 : (l0.length : Int) > 120
  · rw [if_pos c2] at H
    have c2b0 : decide (120 < (l0.length : Int)) = true := decide_eq_true c2
    have c2b1 : decide (120 < l0.length) = true := decide_eq_true (by omega)
    clear c2
    obtain rfl := Option.some.inj H
    go_enter Tryd.func10, Tryd.ntmps10
    go_wp2
    go_ret
    exact ⟨by first | rfl | (simp; done) | (simp [*]; done), by repeat (first | exact Drawn0.refl _ | apply Drawn0.step)⟩
  · rw [if_neg c2] at H
    have c2b0 : decide (120 < (l0.length : Int)) = false := decide_eq_false c2
    have c2b1 : decide (120 < l0.length) = false := decide_eq_false (by omega)
    clear c2
    have H' := Aside0.mk H
    clear H
    go_enter Tryd.func10, Tryd.ntmps10
    go_wp2
    go_loopg [9] k (fun kq v9 w' => ∃ (x9_1 : Int), v9 = .int .i64 x9_1 ∧ Aside0 (shoringref13_Great.l0 kq l0 (l0.length : Int) x9_1 = some r) ∧ Aside0 (kq ≤ k) ∧ Drawn0 w w')
    case atStart => exact ⟨(0), (by first | rfl | (simp; done) | (simp [*]; done)), H', ⟨Nat.le_refl _⟩, by repeat (first | exact Drawn0.refl _ | apply Drawn0.step)⟩
    case round =>
      clear H'
      try clear c1
      try clear c2
      try clear c2b0
      try clear c2b1
      try clear p2
      obtain ⟨x9_1, rfl, HA, HK1, ⟨m1, rfl⟩⟩ := hrel
      cases gk with
      | zero => exact absurd HA.out (by simp [shoringref13_Great.l0])
      | succ k1 =>
        have H := HA.out
        clear HA
        simp only [shoringref13_Great.l0] at H
        by_cases c3 : x9_1 < (l0.length : Int)
        · rw [if_pos c3] at H
          have c3b0 : decide (x9_1 < (l0.length : Int)) = true := decide_eq_true c3
          clear c3
          by_cases c4 : 0 ≤ x9_1
          · rw [if_pos c4] at H
            have c4b0 : decide (0 ≤ x9_1) = true := decide_eq_true c4
            clear c4
            by_cases c5 : x9_1 < (l0.length : Int)
            · rw [if_pos c5] at H
              have c5b0 : decide (x9_1 < (l0.length : Int)) = true := decide_eq_true c5
              clear c5
              by_cases c6 : (((rd_T88 l0 x9_1).f1).length : Int) > 40
              · rw [if_pos c6] at H
                have c6b0 : decide (40 < (((rd_T88 l0 x9_1).f1).length : Int)) = true := decide_eq_true c6
                have c6b1 : decide (40 < ((rd_T88 l0 x9_1).f1).length) = true := decide_eq_true (by omega)
                clear c6
                obtain rfl := Option.some.inj H
                have p110 : 0 ≤ (x9_1 : Int) := of_decide_eq_true (by first | (with_reducible assumption) | assumption)
                have q110 : x9_1 < (l0.length : Int) := of_decide_eq_true (by first | (with_reducible assumption) | assumption)
                obtain ⟨ad110, A110_1, c110_1, e110, hx110_0, hx110_1, hl110_1, hi110_1⟩ := at_T88 HR0.out x9_1 p110 q110
                cases e110
                have HR110_1 := Aside0.mk hi110_1
                have HC110_1 := Aside0.mk hl110_1
                clear hi110_1 hl110_1
                replace p110 := eq_true p110
                replace q110 := eq_true q110
                go_wp2
                go_ret
                exact ⟨by first | rfl | (simp; done) | (simp [*]; done), by repeat (first | exact Drawn0.refl _ | apply Drawn0.step)⟩
              · rw [if_neg c6] at H
                have c6b0 : decide (40 < (((rd_T88 l0 x9_1).f1).length : Int)) = false := decide_eq_false c6
                have c6b1 : decide (40 < ((rd_T88 l0 x9_1).f1).length) = false := decide_eq_false (by omega)
                clear c6
                have H' := Aside0.mk H
                clear H
                have p110 : 0 ≤ (x9_1 : Int) := of_decide_eq_true (by first | (with_reducible assumption) | assumption)
                have q110 : x9_1 < (l0.length : Int) := of_decide_eq_true (by first | (with_reducible assumption) | assumption)
                obtain ⟨ad110, A110_1, c110_1, e110, hx110_0, hx110_1, hl110_1, hi110_1⟩ := at_T88 HR0.out x9_1 p110 q110
                cases e110
                have HR110_1 := Aside0.mk hi110_1
                have HC110_1 := Aside0.mk hl110_1
                clear hi110_1 hl110_1
                replace p110 := eq_true p110
                replace q110 := eq_true q110
                go_wp2
                go_roundg k1
                case measure => have := HK1.out; omega
                case rel => exact ⟨(wrap64 (x9_1 + 1)), (by first | rfl | (simp; done) | (simp [*]; done)), H', ⟨by have := HK1.out; omega⟩, by repeat (first | exact Drawn0.refl _ | apply Drawn0.step)⟩
            · rw [if_neg c5] at H
              exact absurd H (by simp)
          · rw [if_neg c4] at H
            exact absurd H (by simp)
        · rw [if_neg c3] at H
          have c3b0 : decide (x9_1 < (l0.length : Int)) = false := decide_eq_false c3
          clear c3
          obtain rfl := Option.some.inj H
          go_wp2
          go_ret
          exact ⟨by first | rfl | (simp; done) | (simp [*]; done), by repeat (first | exact Drawn0.refl _ | apply Drawn0.step)⟩

/-! ### shoringref19_Great: function 11 -/
def shoringref19_Great.l0 : Nat → List (S80) → Int → Int → Option (Bool)
  | 0, _, _, _ => none
  | k + 1, x0, x8, x9 => if x9 < x8 then (if 0 ≤ x9 then (if x9 < (x0.length : Int) then (if (((rd_T80 x0 x9).f1).length : Int) > 100 then (some true) else (shoringref19_Great.l0 k x0 x8 (wrap64 (x9 + 1)))) else (none)) else (none)) else (some false)
def shoringref19_Great.f (k : Nat) (l0 : List (S80)) : Option (Bool) := if (l0.length : Int) > 30 then (some true) else (shoringref19_Great.l0 k l0 (l0.length : Int) 0)
theorem shoringref19_Great.mono_l : ∀ k, (∀ y0 y1 y2, LeO (shoringref19_Great.l0 k y0 y1 y2) (shoringref19_Great.l0 (k + 1) y0 y1 y2))
  | 0 => fun _ _ _ r h => by simp [shoringref19_Great.l0] at h
  | k + 1 => by
    have ih0 := shoringref19_Great.mono_l k
    · intro y0 y1 y2
      unfold shoringref19_Great.l0
      repeat' first
      | (with_reducible exact ih0 _ _ _)
      | (with_reducible exact LeO.refl _)
      | (with_reducible exact LeO.none _)
      | (with_reducible refine LeO.ite ?_ ?_)
      | (with_reducible refine LeO.bind ?_ (fun _ => ?_))
      | exact ih0 _ _ _
      | exact LeO.none _
      | refine LeO.ite ?_ ?_
      | refine LeO.bind ?_ (fun _ => ?_)
theorem shoringref19_Great.mono : ∀ a0 k, LeO (shoringref19_Great.f k a0) (shoringref19_Great.f (k + 1) a0) := by
  intro a0 k
  have ih0 := shoringref19_Great.mono_l k
  unfold shoringref19_Great.f
  repeat' first
      | (with_reducible exact ih0 _ _ _)
      | (with_reducible exact LeO.refl _)
      | (with_reducible exact LeO.none _)
      | (with_reducible refine LeO.ite ?_ ?_)
      | (with_reducible refine LeO.bind ?_ (fun _ => ?_))
      | exact ih0 _ _ _
      | exact LeO.none _
      | refine LeO.ite ?_ ?_
      | refine LeO.bind ?_ (fun _ => ?_)
set_option maxHeartbeats 8000000 in
set_option maxRecDepth 100000 in
theorem shoringref19_Great.calls (k : Nat) (A0 : Option Addr) (c0 : Nat) (l0 : List (S80)) (r : Bool) (w : World) (hr0 : Kd.C k80 w A0 l0.length l0) (hc0 : l0.length ≤ c0) (h : shoringref19_Great.f k l0 = some r) :
    Calls Tryd.prog 11 #[.slice A0 l0.length c0] w fun e w' => e = .returned (.bool r) ∧ Drawn0 w w' := by
  have HR0 := Aside0.mk hr0
  have HC0 := Aside0.mk hc0
  clear hr0 hc0
  have H : (if (l0.length : Int) > 30 then (some true) else (shoringref19_Great.l0 k l0 (l0.length : Int) 0)) = some r := h
  clear h
  by_cases c2 : (l0.length : Int) > 30
  · rw [if_pos c2] at H
    have c2b0 : decide (30 < (l0.length : Int)) = true := decide_eq_true c2
    have c2b1 : decide (30 < l0.length) = true := decide_eq_true (by omega)
    clear c2
    obtain rfl := Option.some.inj H
    go_enter Tryd.func11, Tryd.ntmps11
    go_wp2
    go_ret
    exact ⟨by first | rfl | (simp; done) | (simp [*]; done), by repeat (first | exact Drawn0.refl _ | apply Drawn0.step)⟩
  · rw [if_neg c2] at H
    have c2b0 : decide (30 < (l0.length : Int)) = false := decide_eq_false c2
    have c2b1 : decide (30 < l0.length) = false := decide_eq_false (by omega)
    clear c2
    have H' := Aside0.mk H
    clear H
    go_enter Tryd.func11, Tryd.ntmps11
    go_wp2
    go_loopg [9] k (fun kq v9 w' => ∃ (x9_1 : Int), v9 = .int .i64 x9_1 ∧ Aside0 (shoringref19_Great.l0 kq l0 (l0.length : Int) x9_1 = some r) ∧ Aside0 (kq ≤ k) ∧ Drawn0 w w')
    case atStart => exact ⟨(0), (by first | rfl | (simp; done) | (simp [*]; done)), H', ⟨Nat.le_refl _⟩, by repeat (first | exact Drawn0.refl _ | apply Drawn0.step)⟩
    case round =>
      clear H'
      try clear c1
      try clear c2
      try clear c2b0
      try clear c2b1
      try clear p2
      obtain ⟨x9_1, rfl, HA, HK1, ⟨m1, rfl⟩⟩ := hrel
      cases gk with
      | zero => exact absurd HA.out (by simp [shoringref19_Great.l0])
      | succ k1 =>
        have H := HA.out
        clear HA
        simp only [shoringref19_Great.l0] at H
        by_cases c3 : x9_1 < (l0.length : Int)
        · rw [if_pos c3] at H
          have c3b0 : decide (x9_1 < (l0.length : Int)) = true := decide_eq_true c3
          clear c3
          by_cases c4 : 0 ≤ x9_1
          · rw [if_pos c4] at H
            have c4b0 : decide (0 ≤ x9_1) = true := decide_eq_true c4
            clear c4
            by_cases c5 : x9_1 < (l0.length : Int)
            · rw [if_pos c5] at H
              have c5b0 : decide (x9_1 < (l0.length : Int)) = true := decide_eq_true c5
              clear c5
              by_cases c6 : (((rd_T80 l0 x9_1).f1).length : Int) > 100
              · rw [if_pos c6] at H
                have c6b0 : decide (100 < (((rd_T80 l0 x9_1).f1).length : Int)) = true := decide_eq_true c6
                have c6b1 : decide (100 < ((rd_T80 l0 x9_1).f1).length) = true := decide_eq_true (by omega)
                clear c6
                obtain rfl := Option.some.inj H
                have p111 : 0 ≤ (x9_1 : Int) := of_decide_eq_true (by first | (with_reducible assumption) | assumption)
                have q111 : x9_1 < (l0.length : Int) := of_decide_eq_true (by first | (with_reducible assumption) | assumption)
                obtain ⟨ad111, A111_1, c111_1, e111, hx111_0, hx111_1, hl111_1, hi111_1⟩ := at_T80 HR0.out x9_1 p111 q111
                cases e111
                have HR111_1 := Aside0.mk hi111_1
                have HC111_1 := Aside0.mk hl111_1
                clear hi111_1 hl111_1
                replace p111 := eq_true p111
                replace q111 := eq_true q111
                go_wp2
                go_ret
                exact ⟨by first | rfl | (simp; done) | (simp [*]; done), by repeat (first | exact Drawn0.refl _ | apply Drawn0.step)⟩
              · rw [if_neg c6] at H
                have c6b0 : decide (100 < (((rd_T80 l0 x9_1).f1).length : Int)) = false := decide_eq_false c6
                have c6b1 : decide (100 < ((rd_T80 l0 x9_1).f1).length) = false := decide_eq_false (by omega)
                clear c6
                have H' := Aside0.mk H
                clear H
                have p111 : 0 ≤ (x9_1 : Int) := of_decide_eq_true (by first | (with_reducible assumption) | assumption)
                have q111 : x9_1 < (l0.length : Int) := of_decide_eq_true (by first | (with_reducible assumption) | assumption)
                obtain ⟨ad111, A111_1, c111_1, e111, hx111_0, hx111_1, hl111_1, hi111_1⟩ := at_T80 HR0.out x9_1 p111 q111
                cases e111
                have HR111_1 := Aside0.mk hi111_1
                have HC111_1 := Aside0.mk hl111_1
                clear hi111_1 hl111_1
                replace p111 := eq_true p111
                replace q111 := eq_true q111
                go_wp2
                go_roundg k1
                case measure => have := HK1.out; omega
                case rel => exact ⟨(wrap64 (x9_1 + 1)), (by first | rfl | (simp; done) | (simp [*]; done)), H', ⟨by have := HK1.out; omega⟩, by repeat (first | exact Drawn0.refl _ | apply Drawn0.step)⟩
            · rw [if_neg c5] at H
              exact absurd H (by simp)
          · rw [if_neg c4] at H
            exact absurd H (by simp)
        · rw [if_neg c3] at H
          have c3b0 : decide (x9_1 < (l0.length : Int)) = false := decide_eq_false c3
          clear c3
          obtain rfl := Option.some.inj H
          go_wp2
          go_ret
          exact ⟨by first | rfl | (simp; done) | (simp [*]; done), by repeat (first | exact Drawn0.refl _ | apply Drawn0.step)⟩

-- NOT PRINTED: function 88 (model_must)

-- NOT PRINTED: function 151 (api_Val_151)

-- NOT PRINTED: function 130 (model_clone)

-- NOT PRINTED: function 132 (model_caught)

-- NOT PRINTED: function 95 (model_row_has)

-- NOT PRINTED: function 102 (model_row_ptr)

-- NOT PRINTED: function 174 (api_Val_174)

-- NOT PRINTED: function 155 (api_Val_155)

-- NOT PRINTED: function 136 (slots_May)

-- NOT PRINTED: function 96 (model_row_fits)

-- NOT PRINTED: function 152 (model_row_right)

-- NOT PRINTED: function 133 (model_Right)

-- NOT PRINTED: function 86 (model_change)

-- NOT PRINTED: function 40 (model_Call)

-- NOT PRINTED: function 41 (model_Return)

-- NOT PRINTED: function 12 (shoringlaw19_awake)

/-! ### shoringref13_Size: function 42 -/
def shoringref13_Size.f (l0 : List (S88)) (a1 : Int) : Option (Int) := if a1 < 0 then (some (-1)) else (if a1 ≥ (l0.length : Int) then (some (-1)) else (if 0 ≤ a1 then (if a1 < (l0.length : Int) then (some ((rd_T88 l0 a1).f0)) else (none)) else (none)))
set_option maxHeartbeats 8000000 in
set_option maxRecDepth 100000 in
theorem shoringref13_Size.calls (A0 : Option Addr) (c0 : Nat) (l0 : List (S88)) (a1 : Int) (r : Int) (w : World) (hr0 : Kd.C k88 w A0 l0.length l0) (hc0 : l0.length ≤ c0) (h : shoringref13_Size.f l0 a1 = some r) :
    Calls Tryd.prog 42 #[.slice A0 l0.length c0, .int .i64 a1] w fun e w' => e = .returned (.int .i64 r) ∧ Drawn0 w w' := by
  have HR0 := Aside0.mk hr0
  have HC0 := Aside0.mk hc0
  clear hr0 hc0
  have H : (if a1 < 0 then (some (-1)) else (if a1 ≥ (l0.length : Int) then (some (-1)) else (if 0 ≤ a1 then (if a1 < (l0.length : Int) then (some ((rd_T88 l0 a1).f0)) else (none)) else (none)))) = some r := h
  clear h
  by_cases c3 : a1 < 0
  · rw [if_pos c3] at H
    have c3b0 : decide (a1 < 0) = true := decide_eq_true c3
    clear c3
    obtain rfl := Option.some.inj H
    go_enter Tryd.func42, Tryd.ntmps42
    go_wp2
    go_ret
    exact ⟨by first | rfl | (simp; done) | (simp [*]; done), by repeat (first | exact Drawn0.refl _ | apply Drawn0.step)⟩
  · rw [if_neg c3] at H
    have c3b0 : decide (a1 < 0) = false := decide_eq_false c3
    clear c3
    by_cases c4 : a1 ≥ (l0.length : Int)
    · rw [if_pos c4] at H
      have c4b0 : decide ((l0.length : Int) ≤ a1) = true := decide_eq_true c4
      clear c4
      obtain rfl := Option.some.inj H
      go_enter Tryd.func42, Tryd.ntmps42
      go_wp2
      go_ret
      exact ⟨by first | rfl | (simp; done) | (simp [*]; done), by repeat (first | exact Drawn0.refl _ | apply Drawn0.step)⟩
    · rw [if_neg c4] at H
      have c4b0 : decide ((l0.length : Int) ≤ a1) = false := decide_eq_false c4
      clear c4
      by_cases c5 : 0 ≤ a1
      · rw [if_pos c5] at H
        have c5b0 : decide (0 ≤ a1) = true := decide_eq_true c5
        clear c5
        by_cases c6 : a1 < (l0.length : Int)
        · rw [if_pos c6] at H
          have c6b0 : decide (a1 < (l0.length : Int)) = true := decide_eq_true c6
          clear c6
          obtain rfl := Option.some.inj H
          have p115 : 0 ≤ (a1 : Int) := of_decide_eq_true (by first | (with_reducible assumption) | assumption)
          have q115 : a1 < (l0.length : Int) := of_decide_eq_true (by first | (with_reducible assumption) | assumption)
          obtain ⟨ad115, A115_1, c115_1, e115, hx115_0, hx115_1, hl115_1, hi115_1⟩ := at_T88 HR0.out a1 p115 q115
          cases e115
          have HR115_1 := Aside0.mk hi115_1
          have HC115_1 := Aside0.mk hl115_1
          clear hi115_1 hl115_1
          replace p115 := eq_true p115
          replace q115 := eq_true q115
          go_enter Tryd.func42, Tryd.ntmps42
          go_wp2
          go_ret
          exact ⟨by first | rfl | (simp; done) | (simp [*]; done), by repeat (first | exact Drawn0.refl _ | apply Drawn0.step)⟩
        · rw [if_neg c6] at H
          exact absurd H (by simp)
      · rw [if_neg c5] at H
        exact absurd H (by simp)

/-! ### shoringref16_May: function 91 -/
def shoringref16_May.j0 : Nat → Bool → Int → Int → Int → Int → Option (Bool)
  | 0, _, _, _, _, _ => none
  | k + 1, x15, x117000, x117001, x117002, x117003 => if x15 = true then (some false) else (if x117000 < 2 then (if x117002 = 0 then (some (x117003 == 0)) else (some false)) else (if x117002 ≥ 0 then (some (decide (x117003 ≥ 0))) else (some false)))
def shoringref16_May.f (k : Nat) (a0_0 : Int) (a0_1 : Int) (a0_2 : Int) (a0_3 : Int) : Option (Bool) := if a0_0 > 2 then (shoringref16_May.j0 k true a0_0 a0_1 a0_2 a0_3) else (if a0_0 = 1 then (shoringref16_May.j0 k false a0_0 a0_1 a0_2 a0_3) else (shoringref16_May.j0 k (a0_1 != 0) a0_0 a0_1 a0_2 a0_3))
theorem shoringref16_May.mono_l : ∀ k, (∀ y0 y1 y2 y3 y4, LeO (shoringref16_May.j0 k y0 y1 y2 y3 y4) (shoringref16_May.j0 (k + 1) y0 y1 y2 y3 y4))
  | 0 => fun _ _ _ _ _ r h => by simp [shoringref16_May.j0] at h
  | k + 1 => by
    have ih0 := shoringref16_May.mono_l k
    · intro y0 y1 y2 y3 y4
      unfold shoringref16_May.j0
      repeat' first
      | (with_reducible exact ih0 _ _ _ _ _)
      | (with_reducible exact LeO.refl _)
      | (with_reducible exact LeO.none _)
      | (with_reducible refine LeO.ite ?_ ?_)
      | (with_reducible refine LeO.bind ?_ (fun _ => ?_))
      | exact ih0 _ _ _ _ _
      | exact LeO.none _
      | refine LeO.ite ?_ ?_
      | refine LeO.bind ?_ (fun _ => ?_)
theorem shoringref16_May.mono : ∀ a0 a1 a2 a3 k, LeO (shoringref16_May.f k a0 a1 a2 a3) (shoringref16_May.f (k + 1) a0 a1 a2 a3) := by
  intro a0 a1 a2 a3 k
  have ih0 := shoringref16_May.mono_l k
  unfold shoringref16_May.f
  repeat' first
      | (with_reducible exact ih0 _ _ _ _ _)
      | (with_reducible exact LeO.refl _)
      | (with_reducible exact LeO.none _)
      | (with_reducible refine LeO.ite ?_ ?_)
      | (with_reducible refine LeO.bind ?_ (fun _ => ?_))
      | exact ih0 _ _ _ _ _
      | exact LeO.none _
      | refine LeO.ite ?_ ?_
      | refine LeO.bind ?_ (fun _ => ?_)
set_option maxHeartbeats 8000000 in
set_option maxRecDepth 100000 in
theorem shoringref16_May.calls (k : Nat) (a0_0 : Int) (a0_1 : Int) (a0_2 : Int) (a0_3 : Int) (r : Bool) (w : World) (h : shoringref16_May.f k a0_0 a0_1 a0_2 a0_3 = some r) :
    Calls Tryd.prog 91 #[.agg #[.int .u8 a0_0, .int .u64 a0_1, .int .i64 a0_2, .int .i64 a0_3]] w fun e w' => e = .returned (.bool r) ∧ Below w.heap.size w w' := by
  have hu26 := Tryd.underlying26
  have HB := Aside0.mk (Below.refl w.heap.size w)
  have H : (if a0_0 > 2 then (shoringref16_May.j0 k true a0_0 a0_1 a0_2 a0_3) else (if a0_0 = 1 then (shoringref16_May.j0 k false a0_0 a0_1 a0_2 a0_3) else (shoringref16_May.j0 k (a0_1 != 0) a0_0 a0_1 a0_2 a0_3))) = some r := h
  clear h
  have HC2 := Aside0.mk H
  clear H
  go_enter Tryd.func91, Tryd.ntmps91
  go_upto_region 1 with (first | ((with_reducible refine gate_dst (N := 1) rfl ?_); refine box_event ?hg (N := 1) ?hd (cs := #[.int .u8 a0_0, .int .u64 a0_1, .int .i64 a0_2, .int .i64 a0_3]) (t := 26) ?hr ?_; (case hd => rfl); (case hg => rfl); (case hr => first | (go_simp; done) | (go_simp; rfl)); intro gb116 hg w3 hbox hb; have n0_ := Aside0.mk (below_step (by repeat (first | (with_reducible first | exact HB.out | apply below_alloc | apply pw_below_drewN | apply below_drew1) | exact HB.out)) hb); have n1_ := Aside0.mk (hbox); have n2_ := Aside0.mk ((by rw [hg]; exact (below_size (by repeat (first | (with_reducible first | exact HB.out | apply below_alloc | apply pw_below_drewN | apply below_drew1) | exact HB.out))) : w.heap.size ≤ gb116)); have n3_ := Aside0.mk ((by rw [hg]; exact (below_size (by repeat (first | (with_reducible first | exact HB.out | apply below_alloc | apply pw_below_drewN | apply below_drew1) | exact HB.out))) : w.heap.size ≤ gb116)); clear HB; have HB := n0_; have BK116 := n1_; have GW116 := n2_; have GE116 := n3_; clear n0_ n1_ n2_ n3_; clear hb hbox hg))
  (try simp only [Act.put, List.setIfInBounds_toArray, List.set_cons_zero, List.set_cons_succ])
  go_cut [15] (fun v15 wc => ∃ (kq : Nat) (x15_1 : Bool), v15 = .bool x15_1 ∧ Aside0 (shoringref16_May.j0 kq x15_1 a0_0 a0_1 a0_2 a0_3 = some r) ∧ Aside0 (kq ≤ k) ∧ Aside0 (wc.heap[gb116]? = some (.cells #[.int .u8 a0_0, .int .u64 a0_1, .int .i64 a0_2, .int .i64 a0_3] 26 (0, 0))) ∧ Aside0 (Below w.heap.size w wc))
  case first =>
    have H := HC2.out
    clear HC2
    by_cases c4 : a0_0 > 2
    · rw [if_pos c4] at H
      have c4b0 : decide (2 < a0_0) = true := decide_eq_true c4
      clear c4
      (first | rw [c4b0] | (simp only [i64_w, i32_w]; rw [c4b0]) | skip)
      have H' := Aside0.mk H
      clear H
      have hcz5_0 : w3.cell? ⟨gb116, 0, none⟩ = some (.int .u8 a0_0) := (blk_cell BK116.out 0).trans rfl
      have hcz5_1 : w3.cell? ⟨gb116, 1, none⟩ = some (.int .u64 a0_1) := (blk_cell BK116.out 1).trans rfl
      have hcz5_2 : w3.cell? ⟨gb116, 2, none⟩ = some (.int .i64 a0_2) := (blk_cell BK116.out 2).trans rfl
      have hcz5_3 : w3.cell? ⟨gb116, 3, none⟩ = some (.int .i64 a0_3) := (blk_cell BK116.out 3).trans rfl
      have hfz5_0 := blk_frozen BK116.out 0
      have hfz5_1 := blk_frozen BK116.out 1
      have hfz5_2 := blk_frozen BK116.out 2
      have hfz5_3 := blk_frozen BK116.out 3
      go_wp2
      go_meet
      case rel => exact ⟨_, (true), (by first | rfl | (simp; done) | (simp [*]; done)), H', ⟨by first | omega | exact Nat.le_refl _⟩, ⟨by (with_reducible repeat (first | refine blk_drewN ?_ _ | refine blk_drew ?_ | refine blk_alloc ?_ _)); exact BK116.out⟩, ⟨by repeat (first | (with_reducible first | exact HB.out | apply below_alloc | apply pw_below_drewN | apply below_drew1 | refine below_set ?_ GE116.out) | exact HB.out)⟩⟩
    · rw [if_neg c4] at H
      have c4b0 : decide (2 < a0_0) = false := decide_eq_false c4
      clear c4
      (first | rw [c4b0] | (simp only [i64_w, i32_w]; rw [c4b0]) | skip)
      by_cases c6 : a0_0 = 1
      · rw [if_pos c6] at H
        have c6b0 : (a0_0 == 1) = true := beq_iff_eq.mpr c6
        have c6b1 : (a0_0 != 1) = false := bne_eq_false_iff_eq.mpr c6
        clear c6
        have H' := Aside0.mk H
        clear H
        have hcz7_0 : w3.cell? ⟨gb116, 0, none⟩ = some (.int .u8 a0_0) := (blk_cell BK116.out 0).trans rfl
        have hcz7_1 : w3.cell? ⟨gb116, 1, none⟩ = some (.int .u64 a0_1) := (blk_cell BK116.out 1).trans rfl
        have hcz7_2 : w3.cell? ⟨gb116, 2, none⟩ = some (.int .i64 a0_2) := (blk_cell BK116.out 2).trans rfl
        have hcz7_3 : w3.cell? ⟨gb116, 3, none⟩ = some (.int .i64 a0_3) := (blk_cell BK116.out 3).trans rfl
        have hfz7_0 := blk_frozen BK116.out 0
        have hfz7_1 := blk_frozen BK116.out 1
        have hfz7_2 := blk_frozen BK116.out 2
        have hfz7_3 := blk_frozen BK116.out 3
        go_wp2
        go_meet
        case rel => exact ⟨_, (false), (by first | rfl | (simp; done) | (simp [*]; done)), H', ⟨by first | omega | exact Nat.le_refl _⟩, ⟨by (with_reducible repeat (first | refine blk_drewN ?_ _ | refine blk_drew ?_ | refine blk_alloc ?_ _)); exact BK116.out⟩, ⟨by repeat (first | (with_reducible first | exact HB.out | apply below_alloc | apply pw_below_drewN | apply below_drew1 | refine below_set ?_ GE116.out) | exact HB.out)⟩⟩
      · rw [if_neg c6] at H
        have c6b0 : (a0_0 == 1) = false := beq_eq_false_iff_ne.mpr c6
        have c6b1 : (a0_0 != 1) = true := bne_iff_ne.mpr c6
        have H' := Aside0.mk H
        clear H
        have hcz8_0 : w3.cell? ⟨gb116, 0, none⟩ = some (.int .u8 a0_0) := (blk_cell BK116.out 0).trans rfl
        have hcz8_1 : w3.cell? ⟨gb116, 1, none⟩ = some (.int .u64 a0_1) := (blk_cell BK116.out 1).trans rfl
        have hcz8_2 : w3.cell? ⟨gb116, 2, none⟩ = some (.int .i64 a0_2) := (blk_cell BK116.out 2).trans rfl
        have hcz8_3 : w3.cell? ⟨gb116, 3, none⟩ = some (.int .i64 a0_3) := (blk_cell BK116.out 3).trans rfl
        have hfz8_0 := blk_frozen BK116.out 0
        have hfz8_1 := blk_frozen BK116.out 1
        have hfz8_2 := blk_frozen BK116.out 2
        have hfz8_3 := blk_frozen BK116.out 3
        go_wp2
        go_meet
        case rel => exact ⟨_, ((a0_1 != 0)), (by first | rfl | (simp; done) | (simp [*]; done)), H', ⟨by first | omega | exact Nat.le_refl _⟩, ⟨by (with_reducible repeat (first | refine blk_drewN ?_ _ | refine blk_drew ?_ | refine blk_alloc ?_ _)); exact BK116.out⟩, ⟨by repeat (first | (with_reducible first | exact HB.out | apply below_alloc | apply pw_below_drewN | apply below_drew1 | refine below_set ?_ GE116.out) | exact HB.out)⟩⟩
  case rest =>
    clear HC2
    try clear p2
    try clear c4
    try clear c4b0
    try clear c6
    try clear c6b0
    try clear c6b1
    try clear hcz5_0
    try clear hcz5_1
    try clear hcz5_2
    try clear hcz5_3
    try clear hcz7_0
    try clear hcz7_1
    try clear hcz7_2
    try clear hcz7_3
    try clear hcz8_0
    try clear hcz8_1
    try clear hcz8_2
    try clear hcz8_3
    try clear hfz5_0
    try clear hfz5_1
    try clear hfz5_2
    try clear hfz5_3
    try clear hfz7_0
    try clear hfz7_1
    try clear hfz7_2
    try clear hfz7_3
    try clear hfz8_0
    try clear hfz8_1
    try clear hfz8_2
    try clear hfz8_3
    obtain ⟨kq, x15_1, rfl, HA, HJ1, BK116, HB⟩ := hcut
    cases kq with
    | zero => exact absurd HA.out (by simp [shoringref16_May.j0])
    | succ kj1 =>
      have H := HA.out
      clear HA
      simp only [shoringref16_May.j0] at H
      by_cases c9 : x15_1 = true
      · subst c9
        have H1 : (some false) = some r := by rw [if_pos rfl] at H; exact H
        clear H
        have H := H1
        clear H1
        obtain rfl := Option.some.inj H
        go_wp2
        go_ret
        exact ⟨by first | rfl | (simp [errW_none, errW_some] <;> rfl) | (simp [*, errW_none, errW_some] <;> rfl), by repeat (first | (with_reducible first | exact HB.out | apply below_alloc | apply pw_below_drewN | apply below_drew1 | refine below_set ?_ GE116.out) | exact HB.out)⟩
      · replace c9 := Bool.eq_false_iff.mpr c9
        subst c9
        have H1 : (if a0_0 < 2 then (if a0_2 = 0 then (some (a0_3 == 0)) else (some false)) else (if a0_2 ≥ 0 then (some (decide (a0_3 ≥ 0))) else (some false))) = some r := by rw [if_neg (show ¬ (false = true) by decide)] at H; exact H
        clear H
        have H := H1
        clear H1
        by_cases c10 : a0_0 < 2
        · rw [if_pos c10] at H
          have c10b0 : decide (a0_0 < 2) = true := decide_eq_true c10
          clear c10
          by_cases c11 : a0_2 = 0
          · rw [if_pos c11] at H
            have c11b0 : (a0_2 == 0) = true := beq_iff_eq.mpr c11
            have c11b1 : (a0_2 != 0) = false := bne_eq_false_iff_eq.mpr c11
            clear c11
            obtain rfl := Option.some.inj H
            have hcz12_0 : wc.cell? ⟨gb116, 0, none⟩ = some (.int .u8 a0_0) := (blk_cell BK116.out 0).trans rfl
            have hcz12_1 : wc.cell? ⟨gb116, 1, none⟩ = some (.int .u64 a0_1) := (blk_cell BK116.out 1).trans rfl
            have hcz12_2 : wc.cell? ⟨gb116, 2, none⟩ = some (.int .i64 a0_2) := (blk_cell BK116.out 2).trans rfl
            have hcz12_3 : wc.cell? ⟨gb116, 3, none⟩ = some (.int .i64 a0_3) := (blk_cell BK116.out 3).trans rfl
            have hfz12_0 := blk_frozen BK116.out 0
            have hfz12_1 := blk_frozen BK116.out 1
            have hfz12_2 := blk_frozen BK116.out 2
            have hfz12_3 := blk_frozen BK116.out 3
            go_wp2
            go_ret
            exact ⟨by first | rfl | (simp [errW_none, errW_some] <;> rfl) | (simp [*, errW_none, errW_some] <;> rfl), by repeat (first | (with_reducible first | exact HB.out | apply below_alloc | apply pw_below_drewN | apply below_drew1 | refine below_set ?_ GE116.out) | exact HB.out)⟩
          · rw [if_neg c11] at H
            have c11b0 : (a0_2 == 0) = false := beq_eq_false_iff_ne.mpr c11
            have c11b1 : (a0_2 != 0) = true := bne_iff_ne.mpr c11
            obtain rfl := Option.some.inj H
            have hcz13_0 : wc.cell? ⟨gb116, 0, none⟩ = some (.int .u8 a0_0) := (blk_cell BK116.out 0).trans rfl
            have hcz13_1 : wc.cell? ⟨gb116, 1, none⟩ = some (.int .u64 a0_1) := (blk_cell BK116.out 1).trans rfl
            have hcz13_2 : wc.cell? ⟨gb116, 2, none⟩ = some (.int .i64 a0_2) := (blk_cell BK116.out 2).trans rfl
            have hcz13_3 : wc.cell? ⟨gb116, 3, none⟩ = some (.int .i64 a0_3) := (blk_cell BK116.out 3).trans rfl
            have hfz13_0 := blk_frozen BK116.out 0
            have hfz13_1 := blk_frozen BK116.out 1
            have hfz13_2 := blk_frozen BK116.out 2
            have hfz13_3 := blk_frozen BK116.out 3
            go_wp2
            go_ret
            exact ⟨by first | rfl | (simp [errW_none, errW_some] <;> rfl) | (simp [*, errW_none, errW_some] <;> rfl), by repeat (first | (with_reducible first | exact HB.out | apply below_alloc | apply pw_below_drewN | apply below_drew1 | refine below_set ?_ GE116.out) | exact HB.out)⟩
        · rw [if_neg c10] at H
          have c10b0 : decide (a0_0 < 2) = false := decide_eq_false c10
          clear c10
          by_cases c14 : a0_2 ≥ 0
          · rw [if_pos c14] at H
            have c14b0 : decide (0 ≤ a0_2) = true := decide_eq_true c14
            clear c14
            obtain rfl := Option.some.inj H
            have hcz15_0 : wc.cell? ⟨gb116, 0, none⟩ = some (.int .u8 a0_0) := (blk_cell BK116.out 0).trans rfl
            have hcz15_1 : wc.cell? ⟨gb116, 1, none⟩ = some (.int .u64 a0_1) := (blk_cell BK116.out 1).trans rfl
            have hcz15_2 : wc.cell? ⟨gb116, 2, none⟩ = some (.int .i64 a0_2) := (blk_cell BK116.out 2).trans rfl
            have hcz15_3 : wc.cell? ⟨gb116, 3, none⟩ = some (.int .i64 a0_3) := (blk_cell BK116.out 3).trans rfl
            have hfz15_0 := blk_frozen BK116.out 0
            have hfz15_1 := blk_frozen BK116.out 1
            have hfz15_2 := blk_frozen BK116.out 2
            have hfz15_3 := blk_frozen BK116.out 3
            go_wp2
            go_ret
            exact ⟨by first | rfl | (simp [errW_none, errW_some] <;> rfl) | (simp [*, errW_none, errW_some] <;> rfl), by repeat (first | (with_reducible first | exact HB.out | apply below_alloc | apply pw_below_drewN | apply below_drew1 | refine below_set ?_ GE116.out) | exact HB.out)⟩
          · rw [if_neg c14] at H
            have c14b0 : decide (0 ≤ a0_2) = false := decide_eq_false c14
            clear c14
            obtain rfl := Option.some.inj H
            have hcz16_0 : wc.cell? ⟨gb116, 0, none⟩ = some (.int .u8 a0_0) := (blk_cell BK116.out 0).trans rfl
            have hcz16_1 : wc.cell? ⟨gb116, 1, none⟩ = some (.int .u64 a0_1) := (blk_cell BK116.out 1).trans rfl
            have hcz16_2 : wc.cell? ⟨gb116, 2, none⟩ = some (.int .i64 a0_2) := (blk_cell BK116.out 2).trans rfl
            have hcz16_3 : wc.cell? ⟨gb116, 3, none⟩ = some (.int .i64 a0_3) := (blk_cell BK116.out 3).trans rfl
            have hfz16_0 := blk_frozen BK116.out 0
            have hfz16_1 := blk_frozen BK116.out 1
            have hfz16_2 := blk_frozen BK116.out 2
            have hfz16_3 := blk_frozen BK116.out 3
            go_wp2
            go_ret
            exact ⟨by first | rfl | (simp [errW_none, errW_some] <;> rfl) | (simp [*, errW_none, errW_some] <;> rfl), by repeat (first | (with_reducible first | exact HB.out | apply below_alloc | apply pw_below_drewN | apply below_drew1 | refine below_set ?_ GE116.out) | exact HB.out)⟩

end Go.Proofs.YtfaghjadjpiaiaaDoor.PModelRight
