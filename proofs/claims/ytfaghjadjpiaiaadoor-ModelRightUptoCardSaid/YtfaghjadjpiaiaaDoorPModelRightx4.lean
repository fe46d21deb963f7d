-- PRINTED BY print.sh 35421559b90ae4d0a3588c463048766b98c2df88dd9212a6774a882060cdf62d: not written by this session
import Derived.Test.YtfaghjadjpiaiaaDoorPModelRightx0
import Derived.Test.YtfaghjadjpiaiaaDoorPModelRightx2
import Derived.Test.YtfaghjadjpiaiaaDoorPModelRightx3
namespace Go.Proofs.YtfaghjadjpiaiaaDoor.PModelRight
open Go.RowKit Go.Proofs.YtfaghjadjpiaiaaDoorW.PrintWords Go.Proofs.YtfaghjadjpiaiaaDoorW.PrintLast Go.Proofs.YtfaghjadjpiaiaaDoorW.PrintMore
attribute [local go_sem] max2_int min2_int max_two min_two max_three min_three max_four min_four   -- for this text's walks alone
set_option linter.unusedVariables false
set_option linter.unusedSimpArgs false

/-! ### shoringref19_Right: function 13 -/
mutual
def shoringref19_Right.l0 : Nat → List (S88) → List (S80) → Int → Int → Option (Bool)
  | 0, _, _, _, _ => none
  | k + 1, x0, x1, x10, x11 => if x11 < x10 then (if 0 ≤ x11 then (if x11 < (x1.length : Int) then ((shoringref13_Size.f x0 ((rd_T80 x1 x11).f0)).bind fun t128 => (if t128 < 0 then (some false) else (if t128 = (((rd_T80 x1 x11).f1).length : Int) then (shoringref19_Right.l0 k x0 x1 x10 (wrap64 (x11 + 1))) else (some false)))) else (none)) else (none)) else (shoringref19_Right.l1 k x0 x1 (x1.length : Int) 0)
def shoringref19_Right.l1 : Nat → List (S88) → List (S80) → Int → Int → Option (Bool)
  | 0, _, _, _, _ => none
  | k + 1, x0, x1, x35, x36 => if x36 < x35 then (if 0 ≤ x36 then (if x36 < (x1.length : Int) then (shoringref19_Right.l2 k x0 x1 x36 x35 x36 (((rd_T80 x1 x36).f1).length : Int) 0) else (none)) else (none)) else (some true)
def shoringref19_Right.l2 : Nat → List (S88) → List (S80) → Int → Int → Int → Int → Int → Option (Bool)
  | 0, _, _, _, _, _, _, _ => none
  | k + 1, x0, x1, x7, x35, x36, x44, x45 => if x45 < x44 then (if 0 ≤ x7 then (if x7 < (x1.length : Int) then (if 0 ≤ x45 then (if x45 < (((rd_T80 x1 x7).f1).length : Int) then ((shoringref19_Fits.f k x0 x1 x7 x45 ((rd_T26 ((rd_T80 x1 x7).f1) x45).f0) ((rd_T26 ((rd_T80 x1 x7).f1) x45).f1) ((rd_T26 ((rd_T80 x1 x7).f1) x45).f2) ((rd_T26 ((rd_T80 x1 x7).f1) x45).f3)).bind fun t133 => (if t133 = 0 then (shoringref19_Right.l2 k x0 x1 x7 x35 x36 x44 (wrap64 (x45 + 1))) else (some false))) else (none)) else (none)) else (none)) else (none)) else (shoringref19_Right.l1 k x0 x1 x35 (wrap64 (x36 + 1)))
end
def shoringref19_Right.f (k : Nat) (l0 : List (S88)) (l1 : List (S80)) : Option (Bool) := shoringref19_Right.l0 k l0 l1 (l1.length : Int) 0
theorem shoringref19_Right.mono_l : ∀ k, (∀ y0 y1 y2 y3, LeO (shoringref19_Right.l0 k y0 y1 y2 y3) (shoringref19_Right.l0 (k + 1) y0 y1 y2 y3)) ∧ (∀ y0 y1 y2 y3, LeO (shoringref19_Right.l1 k y0 y1 y2 y3) (shoringref19_Right.l1 (k + 1) y0 y1 y2 y3)) ∧ (∀ y0 y1 y2 y3 y4 y5 y6, LeO (shoringref19_Right.l2 k y0 y1 y2 y3 y4 y5 y6) (shoringref19_Right.l2 (k + 1) y0 y1 y2 y3 y4 y5 y6))
  | 0 => ⟨fun _ _ _ _ r h => by simp [shoringref19_Right.l0] at h, fun _ _ _ _ r h => by simp [shoringref19_Right.l1] at h, fun _ _ _ _ _ _ _ r h => by simp [shoringref19_Right.l2] at h⟩
  | k + 1 => by
    obtain ⟨ih0, ih1, ih2⟩ := shoringref19_Right.mono_l k
    refine ⟨?_, ?_, ?_⟩
    · intro y0 y1 y2 y3
      unfold shoringref19_Right.l0
      repeat' first
      | (with_reducible exact ih0 _ _ _ _)
      | (with_reducible exact ih1 _ _ _ _)
      | (with_reducible exact ih2 _ _ _ _ _ _ _)
      | (with_reducible exact shoringref19_Fits.mono _ _ _ _ _ _ _ _ _)
      | (with_reducible exact LeO.refl _)
      | (with_reducible exact LeO.none _)
      | (with_reducible refine LeO.ite ?_ ?_)
      | (with_reducible refine LeO.bind ?_ (fun _ => ?_))
      | exact ih0 _ _ _ _
      | exact ih1 _ _ _ _
      | exact ih2 _ _ _ _ _ _ _
      | exact shoringref19_Fits.mono _ _ _ _ _ _ _ _ _
      | exact LeO.none _
      | refine LeO.ite ?_ ?_
      | refine LeO.bind ?_ (fun _ => ?_)
    · intro y0 y1 y2 y3
      unfold shoringref19_Right.l1
      repeat' first
      | (with_reducible exact ih0 _ _ _ _)
      | (with_reducible exact ih1 _ _ _ _)
      | (with_reducible exact ih2 _ _ _ _ _ _ _)
      | (with_reducible exact shoringref19_Fits.mono _ _ _ _ _ _ _ _ _)
      | (with_reducible exact LeO.refl _)
      | (with_reducible exact LeO.none _)
      | (with_reducible refine LeO.ite ?_ ?_)
      | (with_reducible refine LeO.bind ?_ (fun _ => ?_))
      | exact ih0 _ _ _ _
      | exact ih1 _ _ _ _
      | exact ih2 _ _ _ _ _ _ _
      | exact shoringref19_Fits.mono _ _ _ _ _ _ _ _ _
      | exact LeO.none _
      | refine LeO.ite ?_ ?_
      | refine LeO.bind ?_ (fun _ => ?_)
    · intro y0 y1 y2 y3 y4 y5 y6
      unfold shoringref19_Right.l2
      repeat' first
      | (with_reducible exact ih0 _ _ _ _)
      | (with_reducible exact ih1 _ _ _ _)
      | (with_reducible exact ih2 _ _ _ _ _ _ _)
      | (with_reducible exact shoringref19_Fits.mono _ _ _ _ _ _ _ _ _)
      | (with_reducible exact LeO.refl _)
      | (with_reducible exact LeO.none _)
      | (with_reducible refine LeO.ite ?_ ?_)
      | (with_reducible refine LeO.bind ?_ (fun _ => ?_))
      | exact ih0 _ _ _ _
      | exact ih1 _ _ _ _
      | exact ih2 _ _ _ _ _ _ _
      | exact shoringref19_Fits.mono _ _ _ _ _ _ _ _ _
      | exact LeO.none _
      | refine LeO.ite ?_ ?_
      | refine LeO.bind ?_ (fun _ => ?_)
theorem shoringref19_Right.mono : ∀ a0 a1 k, LeO (shoringref19_Right.f k a0 a1) (shoringref19_Right.f (k + 1) a0 a1) := by
  intro a0 a1 k
  obtain ⟨ih0, ih1, ih2⟩ := shoringref19_Right.mono_l k
  unfold shoringref19_Right.f
  repeat' first
      | (with_reducible exact ih0 _ _ _ _)
      | (with_reducible exact ih1 _ _ _ _)
      | (with_reducible exact ih2 _ _ _ _ _ _ _)
      | (with_reducible exact shoringref19_Fits.mono _ _ _ _ _ _ _ _ _)
      | (with_reducible exact LeO.refl _)
      | (with_reducible exact LeO.none _)
      | (with_reducible refine LeO.ite ?_ ?_)
      | (with_reducible refine LeO.bind ?_ (fun _ => ?_))
      | exact ih0 _ _ _ _
      | exact ih1 _ _ _ _
      | exact ih2 _ _ _ _ _ _ _
      | exact shoringref19_Fits.mono _ _ _ _ _ _ _ _ _
      | exact LeO.none _
      | refine LeO.ite ?_ ?_
      | refine LeO.bind ?_ (fun _ => ?_)
set_option maxHeartbeats 8000000 in
set_option maxRecDepth 100000 in
theorem shoringref19_Right.calls (k : Nat) (A0 : Option Addr) (c0 : Nat) (l0 : List (S88)) (A1 : Option Addr) (c1 : Nat) (l1 : List (S80)) (r : Bool) (w : World) (hr0 : Kd.C k88 w A0 l0.length l0) (hc0 : l0.length ≤ c0) (hr1 : Kd.C k80 w A1 l1.length l1) (hc1 : l1.length ≤ c1) (h : shoringref19_Right.f k l0 l1 = some r) :
    Calls Tryd.prog 13 #[.slice A0 l0.length c0, .slice A1 l1.length c1] w fun e w' => e = .returned (.bool r) ∧ Below w.heap.size w w' := by
  have hu26 := Tryd.underlying26
  have HR0 := Aside0.mk hr0
  have HC0 := Aside0.mk hc0
  clear hr0 hc0
  have HR1 := Aside0.mk hr1
  have HC1 := Aside0.mk hc1
  clear hr1 hc1
  have HB := Aside0.mk (Below.refl w.heap.size w)
  have H : (shoringref19_Right.l0 k l0 l1 (l1.length : Int) 0) = some r := h
  clear h
  have H' := Aside0.mk H
  clear H
  go_enter Tryd.func13, Tryd.ntmps13
  go_wp2
  go_loopg [11] k (fun kq v11 w' => ∃ (x11_1 : Int), v11 = .int .i64 x11_1 ∧ Aside0 (shoringref19_Right.l0 kq l0 l1 (l1.length : Int) x11_1 = some r) ∧ Aside0 (kq ≤ k) ∧ Aside0 (Below w.heap.size w w'))
  case atStart => exact ⟨(0), (by first | rfl | (simp; done) | (simp [*]; done)), H', ⟨Nat.le_refl _⟩, ⟨by repeat (first | (with_reducible first | exact HB.out | apply below_alloc | apply pw_below_drewN | apply below_drew1) | exact HB.out)⟩⟩
  case round =>
    clear H'
    try clear c1
    try clear p2
    obtain ⟨x11_1, rfl, HA, HK1, HB⟩ := hrel
    cases gk with
    | zero => exact absurd HA.out (by simp [shoringref19_Right.l0])
    | succ k1 =>
      have H := HA.out
      clear HA
      simp only [shoringref19_Right.l0] at H
      by_cases c3 : x11_1 < (l1.length : Int)
      · rw [if_pos c3] at H
        have c3b0 : decide (x11_1 < (l1.length : Int)) = true := decide_eq_true c3
        clear c3
        by_cases c4 : 0 ≤ x11_1
        · rw [if_pos c4] at H
          have c4b0 : decide (0 ≤ x11_1) = true := decide_eq_true c4
          clear c4
          by_cases c5 : x11_1 < (l1.length : Int)
          · rw [if_pos c5] at H
            have c5b0 : decide (x11_1 < (l1.length : Int)) = true := decide_eq_true c5
            clear c5
            replace H := Option.bind_eq_some_iff.mp H
            obtain ⟨t128, A60, H⟩ := H
            replace H : (if t128 < 0 then (some false) else (if t128 = (((rd_T80 l1 x11_1).f1).length : Int) then (shoringref19_Right.l0 k1 l0 l1 (l1.length : Int) (wrap64 (x11_1 + 1))) else (some false))) = some r := H
            have A6 := Aside0.mk A60
            clear A60
            by_cases c7 : t128 < 0
            · rw [if_pos c7] at H
              have c7b0 : decide (t128 < 0) = true := decide_eq_true c7
              clear c7
              obtain rfl := Option.some.inj H
              have p127 : 0 ≤ (x11_1 : Int) := of_decide_eq_true (by first | (with_reducible assumption) | assumption)
              have q127 : x11_1 < (l1.length : Int) := of_decide_eq_true (by first | (with_reducible assumption) | assumption)
              obtain ⟨ad127, A127_1, c127_1, e127, hx127_0, hx127_1, hl127_1, hi127_1⟩ := at_T80 HR1.out x11_1 p127 q127
              cases e127
              replace hx127_0 := (HB.out.cell (World.block_lt_of_cell? w _ hx127_0)).trans hx127_0
              replace hx127_1 := (HB.out.cell (World.block_lt_of_cell? w _ hx127_1)).trans hx127_1
              have HR127_1 := Aside0.mk hi127_1
              have HC127_1 := Aside0.mk hl127_1
              clear hi127_1 hl127_1
              replace p127 := eq_true p127
              replace q127 := eq_true q127
              go_wp2_with (first | ((with_reducible refine gate_callee (f := 42) rfl ?_); refine goesL_ (some 20) rfl rfl Tryd.func42 (by kernel_rfl) rfl #[.slice A0 l0.length c0, .int .i64 ((rd_T80 l1 x11_1).f0)] rfl (by (try simp only [List.map_toArray, List.map_cons, List.map_nil]); first | done | rfl | (simp only [List.length_drop, List.length_take]; rfl)) ?_; (with_reducible refine (shoringref13_Size.calls _ _ l0 ((rd_T80 l1 x11_1).f0) t128 _ ?side1 ?side2 A6.out).mono ?_); (case side1 => repeat (first | exact (Kd.C_below HR0.out HB.out) | (with_reducible refine Kd.C_alloc ?_ _) | (with_reducible refine Kd.C_drewN ?_ _) | (with_reducible refine Kd.C_drew ?_))); (case side2 => exact HC0.out); rintro e w' ⟨rfl, ⟨nd, rfl⟩⟩; refine ⟨_, rfl, ?_⟩))
              go_ret
              exact ⟨by first | rfl | (simp [errW_none, errW_some] <;> rfl) | (simp [*, errW_none, errW_some] <;> rfl), by repeat (first | (with_reducible first | exact HB.out | apply below_alloc | apply pw_below_drewN | apply below_drew1) | exact HB.out)⟩
            · rw [if_neg c7] at H
              have c7b0 : decide (t128 < 0) = false := decide_eq_false c7
              clear c7
              by_cases c8 : t128 = (((rd_T80 l1 x11_1).f1).length : Int)
              · rw [if_pos c8] at H
                have c8b0 : (t128 == (((rd_T80 l1 x11_1).f1).length : Int)) = true := beq_iff_eq.mpr c8
                have c8b1 : (t128 != (((rd_T80 l1 x11_1).f1).length : Int)) = false := bne_eq_false_iff_eq.mpr c8
                clear c8
                have H' := Aside0.mk H
                clear H
                have p127 : 0 ≤ (x11_1 : Int) := of_decide_eq_true (by first | (with_reducible assumption) | assumption)
                have q127 : x11_1 < (l1.length : Int) := of_decide_eq_true (by first | (with_reducible assumption) | assumption)
                obtain ⟨ad127, A127_1, c127_1, e127, hx127_0, hx127_1, hl127_1, hi127_1⟩ := at_T80 HR1.out x11_1 p127 q127
                cases e127
                replace hx127_0 := (HB.out.cell (World.block_lt_of_cell? w _ hx127_0)).trans hx127_0
                replace hx127_1 := (HB.out.cell (World.block_lt_of_cell? w _ hx127_1)).trans hx127_1
                have HR127_1 := Aside0.mk hi127_1
                have HC127_1 := Aside0.mk hl127_1
                clear hi127_1 hl127_1
                replace p127 := eq_true p127
                replace q127 := eq_true q127
                go_wp2_with (first | ((with_reducible refine gate_callee (f := 42) rfl ?_); refine goesL_ (some 20) rfl rfl Tryd.func42 (by kernel_rfl) rfl #[.slice A0 l0.length c0, .int .i64 ((rd_T80 l1 x11_1).f0)] rfl (by (try simp only [List.map_toArray, List.map_cons, List.map_nil]); first | done | rfl | (simp only [List.length_drop, List.length_take]; rfl)) ?_; (with_reducible refine (shoringref13_Size.calls _ _ l0 ((rd_T80 l1 x11_1).f0) t128 _ ?side1 ?side2 A6.out).mono ?_); (case side1 => repeat (first | exact (Kd.C_below HR0.out HB.out) | (with_reducible refine Kd.C_alloc ?_ _) | (with_reducible refine Kd.C_drewN ?_ _) | (with_reducible refine Kd.C_drew ?_))); (case side2 => exact HC0.out); rintro e w' ⟨rfl, ⟨nd, rfl⟩⟩; refine ⟨_, rfl, ?_⟩; have p129 : 0 ≤ (x11_1 : Int) := of_decide_eq_true (by first | (with_reducible assumption) | assumption); have q129 : x11_1 < (l1.length : Int) := of_decide_eq_true (by first | (with_reducible assumption) | assumption); obtain ⟨ad129, A129_1, c129_1, e129, hx129_0, hx129_1, hl129_1, hi129_1⟩ := at_T80 HR1.out x11_1 p129 q129; obtain rfl : ad127 = ad129 := (by injection e129); replace hx129_0 := (HB.out.cell (World.block_lt_of_cell? w _ hx129_0)).trans hx129_0; replace hx129_1 := (HB.out.cell (World.block_lt_of_cell? w _ hx129_1)).trans hx129_1; have HR129_1 := Aside0.mk hi129_1; have HC129_1 := Aside0.mk hl129_1; clear hi129_1 hl129_1; replace p129 := eq_true p129; replace q129 := eq_true q129; have ea_ := Option.some.inj (hx127_1.symm.trans hx129_1); injection ea_ with ea_ en_ ec_; subst ea_; subst ec_; clear en_))
                go_roundg k1
                case measure => have := HK1.out; omega
                case rel => exact ⟨(wrap64 (x11_1 + 1)), (by first | rfl | (simp; done) | (simp [*]; done)), H', ⟨by have := HK1.out; omega⟩, ⟨by repeat (first | (with_reducible first | exact HB.out | apply below_alloc | apply pw_below_drewN | apply below_drew1) | exact HB.out)⟩⟩
              · rw [if_neg c8] at H
                have c8b0 : (t128 == (((rd_T80 l1 x11_1).f1).length : Int)) = false := beq_eq_false_iff_ne.mpr c8
                have c8b1 : (t128 != (((rd_T80 l1 x11_1).f1).length : Int)) = true := bne_iff_ne.mpr c8
                obtain rfl := Option.some.inj H
                have p127 : 0 ≤ (x11_1 : Int) := of_decide_eq_true (by first | (with_reducible assumption) | assumption)
                have q127 : x11_1 < (l1.length : Int) := of_decide_eq_true (by first | (with_reducible assumption) | assumption)
                obtain ⟨ad127, A127_1, c127_1, e127, hx127_0, hx127_1, hl127_1, hi127_1⟩ := at_T80 HR1.out x11_1 p127 q127
                cases e127
                replace hx127_0 := (HB.out.cell (World.block_lt_of_cell? w _ hx127_0)).trans hx127_0
                replace hx127_1 := (HB.out.cell (World.block_lt_of_cell? w _ hx127_1)).trans hx127_1
                have HR127_1 := Aside0.mk hi127_1
                have HC127_1 := Aside0.mk hl127_1
                clear hi127_1 hl127_1
                replace p127 := eq_true p127
                replace q127 := eq_true q127
                go_wp2_with (first | ((with_reducible refine gate_callee (f := 42) rfl ?_); refine goesL_ (some 20) rfl rfl Tryd.func42 (by kernel_rfl) rfl #[.slice A0 l0.length c0, .int .i64 ((rd_T80 l1 x11_1).f0)] rfl (by (try simp only [List.map_toArray, List.map_cons, List.map_nil]); first | done | rfl | (simp only [List.length_drop, List.length_take]; rfl)) ?_; (with_reducible refine (shoringref13_Size.calls _ _ l0 ((rd_T80 l1 x11_1).f0) t128 _ ?side1 ?side2 A6.out).mono ?_); (case side1 => repeat (first | exact (Kd.C_below HR0.out HB.out) | (with_reducible refine Kd.C_alloc ?_ _) | (with_reducible refine Kd.C_drewN ?_ _) | (with_reducible refine Kd.C_drew ?_))); (case side2 => exact HC0.out); rintro e w' ⟨rfl, ⟨nd, rfl⟩⟩; refine ⟨_, rfl, ?_⟩; have p129 : 0 ≤ (x11_1 : Int) := of_decide_eq_true (by first | (with_reducible assumption) | assumption); have q129 : x11_1 < (l1.length : Int) := of_decide_eq_true (by first | (with_reducible assumption) | assumption); obtain ⟨ad129, A129_1, c129_1, e129, hx129_0, hx129_1, hl129_1, hi129_1⟩ := at_T80 HR1.out x11_1 p129 q129; obtain rfl : ad127 = ad129 := (by injection e129); replace hx129_0 := (HB.out.cell (World.block_lt_of_cell? w _ hx129_0)).trans hx129_0; replace hx129_1 := (HB.out.cell (World.block_lt_of_cell? w _ hx129_1)).trans hx129_1; have HR129_1 := Aside0.mk hi129_1; have HC129_1 := Aside0.mk hl129_1; clear hi129_1 hl129_1; replace p129 := eq_true p129; replace q129 := eq_true q129; have ea_ := Option.some.inj (hx127_1.symm.trans hx129_1); injection ea_ with ea_ en_ ec_; subst ea_; subst ec_; clear en_))
                go_ret
                exact ⟨by first | rfl | (simp [errW_none, errW_some] <;> rfl) | (simp [*, errW_none, errW_some] <;> rfl), by repeat (first | (with_reducible first | exact HB.out | apply below_alloc | apply pw_below_drewN | apply below_drew1) | exact HB.out)⟩
          · rw [if_neg c5] at H
            exact absurd H (by simp)
        · rw [if_neg c4] at H
          exact absurd H (by simp)
      · rw [if_neg c3] at H
        have c3b0 : decide (x11_1 < (l1.length : Int)) = false := decide_eq_false c3
        clear c3
        have H' := Aside0.mk H
        clear H
        go_wp2
        go_loopg [36] k1 (fun kq v36 w' => ∃ (x36_2 : Int), v36 = .int .i64 x36_2 ∧ Aside0 (shoringref19_Right.l1 kq l0 l1 (l1.length : Int) x36_2 = some r) ∧ Aside0 (kq ≤ k1) ∧ Aside0 (Below w.heap.size w w'))
        case atStart => exact ⟨(0), (by first | rfl | (simp; done) | (simp [*]; done)), H', ⟨Nat.le_refl _⟩, ⟨by repeat (first | (with_reducible first | exact HB.out | apply below_alloc | apply pw_below_drewN | apply below_drew1) | exact HB.out)⟩⟩
        case round =>
          clear H'
          try clear c1
          try clear p1
          try clear q1
          try clear hx1
          try clear p2
          try clear c3
          try clear c3b0
          try clear c4
          try clear c4b0
          try clear c5
          try clear c5b0
          try clear p6
          try clear c7
          try clear c7b0
          try clear c8
          try clear c8b0
          try clear c8b1
          try clear hx127_0
          try clear hx127_1
          try clear hx129_0
          try clear hx129_1
          try clear p127
          try clear p129
          try clear p2
          try clear q127
          try clear q129
          obtain ⟨x36_2, rfl, HA, HK2, HB⟩ := hrel
          cases gk with
          | zero => exact absurd HA.out (by simp [shoringref19_Right.l1])
          | succ k2 =>
            have H := HA.out
            clear HA
            simp only [shoringref19_Right.l1] at H
            by_cases c9 : x36_2 < (l1.length : Int)
            · rw [if_pos c9] at H
              have c9b0 : decide (x36_2 < (l1.length : Int)) = true := decide_eq_true c9
              clear c9
              by_cases c10 : 0 ≤ x36_2
              · rw [if_pos c10] at H
                have c10b0 : decide (0 ≤ x36_2) = true := decide_eq_true c10
                clear c10
                by_cases c11 : x36_2 < (l1.length : Int)
                · rw [if_pos c11] at H
                  have c11b0 : decide (x36_2 < (l1.length : Int)) = true := decide_eq_true c11
                  clear c11
                  have H' := Aside0.mk H
                  clear H
                  have p130 : 0 ≤ (x36_2 : Int) := of_decide_eq_true (by first | (with_reducible assumption) | assumption)
                  have q130 : x36_2 < (l1.length : Int) := of_decide_eq_true (by first | (with_reducible assumption) | assumption)
                  obtain ⟨ad130, A130_1, c130_1, e130, hx130_0, hx130_1, hl130_1, hi130_1⟩ := at_T80 HR1.out x36_2 p130 q130
                  cases e130
                  replace hx130_0 := (HB.out.cell (World.block_lt_of_cell? w _ hx130_0)).trans hx130_0
                  replace hx130_1 := (HB.out.cell (World.block_lt_of_cell? w _ hx130_1)).trans hx130_1
                  have HR130_1 := Aside0.mk hi130_1
                  have HC130_1 := Aside0.mk hl130_1
                  clear hi130_1 hl130_1
                  replace p130 := eq_true p130
                  replace q130 := eq_true q130
                  go_wp2
                  go_loopg [45] k2 (fun kq v45 w' => ∃ (x45_3 : Int), v45 = .int .i64 x45_3 ∧ Aside0 (shoringref19_Right.l2 kq l0 l1 x36_2 (l1.length : Int) x36_2 (((rd_T80 l1 x36_2).f1).length : Int) x45_3 = some r) ∧ Aside0 (kq ≤ k2) ∧ Aside0 (Below w.heap.size w w'))
                  case atStart => exact ⟨(0), (by first | rfl | (simp; done) | (simp [*]; done)), H', ⟨Nat.le_refl _⟩, ⟨by repeat (first | (with_reducible first | exact HB.out | apply below_alloc | apply pw_below_drewN | apply below_drew1) | exact HB.out)⟩⟩
                  case round =>
                    clear H'
                    try clear c1
                    try clear p1
                    try clear q1
                    try clear hx1
                    try clear p2
                    try clear c3
                    try clear c3b0
                    try clear c4
                    try clear c4b0
                    try clear c5
                    try clear c5b0
                    try clear p6
                    try clear c7
                    try clear c7b0
                    try clear c8
                    try clear c8b0
                    try clear c8b1
                    try clear c9
                    try clear c9b0
                    try clear c10
                    try clear c10b0
                    try clear c11
                    try clear c11b0
                    try clear hx127_0
                    try clear hx127_1
                    try clear hx129_0
                    try clear hx129_1
                    try clear hx130_0
                    try clear hx130_1
                    try clear p1
                    try clear p127
                    try clear p129
                    try clear p130
                    try clear p2
                    try clear p6
                    try clear q1
                    try clear q127
                    try clear q129
                    try clear q130
                    obtain ⟨x45_3, rfl, HA, HK3, HB⟩ := hrel
                    cases gk with
                    | zero => exact absurd HA.out (by simp [shoringref19_Right.l2])
                    | succ k3 =>
                      have H := HA.out
                      clear HA
                      simp only [shoringref19_Right.l2] at H
                      by_cases c12 : x45_3 < (((rd_T80 l1 x36_2).f1).length : Int)
                      · rw [if_pos c12] at H
                        have c12b0 : decide (x45_3 < (((rd_T80 l1 x36_2).f1).length : Int)) = true := decide_eq_true c12
                        clear c12
                        by_cases c13 : 0 ≤ x36_2
                        · rw [if_pos c13] at H
                          have c13b0 : decide (0 ≤ x36_2) = true := decide_eq_true c13
                          clear c13
                          by_cases c14 : x36_2 < (l1.length : Int)
                          · rw [if_pos c14] at H
                            have c14b0 : decide (x36_2 < (l1.length : Int)) = true := decide_eq_true c14
                            clear c14
                            by_cases c15 : 0 ≤ x45_3
                            · rw [if_pos c15] at H
                              have c15b0 : decide (0 ≤ x45_3) = true := decide_eq_true c15
                              clear c15
                              by_cases c16 : x45_3 < (((rd_T80 l1 x36_2).f1).length : Int)
                              · rw [if_pos c16] at H
                                have c16b0 : decide (x45_3 < (((rd_T80 l1 x36_2).f1).length : Int)) = true := decide_eq_true c16
                                clear c16
                                replace H := Option.bind_eq_some_iff.mp H
                                obtain ⟨t133, A170, H⟩ := H
                                replace H : (if t133 = 0 then (shoringref19_Right.l2 k3 l0 l1 x36_2 (l1.length : Int) x36_2 (((rd_T80 l1 x36_2).f1).length : Int) (wrap64 (x45_3 + 1))) else (some false)) = some r := H
                                have A17 := Aside0.mk A170
                                clear A170
                                by_cases c18 : t133 = 0
                                · rw [if_pos c18] at H
                                  have c18b0 : (t133 == 0) = true := beq_iff_eq.mpr c18
                                  have c18b1 : (t133 != 0) = false := bne_eq_false_iff_eq.mpr c18
                                  clear c18
                                  have H' := Aside0.mk H
                                  clear H
                                  have p131 : 0 ≤ (x36_2 : Int) := of_decide_eq_true (by first | (with_reducible assumption) | assumption)
                                  have q131 : x36_2 < (l1.length : Int) := of_decide_eq_true (by first | (with_reducible assumption) | assumption)
                                  obtain ⟨ad131, A131_1, c131_1, e131, hx131_0, hx131_1, hl131_1, hi131_1⟩ := at_T80 HR1.out x36_2 p131 q131
                                  obtain rfl : ad130 = ad131 := (by injection e131)
                                  replace hx131_0 := (HB.out.cell (World.block_lt_of_cell? w _ hx131_0)).trans hx131_0
                                  replace hx131_1 := (HB.out.cell (World.block_lt_of_cell? w _ hx131_1)).trans hx131_1
                                  have HR131_1 := Aside0.mk hi131_1
                                  have HC131_1 := Aside0.mk hl131_1
                                  clear hi131_1 hl131_1
                                  replace p131 := eq_true p131
                                  replace q131 := eq_true q131
                                  have p132 : 0 ≤ (x45_3 : Int) := of_decide_eq_true (by first | (with_reducible assumption) | assumption)
                                  have q132 : x45_3 < (((rd_T80 l1 x36_2).f1).length : Int) := of_decide_eq_true (by first | (with_reducible assumption) | assumption)
                                  obtain ⟨ad132, e132, hx132_0, hx132_1, hx132_2, hx132_3⟩ := at_T26 HR131_1.out x45_3 p132 q132
                                  cases e132
                                  replace hx132_0 := (HB.out.cell (World.block_lt_of_cell? w _ hx132_0)).trans hx132_0
                                  replace hx132_1 := (HB.out.cell (World.block_lt_of_cell? w _ hx132_1)).trans hx132_1
                                  replace hx132_2 := (HB.out.cell (World.block_lt_of_cell? w _ hx132_2)).trans hx132_2
                                  replace hx132_3 := (HB.out.cell (World.block_lt_of_cell? w _ hx132_3)).trans hx132_3
                                  replace p132 := eq_true p132
                                  replace q132 := eq_true q132
                                  go_wp2_with (first | ((with_reducible refine gate_callee (f := 43) rfl ?_); refine goesL_ (some 60) rfl rfl Tryd.func43 (by kernel_rfl) rfl #[.slice A0 l0.length c0, .slice (some ad130) l1.length c1, .int .i64 x36_2, .int .i64 x45_3, .agg #[.int .u8 ((rd_T26 ((rd_T80 l1 x36_2).f1) x45_3).f0), .int .u64 ((rd_T26 ((rd_T80 l1 x36_2).f1) x45_3).f1), .int .i64 ((rd_T26 ((rd_T80 l1 x36_2).f1) x45_3).f2), .int .i64 ((rd_T26 ((rd_T80 l1 x36_2).f1) x45_3).f3)]] rfl (by (try simp only [List.map_toArray, List.map_cons, List.map_nil]); first | done | rfl | (simp only [List.length_drop, List.length_take]; rfl)) ?_; (with_reducible refine (shoringref19_Fits.calls k3 _ _ l0 _ _ l1 x36_2 x45_3 ((rd_T26 ((rd_T80 l1 x36_2).f1) x45_3).f0) ((rd_T26 ((rd_T80 l1 x36_2).f1) x45_3).f1) ((rd_T26 ((rd_T80 l1 x36_2).f1) x45_3).f2) ((rd_T26 ((rd_T80 l1 x36_2).f1) x45_3).f3) t133 _ ?side1 ?side2 ?side3 ?side4 A17.out).mono ?_); (case side1 => repeat (first | exact (Kd.C_below HR0.out HB.out) | (with_reducible refine Kd.C_alloc ?_ _) | (with_reducible refine Kd.C_drewN ?_ _) | (with_reducible refine Kd.C_drew ?_))); (case side2 => exact HC0.out); (case side3 => repeat (first | exact (Kd.C_below HR1.out HB.out) | (with_reducible refine Kd.C_alloc ?_ _) | (with_reducible refine Kd.C_drewN ?_ _) | (with_reducible refine Kd.C_drew ?_))); (case side4 => exact HC1.out); rintro e w19 ⟨rfl, hb⟩; refine ⟨_, rfl, ?_⟩; have n0_ := Aside0.mk (below_step (by repeat (first | (with_reducible first | exact HB.out | apply below_alloc | apply pw_below_drewN | apply below_drew1) | exact HB.out)) hb); clear HB; have HB := n0_; clear n0_; (try clear hb); (try clear hb2); (try clear hk); (try clear hi)))
                                  go_roundg k3
                                  case measure => have := HK1.out; have := HK2.out; have := HK3.out; omega
                                  case rel => exact ⟨(wrap64 (x45_3 + 1)), (by first | rfl | (simp; done) | (simp [*]; done)), H', ⟨by have := HK1.out; have := HK2.out; have := HK3.out; omega⟩, ⟨by repeat (first | (with_reducible first | exact HB.out | apply below_alloc | apply pw_below_drewN | apply below_drew1) | exact HB.out)⟩⟩
                                · rw [if_neg c18] at H
                                  have c18b0 : (t133 == 0) = false := beq_eq_false_iff_ne.mpr c18
                                  have c18b1 : (t133 != 0) = true := bne_iff_ne.mpr c18
                                  obtain rfl := Option.some.inj H
                                  have p131 : 0 ≤ (x36_2 : Int) := of_decide_eq_true (by first | (with_reducible assumption) | assumption)
                                  have q131 : x36_2 < (l1.length : Int) := of_decide_eq_true (by first | (with_reducible assumption) | assumption)
                                  obtain ⟨ad131, A131_1, c131_1, e131, hx131_0, hx131_1, hl131_1, hi131_1⟩ := at_T80 HR1.out x36_2 p131 q131
                                  obtain rfl : ad130 = ad131 := (by injection e131)
                                  replace hx131_0 := (HB.out.cell (World.block_lt_of_cell? w _ hx131_0)).trans hx131_0
                                  replace hx131_1 := (HB.out.cell (World.block_lt_of_cell? w _ hx131_1)).trans hx131_1
                                  have HR131_1 := Aside0.mk hi131_1
                                  have HC131_1 := Aside0.mk hl131_1
                                  clear hi131_1 hl131_1
                                  replace p131 := eq_true p131
                                  replace q131 := eq_true q131
                                  have p132 : 0 ≤ (x45_3 : Int) := of_decide_eq_true (by first | (with_reducible assumption) | assumption)
                                  have q132 : x45_3 < (((rd_T80 l1 x36_2).f1).length : Int) := of_decide_eq_true (by first | (with_reducible assumption) | assumption)
                                  obtain ⟨ad132, e132, hx132_0, hx132_1, hx132_2, hx132_3⟩ := at_T26 HR131_1.out x45_3 p132 q132
                                  cases e132
                                  replace hx132_0 := (HB.out.cell (World.block_lt_of_cell? w _ hx132_0)).trans hx132_0
                                  replace hx132_1 := (HB.out.cell (World.block_lt_of_cell? w _ hx132_1)).trans hx132_1
                                  replace hx132_2 := (HB.out.cell (World.block_lt_of_cell? w _ hx132_2)).trans hx132_2
                                  replace hx132_3 := (HB.out.cell (World.block_lt_of_cell? w _ hx132_3)).trans hx132_3
                                  replace p132 := eq_true p132
                                  replace q132 := eq_true q132
                                  go_wp2_with (first | ((with_reducible refine gate_callee (f := 43) rfl ?_); refine goesL_ (some 60) rfl rfl Tryd.func43 (by kernel_rfl) rfl #[.slice A0 l0.length c0, .slice (some ad130) l1.length c1, .int .i64 x36_2, .int .i64 x45_3, .agg #[.int .u8 ((rd_T26 ((rd_T80 l1 x36_2).f1) x45_3).f0), .int .u64 ((rd_T26 ((rd_T80 l1 x36_2).f1) x45_3).f1), .int .i64 ((rd_T26 ((rd_T80 l1 x36_2).f1) x45_3).f2), .int .i64 ((rd_T26 ((rd_T80 l1 x36_2).f1) x45_3).f3)]] rfl (by (try simp only [List.map_toArray, List.map_cons, List.map_nil]); first | done | rfl | (simp only [List.length_drop, List.length_take]; rfl)) ?_; (with_reducible refine (shoringref19_Fits.calls k3 _ _ l0 _ _ l1 x36_2 x45_3 ((rd_T26 ((rd_T80 l1 x36_2).f1) x45_3).f0) ((rd_T26 ((rd_T80 l1 x36_2).f1) x45_3).f1) ((rd_T26 ((rd_T80 l1 x36_2).f1) x45_3).f2) ((rd_T26 ((rd_T80 l1 x36_2).f1) x45_3).f3) t133 _ ?side1 ?side2 ?side3 ?side4 A17.out).mono ?_); (case side1 => repeat (first | exact (Kd.C_below HR0.out HB.out) | (with_reducible refine Kd.C_alloc ?_ _) | (with_reducible refine Kd.C_drewN ?_ _) | (with_reducible refine Kd.C_drew ?_))); (case side2 => exact HC0.out); (case side3 => repeat (first | exact (Kd.C_below HR1.out HB.out) | (with_reducible refine Kd.C_alloc ?_ _) | (with_reducible refine Kd.C_drewN ?_ _) | (with_reducible refine Kd.C_drew ?_))); (case side4 => exact HC1.out); rintro e w20 ⟨rfl, hb⟩; refine ⟨_, rfl, ?_⟩; have n0_ := Aside0.mk (below_step (by repeat (first | (with_reducible first | exact HB.out | apply below_alloc | apply pw_below_drewN | apply below_drew1) | exact HB.out)) hb); clear HB; have HB := n0_; clear n0_; (try clear hb); (try clear hb2); (try clear hk); (try clear hi)))
                                  go_ret
                                  exact ⟨by first | rfl | (simp [errW_none, errW_some] <;> rfl) | (simp [*, errW_none, errW_some] <;> rfl), by repeat (first | (with_reducible first | exact HB.out | apply below_alloc | apply pw_below_drewN | apply below_drew1) | exact HB.out)⟩
                              · rw [if_neg c16] at H
                                exact absurd H (by simp)
                            · rw [if_neg c15] at H
                              exact absurd H (by simp)
                          · rw [if_neg c14] at H
                            exact absurd H (by simp)
                        · rw [if_neg c13] at H
                          exact absurd H (by simp)
                      · rw [if_neg c12] at H
                        have c12b0 : decide (x45_3 < (((rd_T80 l1 x36_2).f1).length : Int)) = false := decide_eq_false c12
                        clear c12
                        have H' := Aside0.mk H
                        clear H
                        go_wp2
                        go_roundg k3
                        case measure => have := HK1.out; have := HK2.out; have := HK3.out; omega
                        case rel => exact ⟨(wrap64 (x36_2 + 1)), (by first | rfl | (simp; done) | (simp [*]; done)), H', ⟨by have := HK1.out; have := HK2.out; have := HK3.out; omega⟩, ⟨by repeat (first | (with_reducible first | exact HB.out | apply below_alloc | apply pw_below_drewN | apply below_drew1) | exact HB.out)⟩⟩
                · rw [if_neg c11] at H
                  exact absurd H (by simp)
              · rw [if_neg c10] at H
                exact absurd H (by simp)
            · rw [if_neg c9] at H
              have c9b0 : decide (x36_2 < (l1.length : Int)) = false := decide_eq_false c9
              clear c9
              obtain rfl := Option.some.inj H
              go_wp2
              go_ret
              exact ⟨by first | rfl | (simp [errW_none, errW_some] <;> rfl) | (simp [*, errW_none, errW_some] <;> rfl), by repeat (first | (with_reducible first | exact HB.out | apply below_alloc | apply pw_below_drewN | apply below_drew1) | exact HB.out)⟩

-- NOT PRINTED: function 44 (model_Set)

-- NOT PRINTED: function 97 (model_ask)

-- NOT PRINTED: function 45 (model_Get)

-- NOT PRINTED: function 46 (model_Load)

-- NOT PRINTED: function 47 (model_Write)

-- NOT PRINTED: function 48 (model_Calc)

-- NOT PRINTED: function 14 (shoringlaw19_Does)

end Go.Proofs.YtfaghjadjpiaiaaDoor.PModelRight
