-- PRINTED BY print.sh 35421559b90ae4d0a3588c463048766b98c2df88dd9212a6774a882060cdf62d: not written by this session
import Derived.Test.YtfaghjadjpiaiaaDoorPModelRightx0
import Derived.Test.YtfaghjadjpiaiaaDoorPModelRightx1
namespace Go.Proofs.YtfaghjadjpiaiaaDoor.PModelRight
open Go.RowKit Go.Proofs.YtfaghjadjpiaiaaDoorW.PrintWords Go.Proofs.YtfaghjadjpiaiaaDoorW.PrintLast Go.Proofs.YtfaghjadjpiaiaaDoorW.PrintMore
attribute [local go_sem] max2_int min2_int max_two min_two max_three min_three max_four min_four   -- for this text's walks alone
set_option linter.unusedVariables false
set_option linter.unusedSimpArgs false

attribute [local go_sem high] eqA26
/-! ### shoringref19_Same: function 15 -/
mutual
def shoringref19_Same.l0 : Nat → List (S80) → List (S80) → Int → Int → Option (Bool)
  | 0, _, _, _, _ => none
  | k + 1, x0, x1, x13, x14 => if x14 < x13 then (if 0 ≤ x14 then (if x14 < (x0.length : Int) then (if x14 < (x1.length : Int) then (if ((rd_T80 x0 x14).f0) = ((rd_T80 x1 x14).f0) then (shoringref19_Same.j1 k x0 x1 x14 x13 x14 ((((rd_T80 x0 x14).f1).length : Int) != (((rd_T80 x1 x14).f1).length : Int))) else (shoringref19_Same.j1 k x0 x1 x14 x13 x14 true)) else (none)) else (none)) else (none)) else (some true)
def shoringref19_Same.j1 : Nat → List (S80) → List (S80) → Int → Int → Int → Bool → Option (Bool)
  | 0, _, _, _, _, _, _ => none
  | k + 1, x0, x1, x5, x13, x14, x42 => if x42 = true then (some false) else (if 0 ≤ x5 then (if x5 < (x0.length : Int) then (shoringref19_Same.l1 k x0 x1 x5 x13 x14 (((rd_T80 x0 x5).f1).length : Int) 0) else (none)) else (none))
def shoringref19_Same.l1 : Nat → List (S80) → List (S80) → Int → Int → Int → Int → Int → Option (Bool)
  | 0, _, _, _, _, _, _, _ => none
  | k + 1, x0, x1, x5, x13, x14, x48, x49 => if x49 < x48 then (if 0 ≤ x5 then (if x5 < (x0.length : Int) then (if 0 ≤ x49 then (if x49 < (((rd_T80 x0 x5).f1).length : Int) then (if x5 < (x1.length : Int) then (if x49 < (((rd_T80 x1 x5).f1).length : Int) then (if (!(((rd_T26 ((rd_T80 x0 x5).f1) x49).f0) == ((rd_T26 ((rd_T80 x1 x5).f1) x49).f0)) || (!(((rd_T26 ((rd_T80 x0 x5).f1) x49).f1) == ((rd_T26 ((rd_T80 x1 x5).f1) x49).f1)) || (!(((rd_T26 ((rd_T80 x0 x5).f1) x49).f2) == ((rd_T26 ((rd_T80 x1 x5).f1) x49).f2)) || (!(((rd_T26 ((rd_T80 x0 x5).f1) x49).f3) == ((rd_T26 ((rd_T80 x1 x5).f1) x49).f3)))))) = true then (some false) else (shoringref19_Same.l1 k x0 x1 x5 x13 x14 x48 (wrap64 (x49 + 1)))) else (none)) else (none)) else (none)) else (none)) else (none)) else (none)) else (shoringref19_Same.l0 k x0 x1 x13 (wrap64 (x14 + 1)))
end
def shoringref19_Same.f (k : Nat) (l0 : List (S80)) (l1 : List (S80)) : Option (Bool) := if (l0.length : Int) = (l1.length : Int) then (shoringref19_Same.l0 k l0 l1 (l0.length : Int) 0) else (some false)
theorem shoringref19_Same.mono_l : ∀ k, (∀ y0 y1 y2 y3, LeO (shoringref19_Same.l0 k y0 y1 y2 y3) (shoringref19_Same.l0 (k + 1) y0 y1 y2 y3)) ∧ (∀ y0 y1 y2 y3 y4 y5, LeO (shoringref19_Same.j1 k y0 y1 y2 y3 y4 y5) (shoringref19_Same.j1 (k + 1) y0 y1 y2 y3 y4 y5)) ∧ (∀ y0 y1 y2 y3 y4 y5 y6, LeO (shoringref19_Same.l1 k y0 y1 y2 y3 y4 y5 y6) (shoringref19_Same.l1 (k + 1) y0 y1 y2 y3 y4 y5 y6))
  | 0 => ⟨fun _ _ _ _ r h => by simp [shoringref19_Same.l0] at h, fun _ _ _ _ _ _ r h => by simp [shoringref19_Same.j1] at h, fun _ _ _ _ _ _ _ r h => by simp [shoringref19_Same.l1] at h⟩
  | k + 1 => by
    obtain ⟨ih0, ih1, ih2⟩ := shoringref19_Same.mono_l k
    refine ⟨?_, ?_, ?_⟩
    · intro y0 y1 y2 y3
      unfold shoringref19_Same.l0
      repeat' first
      | (with_reducible exact ih0 _ _ _ _)
      | (with_reducible exact ih1 _ _ _ _ _ _)
      | (with_reducible exact ih2 _ _ _ _ _ _ _)
      | (with_reducible exact LeO.refl _)
      | (with_reducible exact LeO.none _)
      | (with_reducible refine LeO.ite ?_ ?_)
      | (with_reducible refine LeO.bind ?_ (fun _ => ?_))
      | exact ih0 _ _ _ _
      | exact ih1 _ _ _ _ _ _
      | exact ih2 _ _ _ _ _ _ _
      | exact LeO.none _
      | refine LeO.ite ?_ ?_
      | refine LeO.bind ?_ (fun _ => ?_)
    · intro y0 y1 y2 y3 y4 y5
      unfold shoringref19_Same.j1
      repeat' first
      | (with_reducible exact ih0 _ _ _ _)
      | (with_reducible exact ih1 _ _ _ _ _ _)
      | (with_reducible exact ih2 _ _ _ _ _ _ _)
      | (with_reducible exact LeO.refl _)
      | (with_reducible exact LeO.none _)
      | (with_reducible refine LeO.ite ?_ ?_)
      | (with_reducible refine LeO.bind ?_ (fun _ => ?_))
      | exact ih0 _ _ _ _
      | exact ih1 _ _ _ _ _ _
      | exact ih2 _ _ _ _ _ _ _
      | exact LeO.none _
      | refine LeO.ite ?_ ?_
      | refine LeO.bind ?_ (fun _ => ?_)
    · intro y0 y1 y2 y3 y4 y5 y6
      unfold shoringref19_Same.l1
      repeat' first
      | (with_reducible exact ih0 _ _ _ _)
      | (with_reducible exact ih1 _ _ _ _ _ _)
      | (with_reducible exact ih2 _ _ _ _ _ _ _)
      | (with_reducible exact LeO.refl _)
      | (with_reducible exact LeO.none _)
      | (with_reducible refine LeO.ite ?_ ?_)
      | (with_reducible refine LeO.bind ?_ (fun _ => ?_))
      | exact ih0 _ _ _ _
      | exact ih1 _ _ _ _ _ _
      | exact ih2 _ _ _ _ _ _ _
      | exact LeO.none _
      | refine LeO.ite ?_ ?_
      | refine LeO.bind ?_ (fun _ => ?_)
theorem shoringref19_Same.mono : ∀ a0 a1 k, LeO (shoringref19_Same.f k a0 a1) (shoringref19_Same.f (k + 1) a0 a1) := by
  intro a0 a1 k
  obtain ⟨ih0, ih1, ih2⟩ := shoringref19_Same.mono_l k
  unfold shoringref19_Same.f
  repeat' first
      | (with_reducible exact ih0 _ _ _ _)
      | (with_reducible exact ih1 _ _ _ _ _ _)
      | (with_reducible exact ih2 _ _ _ _ _ _ _)
      | (with_reducible exact LeO.refl _)
      | (with_reducible exact LeO.none _)
      | (with_reducible refine LeO.ite ?_ ?_)
      | (with_reducible refine LeO.bind ?_ (fun _ => ?_))
      | exact ih0 _ _ _ _
      | exact ih1 _ _ _ _ _ _
      | exact ih2 _ _ _ _ _ _ _
      | exact LeO.none _
      | refine LeO.ite ?_ ?_
      | refine LeO.bind ?_ (fun _ => ?_)
set_option maxHeartbeats 8000000 in
set_option maxRecDepth 100000 in
theorem shoringref19_Same.calls (k : Nat) (A0 : Option Addr) (c0 : Nat) (l0 : List (S80)) (A1 : Option Addr) (c1 : Nat) (l1 : List (S80)) (r : Bool) (w : World) (hr0 : Kd.C k80 w A0 l0.length l0) (hc0 : l0.length ≤ c0) (hr1 : Kd.C k80 w A1 l1.length l1) (hc1 : l1.length ≤ c1) (h : shoringref19_Same.f k l0 l1 = some r) :
    Calls Tryd.prog 15 #[.slice A0 l0.length c0, .slice A1 l1.length c1] w fun e w' => e = .returned (.bool r) ∧ Drawn0 w w' := by
  have hu26 := Tryd.underlying26
  have HR0 := Aside0.mk hr0
  have HC0 := Aside0.mk hc0
  clear hr0 hc0
  have HR1 := Aside0.mk hr1
  have HC1 := Aside0.mk hc1
  clear hr1 hc1
  have H : (if (l0.length : Int) = (l1.length : Int) then (shoringref19_Same.l0 k l0 l1 (l0.length : Int) 0) else (some false)) = some r := h
  clear h
  by_cases c3 : (l0.length : Int) = (l1.length : Int)
  · rw [if_pos c3] at H
    have c3b0 : ((l0.length : Int) == (l1.length : Int)) = true := beq_iff_eq.mpr c3
    have c3b1 : ((l0.length : Int) != (l1.length : Int)) = false := bne_eq_false_iff_eq.mpr c3
    have c3b2 : (l0.length == l1.length) = true := by first | simpa using c3 | (simp at c3 ⊢; omega)
    clear c3
    have H' := Aside0.mk H
    clear H
    go_enter Tryd.func15, Tryd.ntmps15
    go_wp2
    repeat (go_quiet (fail); try go_wp2)
    go_loopg [14] k (fun kq v14 w' => ∃ (x14_1 : Int), v14 = .int .i64 x14_1 ∧ Aside0 (shoringref19_Same.l0 kq l0 l1 (l0.length : Int) x14_1 = some r) ∧ Aside0 (kq ≤ k) ∧ Drawn0 w w')
    case atStart => exact ⟨(0), (by first | rfl | (simp; done) | (simp [*]; done)), H', ⟨Nat.le_refl _⟩, by repeat (first | exact Drawn0.refl _ | apply Drawn0.step)⟩
    case round =>
      clear H'
      try clear c1
      try clear p2
      try clear c3
      try clear c3b0
      try clear c3b1
      try clear c3b2
      obtain ⟨x14_1, rfl, HA, HK1, ⟨m1, rfl⟩⟩ := hrel
      cases gk with
      | zero => exact absurd HA.out (by simp [shoringref19_Same.l0])
      | succ k1 =>
        have H := HA.out
        clear HA
        simp only [shoringref19_Same.l0] at H
        by_cases c4 : x14_1 < (l0.length : Int)
        · rw [if_pos c4] at H
          have c4b0 : decide (x14_1 < (l0.length : Int)) = true := decide_eq_true c4
          clear c4
          have HC5 := Aside0.mk H
          clear H
          go_upto_region 6 with (fail)
          repeat (go_quiet (fail); go_upto_region 6 with (fail))
          go_cut [42] (fun v42 wc => ∃ (kq : Nat) (x42_4 : Bool), v42 = .bool x42_4 ∧ Aside0 (shoringref19_Same.j1 kq l0 l1 x14_1 (l0.length : Int) x14_1 x42_4 = some r) ∧ Aside0 (kq ≤ k1) ∧ Drawn0 w wc)
          case first =>
            have H := HC5.out
            clear HC5
            by_cases c6 : 0 ≤ x14_1
            · rw [if_pos c6] at H
              have c6b0 : decide (0 ≤ x14_1) = true := decide_eq_true c6
              clear c6
              (first | rw [c6b0] | (simp only [i64_w, i32_w]; rw [c6b0]) | skip)
              by_cases c7 : x14_1 < (l0.length : Int)
              · rw [if_pos c7] at H
                have c7b0 : decide (x14_1 < (l0.length : Int)) = true := decide_eq_true c7
                clear c7
                by_cases c8 : x14_1 < (l1.length : Int)
                · rw [if_pos c8] at H
                  have c8b0 : decide (x14_1 < (l1.length : Int)) = true := decide_eq_true c8
                  clear c8
                  by_cases c9 : ((rd_T80 l0 x14_1).f0) = ((rd_T80 l1 x14_1).f0)
                  · rw [if_pos c9] at H
                    have c9b0 : (((rd_T80 l0 x14_1).f0) == ((rd_T80 l1 x14_1).f0)) = true := beq_iff_eq.mpr c9
                    have c9b1 : (((rd_T80 l0 x14_1).f0) != ((rd_T80 l1 x14_1).f0)) = false := bne_eq_false_iff_eq.mpr c9
                    clear c9
                    have H' := Aside0.mk H
                    clear H
                    have p137 : 0 ≤ (x14_1 : Int) := of_decide_eq_true (by first | (with_reducible assumption) | assumption)
                    have q137 : x14_1 < (l0.length : Int) := of_decide_eq_true (by first | (with_reducible assumption) | assumption)
                    obtain ⟨ad137, A137_1, c137_1, e137, hx137_0, hx137_1, hl137_1, hi137_1⟩ := at_T80 HR0.out x14_1 p137 q137
                    cases e137
                    have HR137_1 := Aside0.mk hi137_1
                    have HC137_1 := Aside0.mk hl137_1
                    clear hi137_1 hl137_1
                    replace p137 := eq_true p137
                    replace q137 := eq_true q137
                    have p138 : 0 ≤ (x14_1 : Int) := of_decide_eq_true (by first | (with_reducible assumption) | assumption)
                    have q138 : x14_1 < (l1.length : Int) := of_decide_eq_true (by first | (with_reducible assumption) | assumption)
                    obtain ⟨ad138, A138_1, c138_1, e138, hx138_0, hx138_1, hl138_1, hi138_1⟩ := at_T80 HR1.out x14_1 p138 q138
                    cases e138
                    have HR138_1 := Aside0.mk hi138_1
                    have HC138_1 := Aside0.mk hl138_1
                    clear hi138_1 hl138_1
                    replace p138 := eq_true p138
                    replace q138 := eq_true q138
                    have p139 : 0 ≤ (x14_1 : Int) := of_decide_eq_true (by first | (with_reducible assumption) | assumption)
                    have q139 : x14_1 < (l0.length : Int) := of_decide_eq_true (by first | (with_reducible assumption) | assumption)
                    obtain ⟨ad139, A139_1, c139_1, e139, hx139_0, hx139_1, hl139_1, hi139_1⟩ := at_T80 HR0.out x14_1 p139 q139
                    obtain rfl : ad137 = ad139 := (by injection e139)
                    have HR139_1 := Aside0.mk hi139_1
                    have HC139_1 := Aside0.mk hl139_1
                    clear hi139_1 hl139_1
                    replace p139 := eq_true p139
                    replace q139 := eq_true q139
                    have ea_ := Option.some.inj (hx137_1.symm.trans hx139_1)
                    injection ea_ with ea_ en_ ec_
                    subst ea_
                    subst ec_
                    clear en_
                    have p140 : 0 ≤ (x14_1 : Int) := of_decide_eq_true (by first | (with_reducible assumption) | assumption)
                    have q140 : x14_1 < (l1.length : Int) := of_decide_eq_true (by first | (with_reducible assumption) | assumption)
                    obtain ⟨ad140, A140_1, c140_1, e140, hx140_0, hx140_1, hl140_1, hi140_1⟩ := at_T80 HR1.out x14_1 p140 q140
                    obtain rfl : ad138 = ad140 := (by injection e140)
                    have HR140_1 := Aside0.mk hi140_1
                    have HC140_1 := Aside0.mk hl140_1
                    clear hi140_1 hl140_1
                    replace p140 := eq_true p140
                    replace q140 := eq_true q140
                    have ea_ := Option.some.inj (hx138_1.symm.trans hx140_1)
                    injection ea_ with ea_ en_ ec_
                    subst ea_
                    subst ec_
                    clear en_
                    go_wp2
                    repeat (go_quiet (fail); try go_wp2)
                    go_meet
                    case rel => exact ⟨_, (((((rd_T80 l0 x14_1).f1).length : Int) != (((rd_T80 l1 x14_1).f1).length : Int))), (by first | rfl | (simp; done) | (simp [*]; done)), H', ⟨by have := HK1.out; first | omega | exact Nat.le_refl _⟩, by repeat (first | exact Drawn0.refl _ | apply Drawn0.step)⟩
                  · rw [if_neg c9] at H
                    have c9b0 : (((rd_T80 l0 x14_1).f0) == ((rd_T80 l1 x14_1).f0)) = false := beq_eq_false_iff_ne.mpr c9
                    have c9b1 : (((rd_T80 l0 x14_1).f0) != ((rd_T80 l1 x14_1).f0)) = true := bne_iff_ne.mpr c9
                    have H' := Aside0.mk H
                    clear H
                    have p137 : 0 ≤ (x14_1 : Int) := of_decide_eq_true (by first | (with_reducible assumption) | assumption)
                    have q137 : x14_1 < (l0.length : Int) := of_decide_eq_true (by first | (with_reducible assumption) | assumption)
                    obtain ⟨ad137, A137_1, c137_1, e137, hx137_0, hx137_1, hl137_1, hi137_1⟩ := at_T80 HR0.out x14_1 p137 q137
                    cases e137
                    have HR137_1 := Aside0.mk hi137_1
                    have HC137_1 := Aside0.mk hl137_1
                    clear hi137_1 hl137_1
                    replace p137 := eq_true p137
                    replace q137 := eq_true q137
                    have p138 : 0 ≤ (x14_1 : Int) := of_decide_eq_true (by first | (with_reducible assumption) | assumption)
                    have q138 : x14_1 < (l1.length : Int) := of_decide_eq_true (by first | (with_reducible assumption) | assumption)
                    obtain ⟨ad138, A138_1, c138_1, e138, hx138_0, hx138_1, hl138_1, hi138_1⟩ := at_T80 HR1.out x14_1 p138 q138
                    cases e138
                    have HR138_1 := Aside0.mk hi138_1
                    have HC138_1 := Aside0.mk hl138_1
                    clear hi138_1 hl138_1
                    replace p138 := eq_true p138
                    replace q138 := eq_true q138
                    go_wp2
                    repeat (go_quiet (fail); try go_wp2)
                    go_meet
                    case rel => exact ⟨_, (true), (by first | rfl | (simp; done) | (simp [*]; done)), H', ⟨by have := HK1.out; first | omega | exact Nat.le_refl _⟩, by repeat (first | exact Drawn0.refl _ | apply Drawn0.step)⟩
                · rw [if_neg c8] at H
                  exact absurd H (by simp)
              · rw [if_neg c7] at H
                exact absurd H (by simp)
            · rw [if_neg c6] at H
              exact absurd H (by simp)
          case rest =>
            clear HC5
            try clear c1
            try clear p1
            try clear q1
            try clear hx1
            try clear p2
            try clear c3
            try clear c3b0
            try clear c3b1
            try clear c3b2
            try clear c4
            try clear c4b0
            try clear c6
            try clear c6b0
            try clear c7
            try clear c7b0
            try clear c8
            try clear c8b0
            try clear c9
            try clear c9b0
            try clear c9b1
            try clear hx137_0
            try clear hx137_1
            try clear hx138_0
            try clear hx138_1
            try clear hx139_0
            try clear hx139_1
            try clear hx140_0
            try clear hx140_1
            try clear p137
            try clear p138
            try clear p139
            try clear p140
            try clear p2
            try clear q137
            try clear q138
            try clear q139
            try clear q140
            obtain ⟨kq, x42_4, rfl, HA, HJ4, ⟨mc4, rfl⟩⟩ := hcut
            cases kq with
            | zero => exact absurd HA.out (by simp [shoringref19_Same.j1])
            | succ kj4 =>
              have H := HA.out
              clear HA
              simp only [shoringref19_Same.j1] at H
              by_cases c10 : x42_4 = true
              · subst c10
                have H1 : (some false) = some r := by rw [if_pos rfl] at H; exact H
                clear H
                have H := H1
                clear H1
                obtain rfl := Option.some.inj H
                go_wp2
                repeat (go_quiet (fail); try go_wp2)
                go_ret
                exact ⟨by first | rfl | (simp; done) | (simp [*]; done), by repeat (first | exact Drawn0.refl _ | apply Drawn0.step)⟩
              · replace c10 := Bool.eq_false_iff.mpr c10
                subst c10
                have H1 : (if 0 ≤ x14_1 then (if x14_1 < (l0.length : Int) then (shoringref19_Same.l1 kj4 l0 l1 x14_1 (l0.length : Int) x14_1 (((rd_T80 l0 x14_1).f1).length : Int) 0) else (none)) else (none)) = some r := by rw [if_neg (show ¬ (false = true) by decide)] at H; exact H
                clear H
                have H := H1
                clear H1
                by_cases c11 : 0 ≤ x14_1
                · rw [if_pos c11] at H
                  have c11b0 : decide (0 ≤ x14_1) = true := decide_eq_true c11
                  clear c11
                  by_cases c12 : x14_1 < (l0.length : Int)
                  · rw [if_pos c12] at H
                    have c12b0 : decide (x14_1 < (l0.length : Int)) = true := decide_eq_true c12
                    clear c12
                    have H' := Aside0.mk H
                    clear H
                    have p141 : 0 ≤ (x14_1 : Int) := of_decide_eq_true (by first | (with_reducible assumption) | assumption)
                    have q141 : x14_1 < (l0.length : Int) := of_decide_eq_true (by first | (with_reducible assumption) | assumption)
                    obtain ⟨ad141, A141_1, c141_1, e141, hx141_0, hx141_1, hl141_1, hi141_1⟩ := at_T80 HR0.out x14_1 p141 q141
                    cases e141
                    have HR141_1 := Aside0.mk hi141_1
                    have HC141_1 := Aside0.mk hl141_1
                    clear hi141_1 hl141_1
                    replace p141 := eq_true p141
                    replace q141 := eq_true q141
                    go_wp2
                    repeat (go_quiet (fail); try go_wp2)
                    go_loopg [49] kj4 (fun kq v49 w' => ∃ (x49_3 : Int), v49 = .int .i64 x49_3 ∧ Aside0 (shoringref19_Same.l1 kq l0 l1 x14_1 (l0.length : Int) x14_1 (((rd_T80 l0 x14_1).f1).length : Int) x49_3 = some r) ∧ Aside0 (kq ≤ kj4) ∧ Drawn0 w w')
                    case atStart => exact ⟨(0), (by first | rfl | (simp; done) | (simp [*]; done)), H', ⟨Nat.le_refl _⟩, by repeat (first | exact Drawn0.refl _ | apply Drawn0.step)⟩
                    case round =>
                      clear H'
                      try clear c1
                      try clear p1
                      try clear q1
                      try clear hx1
                      try clear p2
                      try clear c3
                      try clear c3b0
                      try clear c3b1
                      try clear c3b2
                      try clear c4
                      try clear c4b0
                      try clear c6
                      try clear c6b0
                      try clear c7
                      try clear c7b0
                      try clear c8
                      try clear c8b0
                      try clear c9
                      try clear c9b0
                      try clear c9b1
                      try clear c10
                      try clear c11
                      try clear c11b0
                      try clear c12
                      try clear c12b0
                      try clear hx137_0
                      try clear hx137_1
                      try clear hx138_0
                      try clear hx138_1
                      try clear hx139_0
                      try clear hx139_1
                      try clear hx140_0
                      try clear hx140_1
                      try clear hx141_0
                      try clear hx141_1
                      try clear p1
                      try clear p137
                      try clear p138
                      try clear p139
                      try clear p140
                      try clear p141
                      try clear p2
                      try clear q1
                      try clear q137
                      try clear q138
                      try clear q139
                      try clear q140
                      try clear q141
                      obtain ⟨x49_3, rfl, HA, HK3, ⟨m3, rfl⟩⟩ := hrel
                      cases gk with
                      | zero => exact absurd HA.out (by simp [shoringref19_Same.l1])
                      | succ k3 =>
                        have H := HA.out
                        clear HA
                        simp only [shoringref19_Same.l1] at H
                        by_cases c13 : x49_3 < (((rd_T80 l0 x14_1).f1).length : Int)
                        · rw [if_pos c13] at H
                          have c13b0 : decide (x49_3 < (((rd_T80 l0 x14_1).f1).length : Int)) = true := decide_eq_true c13
                          clear c13
                          by_cases c14 : 0 ≤ x14_1
                          · rw [if_pos c14] at H
                            have c14b0 : decide (0 ≤ x14_1) = true := decide_eq_true c14
                            clear c14
                            by_cases c15 : x14_1 < (l0.length : Int)
                            · rw [if_pos c15] at H
                              have c15b0 : decide (x14_1 < (l0.length : Int)) = true := decide_eq_true c15
                              clear c15
                              by_cases c16 : 0 ≤ x49_3
                              · rw [if_pos c16] at H
                                have c16b0 : decide (0 ≤ x49_3) = true := decide_eq_true c16
                                clear c16
                                by_cases c17 : x49_3 < (((rd_T80 l0 x14_1).f1).length : Int)
                                · rw [if_pos c17] at H
                                  have c17b0 : decide (x49_3 < (((rd_T80 l0 x14_1).f1).length : Int)) = true := decide_eq_true c17
                                  clear c17
                                  by_cases c18 : x14_1 < (l1.length : Int)
                                  · rw [if_pos c18] at H
                                    have c18b0 : decide (x14_1 < (l1.length : Int)) = true := decide_eq_true c18
                                    clear c18
                                    by_cases c19 : x49_3 < (((rd_T80 l1 x14_1).f1).length : Int)
                                    · rw [if_pos c19] at H
                                      have c19b0 : decide (x49_3 < (((rd_T80 l1 x14_1).f1).length : Int)) = true := decide_eq_true c19
                                      clear c19
                                      by_cases c20 : (!(((rd_T26 ((rd_T80 l0 x14_1).f1) x49_3).f0) == ((rd_T26 ((rd_T80 l1 x14_1).f1) x49_3).f0)) || (!(((rd_T26 ((rd_T80 l0 x14_1).f1) x49_3).f1) == ((rd_T26 ((rd_T80 l1 x14_1).f1) x49_3).f1)) || (!(((rd_T26 ((rd_T80 l0 x14_1).f1) x49_3).f2) == ((rd_T26 ((rd_T80 l1 x14_1).f1) x49_3).f2)) || (!(((rd_T26 ((rd_T80 l0 x14_1).f1) x49_3).f3) == ((rd_T26 ((rd_T80 l1 x14_1).f1) x49_3).f3)))))) = true
                                      · rw [if_pos c20] at H
                                        have c20b0 : (!(((rd_T26 ((rd_T80 l0 x14_1).f1) x49_3).f0) == ((rd_T26 ((rd_T80 l1 x14_1).f1) x49_3).f0)) || (!(((rd_T26 ((rd_T80 l0 x14_1).f1) x49_3).f1) == ((rd_T26 ((rd_T80 l1 x14_1).f1) x49_3).f1)) || (!(((rd_T26 ((rd_T80 l0 x14_1).f1) x49_3).f2) == ((rd_T26 ((rd_T80 l1 x14_1).f1) x49_3).f2)) || (!(((rd_T26 ((rd_T80 l0 x14_1).f1) x49_3).f3) == ((rd_T26 ((rd_T80 l1 x14_1).f1) x49_3).f3)))))) = true := c20
                                        clear c20
                                        obtain rfl := Option.some.inj H
                                        have p142 : 0 ≤ (x14_1 : Int) := of_decide_eq_true (by first | (with_reducible assumption) | assumption)
                                        have q142 : x14_1 < (l0.length : Int) := of_decide_eq_true (by first | (with_reducible assumption) | assumption)
                                        obtain ⟨ad142, A142_1, c142_1, e142, hx142_0, hx142_1, hl142_1, hi142_1⟩ := at_T80 HR0.out x14_1 p142 q142
                                        obtain rfl : ad141 = ad142 := (by injection e142)
                                        have HR142_1 := Aside0.mk hi142_1
                                        have HC142_1 := Aside0.mk hl142_1
                                        clear hi142_1 hl142_1
                                        replace p142 := eq_true p142
                                        replace q142 := eq_true q142
                                        have p143 : 0 ≤ (x49_3 : Int) := of_decide_eq_true (by first | (with_reducible assumption) | assumption)
                                        have q143 : x49_3 < (((rd_T80 l0 x14_1).f1).length : Int) := of_decide_eq_true (by first | (with_reducible assumption) | assumption)
                                        obtain ⟨ad143, e143, hx143_0, hx143_1, hx143_2, hx143_3⟩ := at_T26 HR142_1.out x49_3 p143 q143
                                        cases e143
                                        replace p143 := eq_true p143
                                        replace q143 := eq_true q143
                                        have p144 : 0 ≤ (x14_1 : Int) := of_decide_eq_true (by first | (with_reducible assumption) | assumption)
                                        have q144 : x14_1 < (l1.length : Int) := of_decide_eq_true (by first | (with_reducible assumption) | assumption)
                                        obtain ⟨ad144, A144_1, c144_1, e144, hx144_0, hx144_1, hl144_1, hi144_1⟩ := at_T80 HR1.out x14_1 p144 q144
                                        cases e144
                                        have HR144_1 := Aside0.mk hi144_1
                                        have HC144_1 := Aside0.mk hl144_1
                                        clear hi144_1 hl144_1
                                        replace p144 := eq_true p144
                                        replace q144 := eq_true q144
                                        have p145 : 0 ≤ (x49_3 : Int) := of_decide_eq_true (by first | (with_reducible assumption) | assumption)
                                        have q145 : x49_3 < (((rd_T80 l1 x14_1).f1).length : Int) := of_decide_eq_true (by first | (with_reducible assumption) | assumption)
                                        obtain ⟨ad145, e145, hx145_0, hx145_1, hx145_2, hx145_3⟩ := at_T26 HR144_1.out x49_3 p145 q145
                                        cases e145
                                        replace p145 := eq_true p145
                                        replace q145 := eq_true q145
                                        go_wp2
                                        repeat (go_quiet (fail); try go_wp2)
                                        go_ret
                                        exact ⟨by first | rfl | (simp; done) | (simp [*]; done), by repeat (first | exact Drawn0.refl _ | apply Drawn0.step)⟩
                                      · rw [if_neg c20] at H
                                        have c20b0 : (!(((rd_T26 ((rd_T80 l0 x14_1).f1) x49_3).f0) == ((rd_T26 ((rd_T80 l1 x14_1).f1) x49_3).f0)) || (!(((rd_T26 ((rd_T80 l0 x14_1).f1) x49_3).f1) == ((rd_T26 ((rd_T80 l1 x14_1).f1) x49_3).f1)) || (!(((rd_T26 ((rd_T80 l0 x14_1).f1) x49_3).f2) == ((rd_T26 ((rd_T80 l1 x14_1).f1) x49_3).f2)) || (!(((rd_T26 ((rd_T80 l0 x14_1).f1) x49_3).f3) == ((rd_T26 ((rd_T80 l1 x14_1).f1) x49_3).f3)))))) = false := by simpa using c20
                                        clear c20
                                        have H' := Aside0.mk H
                                        clear H
                                        have p142 : 0 ≤ (x14_1 : Int) := of_decide_eq_true (by first | (with_reducible assumption) | assumption)
                                        have q142 : x14_1 < (l0.length : Int) := of_decide_eq_true (by first | (with_reducible assumption) | assumption)
                                        obtain ⟨ad142, A142_1, c142_1, e142, hx142_0, hx142_1, hl142_1, hi142_1⟩ := at_T80 HR0.out x14_1 p142 q142
                                        obtain rfl : ad141 = ad142 := (by injection e142)
                                        have HR142_1 := Aside0.mk hi142_1
                                        have HC142_1 := Aside0.mk hl142_1
                                        clear hi142_1 hl142_1
                                        replace p142 := eq_true p142
                                        replace q142 := eq_true q142
                                        have p143 : 0 ≤ (x49_3 : Int) := of_decide_eq_true (by first | (with_reducible assumption) | assumption)
                                        have q143 : x49_3 < (((rd_T80 l0 x14_1).f1).length : Int) := of_decide_eq_true (by first | (with_reducible assumption) | assumption)
                                        obtain ⟨ad143, e143, hx143_0, hx143_1, hx143_2, hx143_3⟩ := at_T26 HR142_1.out x49_3 p143 q143
                                        cases e143
                                        replace p143 := eq_true p143
                                        replace q143 := eq_true q143
                                        have p144 : 0 ≤ (x14_1 : Int) := of_decide_eq_true (by first | (with_reducible assumption) | assumption)
                                        have q144 : x14_1 < (l1.length : Int) := of_decide_eq_true (by first | (with_reducible assumption) | assumption)
                                        obtain ⟨ad144, A144_1, c144_1, e144, hx144_0, hx144_1, hl144_1, hi144_1⟩ := at_T80 HR1.out x14_1 p144 q144
                                        cases e144
                                        have HR144_1 := Aside0.mk hi144_1
                                        have HC144_1 := Aside0.mk hl144_1
                                        clear hi144_1 hl144_1
                                        replace p144 := eq_true p144
                                        replace q144 := eq_true q144
                                        have p145 : 0 ≤ (x49_3 : Int) := of_decide_eq_true (by first | (with_reducible assumption) | assumption)
                                        have q145 : x49_3 < (((rd_T80 l1 x14_1).f1).length : Int) := of_decide_eq_true (by first | (with_reducible assumption) | assumption)
                                        obtain ⟨ad145, e145, hx145_0, hx145_1, hx145_2, hx145_3⟩ := at_T26 HR144_1.out x49_3 p145 q145
                                        cases e145
                                        replace p145 := eq_true p145
                                        replace q145 := eq_true q145
                                        go_wp2
                                        repeat (go_quiet (fail); try go_wp2)
                                        go_roundg k3
                                        case measure => have := HK1.out; have := HJ4.out; have := HK3.out; omega
                                        case rel => exact ⟨(wrap64 (x49_3 + 1)), (by first | rfl | (simp; done) | (simp [*]; done)), H', ⟨by have := HK1.out; have := HJ4.out; have := HK3.out; omega⟩, by repeat (first | exact Drawn0.refl _ | apply Drawn0.step)⟩
                                    · rw [if_neg c19] at H
                                      exact absurd H (by simp)
                                  · rw [if_neg c18] at H
                                    exact absurd H (by simp)
                                · rw [if_neg c17] at H
                                  exact absurd H (by simp)
                              · rw [if_neg c16] at H
                                exact absurd H (by simp)
                            · rw [if_neg c15] at H
                              exact absurd H (by simp)
                          · rw [if_neg c14] at H
                            exact absurd H (by simp)
                        · rw [if_neg c13] at H
                          have c13b0 : decide (x49_3 < (((rd_T80 l0 x14_1).f1).length : Int)) = false := decide_eq_false c13
                          clear c13
                          have H' := Aside0.mk H
                          clear H
                          go_wp2
                          repeat (go_quiet (fail); try go_wp2)
                          go_roundg k3
                          case measure => have := HK1.out; have := HJ4.out; have := HK3.out; omega
                          case rel => exact ⟨(wrap64 (x14_1 + 1)), (by first | rfl | (simp; done) | (simp [*]; done)), H', ⟨by have := HK1.out; have := HJ4.out; have := HK3.out; omega⟩, by repeat (first | exact Drawn0.refl _ | apply Drawn0.step)⟩
                  · rw [if_neg c12] at H
                    exact absurd H (by simp)
                · rw [if_neg c11] at H
                  exact absurd H (by simp)
        · rw [if_neg c4] at H
          have c4b0 : decide (x14_1 < (l0.length : Int)) = false := decide_eq_false c4
          clear c4
          obtain rfl := Option.some.inj H
          go_wp2
          repeat (go_quiet (fail); try go_wp2)
          go_ret
          exact ⟨by first | rfl | (simp; done) | (simp [*]; done), by repeat (first | exact Drawn0.refl _ | apply Drawn0.step)⟩
  · rw [if_neg c3] at H
    have c3b0 : ((l0.length : Int) == (l1.length : Int)) = false := beq_eq_false_iff_ne.mpr c3
    have c3b1 : ((l0.length : Int) != (l1.length : Int)) = true := bne_iff_ne.mpr c3
    have c3b2 : (l0.length == l1.length) = false := by first | simpa using c3 | (simp at c3 ⊢; omega)
    obtain rfl := Option.some.inj H
    go_enter Tryd.func15, Tryd.ntmps15
    go_wp2
    repeat (go_quiet (fail); try go_wp2)
    go_ret
    exact ⟨by first | rfl | (simp; done) | (simp [*]; done), by repeat (first | exact Drawn0.refl _ | apply Drawn0.step)⟩

-- NOT PRINTED: function 3 (shoringlaw19_ModelRight)

end Go.Proofs.YtfaghjadjpiaiaaDoor.PModelRight
