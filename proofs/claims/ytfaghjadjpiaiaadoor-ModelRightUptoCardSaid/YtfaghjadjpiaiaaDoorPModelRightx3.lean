-- PRINTED BY print.sh 35421559b90ae4d0a3588c463048766b98c2df88dd9212a6774a882060cdf62d: not written by this session
import Derived.Test.YtfaghjadjpiaiaaDoorPModelRightx0
import Derived.Test.YtfaghjadjpiaiaaDoorPModelRightx2
namespace Go.Proofs.YtfaghjadjpiaiaaDoor.PModelRight
open Go.RowKit Go.Proofs.YtfaghjadjpiaiaaDoorW.PrintWords Go.Proofs.YtfaghjadjpiaiaaDoorW.PrintLast Go.Proofs.YtfaghjadjpiaiaaDoorW.PrintMore
attribute [local go_sem] max2_int min2_int max_two min_two max_three min_three max_four min_four   -- for this text's walks alone
set_option linter.unusedVariables false
set_option linter.unusedSimpArgs false

/-! ### shoringref03_Has: function 135 -/
mutual
def shoringref03_Has.j0 : Nat → List Int → Int → Bool → Option (Bool)
  | 0, _, _, _ => none
  | k + 1, x0, x1, x15 => if x15 = true then (some false) else (if 0 ≤ (wrap64 (Int.tdiv x1 64)) then (if (wrap64 (Int.tdiv x1 64)) < (x0.length : Int) then (shoringref03_Has.l0 k x1 (rd x0 (wrap64 (Int.tdiv x1 64))) 0) else (none)) else (none))
def shoringref03_Has.l0 : Nat → Int → Int → Int → Option (Bool)
  | 0, _, _, _ => none
  | k + 1, x1, x5, x6 => if x6 < (Int.tmod x1 64) then (shoringref03_Has.l0 k x1 (IntKind.u64.wrap (Int.tdiv x5 2)) (wrap64 (x6 + 1))) else (some ((Int.tmod x5 2) == 1))
end
def shoringref03_Has.f (k : Nat) (l0 : List Int) (a1 : Int) : Option (Bool) := if a1 < 0 then (shoringref03_Has.j0 k l0 a1 true) else (shoringref03_Has.j0 k l0 a1 (decide ((wrap64 (Int.tdiv a1 64)) ≥ (l0.length : Int))))
theorem shoringref03_Has.mono_l : ∀ k, (∀ y0 y1 y2, LeO (shoringref03_Has.j0 k y0 y1 y2) (shoringref03_Has.j0 (k + 1) y0 y1 y2)) ∧ (∀ y0 y1 y2, LeO (shoringref03_Has.l0 k y0 y1 y2) (shoringref03_Has.l0 (k + 1) y0 y1 y2))
  | 0 => ⟨fun _ _ _ r h => by simp [shoringref03_Has.j0] at h, fun _ _ _ r h => by simp [shoringref03_Has.l0] at h⟩
  | k + 1 => by
    obtain ⟨ih0, ih1⟩ := shoringref03_Has.mono_l k
    refine ⟨?_, ?_⟩
    · intro y0 y1 y2
      unfold shoringref03_Has.j0
      repeat' first
      | (with_reducible exact ih0 _ _ _)
      | (with_reducible exact ih1 _ _ _)
      | (with_reducible exact LeO.refl _)
      | (with_reducible exact LeO.none _)
      | (with_reducible refine LeO.ite ?_ ?_)
      | (with_reducible refine LeO.bind ?_ (fun _ => ?_))
      | exact ih0 _ _ _
      | exact ih1 _ _ _
      | exact LeO.none _
      | refine LeO.ite ?_ ?_
      | refine LeO.bind ?_ (fun _ => ?_)
    · intro y0 y1 y2
      unfold shoringref03_Has.l0
      repeat' first
      | (with_reducible exact ih0 _ _ _)
      | (with_reducible exact ih1 _ _ _)
      | (with_reducible exact LeO.refl _)
      | (with_reducible exact LeO.none _)
      | (with_reducible refine LeO.ite ?_ ?_)
      | (with_reducible refine LeO.bind ?_ (fun _ => ?_))
      | exact ih0 _ _ _
      | exact ih1 _ _ _
      | exact LeO.none _
      | refine LeO.ite ?_ ?_
      | refine LeO.bind ?_ (fun _ => ?_)
theorem shoringref03_Has.mono : ∀ a0 a1 k, LeO (shoringref03_Has.f k a0 a1) (shoringref03_Has.f (k + 1) a0 a1) := by
  intro a0 a1 k
  obtain ⟨ih0, ih1⟩ := shoringref03_Has.mono_l k
  unfold shoringref03_Has.f
  repeat' first
      | (with_reducible exact ih0 _ _ _)
      | (with_reducible exact ih1 _ _ _)
      | (with_reducible exact LeO.refl _)
      | (with_reducible exact LeO.none _)
      | (with_reducible refine LeO.ite ?_ ?_)
      | (with_reducible refine LeO.bind ?_ (fun _ => ?_))
      | exact ih0 _ _ _
      | exact ih1 _ _ _
      | exact LeO.none _
      | refine LeO.ite ?_ ?_
      | refine LeO.bind ?_ (fun _ => ?_)
set_option maxHeartbeats 8000000 in
set_option maxRecDepth 100000 in
theorem shoringref03_Has.calls (k : Nat) (A0 : Option Addr) (c0 : Nat) (l0 : List Int) (a1 : Int) (r : Bool) (w : World) (hr0 : Kd.C (Kd.int .u64) w A0 l0.length l0) (hc0 : l0.length ≤ c0) (h : shoringref03_Has.f k l0 a1 = some r) :
    Calls Tryd.prog 135 #[.slice A0 l0.length c0, .int .i64 a1] w fun e w' => e = .returned (.bool r) ∧ Drawn0 w w' := by
  have HR0 := Aside0.mk hr0
  have HC0 := Aside0.mk hc0
  clear hr0 hc0
  have H : (if a1 < 0 then (shoringref03_Has.j0 k l0 a1 true) else (shoringref03_Has.j0 k l0 a1 (decide ((wrap64 (Int.tdiv a1 64)) ≥ (l0.length : Int))))) = some r := h
  clear h
  have HC3 := Aside0.mk H
  clear H
  go_enter Tryd.func135, Tryd.ntmps135
  go_upto_region 1 with (fail)
  go_cut [15] (fun v15 wc => ∃ (kq : Nat) (x15_2 : Bool), v15 = .bool x15_2 ∧ Aside0 (shoringref03_Has.j0 kq l0 a1 x15_2 = some r) ∧ Aside0 (kq ≤ k) ∧ Drawn0 w wc)
  case first =>
    have H := HC3.out
    clear HC3
    by_cases c4 : a1 < 0
    · rw [if_pos c4] at H
      have c4b0 : decide (a1 < 0) = true := decide_eq_true c4
      clear c4
      (first | rw [c4b0] | (simp only [i64_w, i32_w]; rw [c4b0]) | skip)
      have H' := Aside0.mk H
      clear H
      go_wp2
      go_meet
      case rel => exact ⟨_, (true), (by first | rfl | (simp; done) | (simp [*]; done)), H', ⟨by first | omega | exact Nat.le_refl _⟩, by repeat (first | exact Drawn0.refl _ | apply Drawn0.step)⟩
    · rw [if_neg c4] at H
      have c4b0 : decide (a1 < 0) = false := decide_eq_false c4
      clear c4
      (first | rw [c4b0] | (simp only [i64_w, i32_w]; rw [c4b0]) | skip)
      have H' := Aside0.mk H
      clear H
      go_wp2
      go_meet
      case rel => exact ⟨_, (decide ((wrap64 (Int.tdiv a1 64)) ≥ (l0.length : Int))), (by first | rfl | (simp; done) | (simp [*]; done)), H', ⟨by first | omega | exact Nat.le_refl _⟩, by repeat (first | exact Drawn0.refl _ | apply Drawn0.step)⟩
  case rest =>
    clear HC3
    try clear c1
    try clear p2
    try clear c4
    try clear c4b0
    obtain ⟨kq, x15_2, rfl, HA, HJ2, ⟨mc2, rfl⟩⟩ := hcut
    cases kq with
    | zero => exact absurd HA.out (by simp [shoringref03_Has.j0])
    | succ kj2 =>
      have H := HA.out
      clear HA
      simp only [shoringref03_Has.j0] at H
      by_cases c5 : x15_2 = true
      · subst c5
        have H1 : (some false) = some r := by rw [if_pos rfl] at H; exact H
        clear H
        have H := H1
        clear H1
        obtain rfl := Option.some.inj H
        go_wp2
        go_ret
        exact ⟨by first | rfl | (simp; done) | (simp [*]; done), by repeat (first | exact Drawn0.refl _ | apply Drawn0.step)⟩
      · replace c5 := Bool.eq_false_iff.mpr c5
        subst c5
        have H1 : (if 0 ≤ (wrap64 (Int.tdiv a1 64)) then (if (wrap64 (Int.tdiv a1 64)) < (l0.length : Int) then (shoringref03_Has.l0 kj2 a1 (rd l0 (wrap64 (Int.tdiv a1 64))) 0) else (none)) else (none)) = some r := by rw [if_neg (show ¬ (false = true) by decide)] at H; exact H
        clear H
        have H := H1
        clear H1
        obtain ⟨ji6, hji6⟩ : ∃ j_ : Int, (wrap64 (Int.tdiv a1 64)) = j_ := ⟨_, rfl⟩
        replace H : (if 0 ≤ (ji6) then (if (ji6) < (l0.length : Int) then (shoringref03_Has.l0 kj2 a1 (rd l0 (ji6)) 0) else (none)) else (none)) = some r := by first | (rw [hji6] at H; exact H) | (simp only [hji6] at H ⊢; exact H)
        have hji6w : (IntKind.i64.wrap (Int.tdiv a1 64)) = ji6 := (i64_w _).trans hji6
        by_cases c7 : 0 ≤ (ji6)
        · rw [if_pos c7] at H
          have c7b0 : decide (0 ≤ (ji6)) = true := decide_eq_true c7
          clear c7
          by_cases c8 : (ji6) < (l0.length : Int)
          · rw [if_pos c8] at H
            have c8b0 : decide ((ji6) < (l0.length : Int)) = true := decide_eq_true c8
            clear c8
            have H' := Aside0.mk H
            clear H
            have p117 : 0 ≤ ((ji6) : Int) := of_decide_eq_true (by first | (with_reducible assumption) | assumption)
            have q117 : (ji6) < (l0.length : Int) := of_decide_eq_true (by first | (with_reducible assumption) | assumption)
            obtain ⟨ad117, e117, hx117_0⟩ := Kd.at_int HR0.out (ji6) p117 q117
            cases e117
            replace p117 := eq_true p117
            replace q117 := eq_true q117
            go_wp2
            go_loopg [5, 6] kj2 (fun kq v5 v6 w' => ∃ (x5_2 : Int) (x6_2 : Int), v5 = .int .u64 x5_2 ∧ v6 = .int .i64 x6_2 ∧ Aside0 (shoringref03_Has.l0 kq a1 x5_2 x6_2 = some r) ∧ Aside0 (kq ≤ kj2) ∧ Drawn0 w w')
            case atStart => exact ⟨(rd l0 (ji6)), (0), (by first | rfl | (simp; done) | (simp only [← hji6] <;> (first | rfl | simp)) | (simp [*]; done)), (by first | rfl | (simp; done) | (simp [*]; done)), H', ⟨Nat.le_refl _⟩, by repeat (first | exact Drawn0.refl _ | apply Drawn0.step)⟩
            case round =>
              clear H'
              try clear c1
              try clear p1
              try clear q1
              try clear hx1
              try clear c2
              try clear p2
              try clear c4
              try clear c4b0
              try clear c5
              try clear p6
              try clear c7
              try clear c7b0
              try clear c8
              try clear c8b0
              try clear hx117_0
              try clear p117
              try clear p2
              try clear q117
              obtain ⟨x5_2, x6_2, rfl, rfl, HA, HK2, ⟨m2, rfl⟩⟩ := hrel
              cases gk with
              | zero => exact absurd HA.out (by simp [shoringref03_Has.l0])
              | succ k2 =>
                have H := HA.out
                clear HA
                simp only [shoringref03_Has.l0] at H
                by_cases c9 : x6_2 < (Int.tmod a1 64)
                · rw [if_pos c9] at H
                  have c9b0 : decide (x6_2 < (Int.tmod a1 64)) = true := decide_eq_true c9
                  clear c9
                  have H' := Aside0.mk H
                  clear H
                  go_wp2
                  go_roundg k2
                  case measure => have := HJ2.out; have := HK2.out; omega
                  case rel => exact ⟨(IntKind.u64.wrap (Int.tdiv x5_2 2)), (wrap64 (x6_2 + 1)), (by first | rfl | (simp; done) | (simp [*]; done)), (by first | rfl | (simp; done) | (simp [*]; done)), H', ⟨by have := HJ2.out; have := HK2.out; omega⟩, by repeat (first | exact Drawn0.refl _ | apply Drawn0.step)⟩
                · rw [if_neg c9] at H
                  have c9b0 : decide (x6_2 < (Int.tmod a1 64)) = false := decide_eq_false c9
                  clear c9
                  obtain rfl := Option.some.inj H
                  go_wp2
                  go_ret
                  exact ⟨by first | rfl | (simp; done) | (simp only [← hji6] <;> (first | rfl | simp)) | (simp [*]; done), by repeat (first | exact Drawn0.refl _ | apply Drawn0.step)⟩
          · rw [if_neg c8] at H
            exact absurd H (by simp)
        · rw [if_neg c7] at H
          exact absurd H (by simp)

/-! ### shoringref13_Ptr: function 92 -/
def shoringref13_Ptr.f (k : Nat) (l0 : List (S88)) (a1 : Int) (a2 : Int) : Option (Bool) := (shoringref13_Size.f l0 a1).bind fun t118 => (if t118 ≥ 0 then (if 0 ≤ a1 then (if a1 < (l0.length : Int) then ((shoringref03_Has.f k ((rd_T88 l0 a1).f1) a2).bind fun t120 => (some t120)) else (none)) else (none)) else (some false))
theorem shoringref13_Ptr.mono : ∀ a0 a1 a2 k, LeO (shoringref13_Ptr.f k a0 a1 a2) (shoringref13_Ptr.f (k + 1) a0 a1 a2) := by
  intro a0 a1 a2 k
  unfold shoringref13_Ptr.f
  repeat' first
      | (with_reducible exact shoringref03_Has.mono _ _ _)
      | (with_reducible exact LeO.refl _)
      | (with_reducible exact LeO.none _)
      | (with_reducible refine LeO.ite ?_ ?_)
      | (with_reducible refine LeO.bind ?_ (fun _ => ?_))
      | exact shoringref03_Has.mono _ _ _
      | exact LeO.none _
      | refine LeO.ite ?_ ?_
      | refine LeO.bind ?_ (fun _ => ?_)
set_option maxHeartbeats 8000000 in
set_option maxRecDepth 100000 in
theorem shoringref13_Ptr.calls (k : Nat) (A0 : Option Addr) (c0 : Nat) (l0 : List (S88)) (a1 : Int) (a2 : Int) (r : Bool) (w : World) (hr0 : Kd.C k88 w A0 l0.length l0) (hc0 : l0.length ≤ c0) (h : shoringref13_Ptr.f k l0 a1 a2 = some r) :
    Calls Tryd.prog 92 #[.slice A0 l0.length c0, .int .i64 a1, .int .i64 a2] w fun e w' => e = .returned (.bool r) ∧ Drawn0 w w' := by
  have HR0 := Aside0.mk hr0
  have HC0 := Aside0.mk hc0
  clear hr0 hc0
  have H : ((shoringref13_Size.f l0 a1).bind fun t118 => (if t118 ≥ 0 then (if 0 ≤ a1 then (if a1 < (l0.length : Int) then ((shoringref03_Has.f k ((rd_T88 l0 a1).f1) a2).bind fun t120 => (some t120)) else (none)) else (none)) else (some false))) = some r := h
  clear h
  replace H := Option.bind_eq_some_iff.mp H
  obtain ⟨t118, A40, H⟩ := H
  replace H : (if t118 ≥ 0 then (if 0 ≤ a1 then (if a1 < (l0.length : Int) then ((shoringref03_Has.f k ((rd_T88 l0 a1).f1) a2).bind fun t120 => (some t120)) else (none)) else (none)) else (some false)) = some r := H
  have A4 := Aside0.mk A40
  clear A40
  by_cases c5 : t118 ≥ 0
  · rw [if_pos c5] at H
    have c5b0 : decide (0 ≤ t118) = true := decide_eq_true c5
    clear c5
    by_cases c6 : 0 ≤ a1
    · rw [if_pos c6] at H
      have c6b0 : decide (0 ≤ a1) = true := decide_eq_true c6
      clear c6
      by_cases c7 : a1 < (l0.length : Int)
      · rw [if_pos c7] at H
        have c7b0 : decide (a1 < (l0.length : Int)) = true := decide_eq_true c7
        clear c7
        replace H := Option.bind_eq_some_iff.mp H
        obtain ⟨t120, A80, H⟩ := H
        replace H : (some t120) = some r := H
        have A8 := Aside0.mk A80
        clear A80
        obtain rfl := Option.some.inj H
        go_enter Tryd.func92, Tryd.ntmps92
        go_wp2_with (first | ((with_reducible refine gate_callee (f := 42) rfl ?_); refine goesL_ (some 9) rfl rfl Tryd.func42 (by kernel_rfl) rfl #[.slice A0 l0.length c0, .int .i64 a1] rfl (by (try simp only [List.map_toArray, List.map_cons, List.map_nil]); first | done | rfl | (simp only [List.length_drop, List.length_take]; rfl)) ?_; (with_reducible refine (shoringref13_Size.calls _ _ l0 a1 t118 _ ?side1 ?side2 A4.out).mono ?_); (case side1 => repeat (first | exact HR0.out | (with_reducible refine Kd.C_alloc ?_ _) | (with_reducible refine Kd.C_drewN ?_ _) | (with_reducible refine Kd.C_drew ?_))); (case side2 => exact HC0.out); rintro e w' ⟨rfl, ⟨nd, rfl⟩⟩; refine ⟨_, rfl, ?_⟩; have p119 : 0 ≤ (a1 : Int) := of_decide_eq_true (by first | (with_reducible assumption) | assumption); have q119 : a1 < (l0.length : Int) := of_decide_eq_true (by first | (with_reducible assumption) | assumption); obtain ⟨ad119, A119_1, c119_1, e119, hx119_0, hx119_1, hl119_1, hi119_1⟩ := at_T88 HR0.out a1 p119 q119; cases e119; have HR119_1 := Aside0.mk hi119_1; have HC119_1 := Aside0.mk hl119_1; clear hi119_1 hl119_1; replace p119 := eq_true p119; replace q119 := eq_true q119) | (go_at_call 135; (with_reducible refine (shoringref03_Has.calls k _ _ ((rd_T88 l0 a1).f1) a2 t120 _ ?side1 ?side2 A8.out).mono ?_); (case side1 => repeat (first | exact HR119_1.out | (with_reducible refine Kd.C_alloc ?_ _) | (with_reducible refine Kd.C_drewN ?_ _) | (with_reducible refine Kd.C_drew ?_))); (case side2 => exact HC119_1.out); rintro e w' ⟨rfl, ⟨nd, rfl⟩⟩))
        go_ret
        exact ⟨by first | rfl | (simp; done) | (simp [*]; done), by repeat (first | exact Drawn0.refl _ | apply Drawn0.step)⟩
      · rw [if_neg c7] at H
        exact absurd H (by simp)
    · rw [if_neg c6] at H
      exact absurd H (by simp)
  · rw [if_neg c5] at H
    have c5b0 : decide (0 ≤ t118) = false := decide_eq_false c5
    clear c5
    obtain rfl := Option.some.inj H
    go_enter Tryd.func92, Tryd.ntmps92
    go_wp2_with (first | ((with_reducible refine gate_callee (f := 42) rfl ?_); refine goesL_ (some 9) rfl rfl Tryd.func42 (by kernel_rfl) rfl #[.slice A0 l0.length c0, .int .i64 a1] rfl (by (try simp only [List.map_toArray, List.map_cons, List.map_nil]); first | done | rfl | (simp only [List.length_drop, List.length_take]; rfl)) ?_; (with_reducible refine (shoringref13_Size.calls _ _ l0 a1 t118 _ ?side1 ?side2 A4.out).mono ?_); (case side1 => repeat (first | exact HR0.out | (with_reducible refine Kd.C_alloc ?_ _) | (with_reducible refine Kd.C_drewN ?_ _) | (with_reducible refine Kd.C_drew ?_))); (case side2 => exact HC0.out); rintro e w' ⟨rfl, ⟨nd, rfl⟩⟩; refine ⟨_, rfl, ?_⟩))
    go_ret
    exact ⟨by first | rfl | (simp; done) | (simp [*]; done), by repeat (first | exact Drawn0.refl _ | apply Drawn0.step)⟩

/-! ### shoringref19_has: function 93 -/
def shoringref19_has.f (l0 : List (S80)) (a1 : Int) (a2 : Int) : Option (Bool) := if a1 ≥ 0 then (if a1 < (l0.length : Int) then (if a2 ≥ 0 then (if 0 ≤ a1 then (some (decide (a2 < (((rd_T80 l0 a1).f1).length : Int)))) else (none)) else (some false)) else (some false)) else (some false)
set_option maxHeartbeats 8000000 in
set_option maxRecDepth 100000 in
theorem shoringref19_has.calls (A0 : Option Addr) (c0 : Nat) (l0 : List (S80)) (a1 : Int) (a2 : Int) (r : Bool) (w : World) (hr0 : Kd.C k80 w A0 l0.length l0) (hc0 : l0.length ≤ c0) (h : shoringref19_has.f l0 a1 a2 = some r) :
    Calls Tryd.prog 93 #[.slice A0 l0.length c0, .int .i64 a1, .int .i64 a2] w fun e w' => e = .returned (.bool r) ∧ Drawn0 w w' := by
  have HR0 := Aside0.mk hr0
  have HC0 := Aside0.mk hc0
  clear hr0 hc0
  have H : (if a1 ≥ 0 then (if a1 < (l0.length : Int) then (if a2 ≥ 0 then (if 0 ≤ a1 then (some (decide (a2 < (((rd_T80 l0 a1).f1).length : Int)))) else (none)) else (some false)) else (some false)) else (some false)) = some r := h
  clear h
  by_cases c4 : a1 ≥ 0
  · rw [if_pos c4] at H
    have c4b0 : decide (0 ≤ a1) = true := decide_eq_true c4
    clear c4
    by_cases c5 : a1 < (l0.length : Int)
    · rw [if_pos c5] at H
      have c5b0 : decide (a1 < (l0.length : Int)) = true := decide_eq_true c5
      clear c5
      by_cases c6 : a2 ≥ 0
      · rw [if_pos c6] at H
        have c6b0 : decide (0 ≤ a2) = true := decide_eq_true c6
        clear c6
        by_cases c7 : 0 ≤ a1
        · rw [if_pos c7] at H
          have c7b0 : decide (0 ≤ a1) = true := decide_eq_true c7
          clear c7
          obtain rfl := Option.some.inj H
          have p121 : 0 ≤ (a1 : Int) := of_decide_eq_true (by first | (with_reducible assumption) | assumption)
          have q121 : a1 < (l0.length : Int) := of_decide_eq_true (by first | (with_reducible assumption) | assumption)
          obtain ⟨ad121, A121_1, c121_1, e121, hx121_0, hx121_1, hl121_1, hi121_1⟩ := at_T80 HR0.out a1 p121 q121
          cases e121
          have HR121_1 := Aside0.mk hi121_1
          have HC121_1 := Aside0.mk hl121_1
          clear hi121_1 hl121_1
          replace p121 := eq_true p121
          replace q121 := eq_true q121
          go_enter Tryd.func93, Tryd.ntmps93
          go_wp2
          go_ret
          exact ⟨by first | rfl | (simp; done) | (simp [*]; done), by repeat (first | exact Drawn0.refl _ | apply Drawn0.step)⟩
        · rw [if_neg c7] at H
          exact absurd H (by simp)
      · rw [if_neg c6] at H
        have c6b0 : decide (0 ≤ a2) = false := decide_eq_false c6
        clear c6
        obtain rfl := Option.some.inj H
        go_enter Tryd.func93, Tryd.ntmps93
        go_wp2
        go_ret
        exact ⟨by first | rfl | (simp; done) | (simp [*]; done), by repeat (first | exact Drawn0.refl _ | apply Drawn0.step)⟩
    · rw [if_neg c5] at H
      have c5b0 : decide (a1 < (l0.length : Int)) = false := decide_eq_false c5
      clear c5
      obtain rfl := Option.some.inj H
      go_enter Tryd.func93, Tryd.ntmps93
      go_wp2
      go_ret
      exact ⟨by first | rfl | (simp; done) | (simp [*]; done), by repeat (first | exact Drawn0.refl _ | apply Drawn0.step)⟩
  · rw [if_neg c4] at H
    have c4b0 : decide (0 ≤ a1) = false := decide_eq_false c4
    clear c4
    obtain rfl := Option.some.inj H
    go_enter Tryd.func93, Tryd.ntmps93
    go_wp2
    go_ret
    exact ⟨by first | rfl | (simp; done) | (simp [*]; done), by repeat (first | exact Drawn0.refl _ | apply Drawn0.step)⟩

/-! ### shoringref19_Fits: function 43 -/
def shoringref19_Fits.j0 : Nat → Int → Bool → Int → Int → Int → Int → Option (Int)
  | 0, _, _, _, _, _, _ => none
  | k + 1, x2, x37, x123000, x123001, x123002, x123003 => if x37 = true then (some 2) else (if x123000 = 2 then (if x123002 > x2 then (some 7) else (some 0)) else (some 0))
def shoringref19_Fits.f (k : Nat) (l0 : List (S88)) (l1 : List (S80)) (a2 : Int) (a3 : Int) (a4_0 : Int) (a4_1 : Int) (a4_2 : Int) (a4_3 : Int) : Option (Int) := (shoringref16_May.f k a4_0 a4_1 a4_2 a4_3).bind fun t123 => (if t123 = true then (if 0 ≤ a2 then (if a2 < (l1.length : Int) then ((shoringref13_Ptr.f k l0 ((rd_T80 l1 a2).f0) a3).bind fun t125 => (if (t125 == (a4_0 == 1)) = true then (some 5) else (if a4_0 = 2 then ((shoringref19_has.f l1 a4_2 a4_3).bind fun t126 => (shoringref19_Fits.j0 k a2 (!t126) a4_0 a4_1 a4_2 a4_3)) else (shoringref19_Fits.j0 k a2 false a4_0 a4_1 a4_2 a4_3)))) else (none)) else (none)) else (some 1))
theorem shoringref19_Fits.mono_l : ∀ k, (∀ y0 y1 y2 y3 y4 y5, LeO (shoringref19_Fits.j0 k y0 y1 y2 y3 y4 y5) (shoringref19_Fits.j0 (k + 1) y0 y1 y2 y3 y4 y5))
  | 0 => fun _ _ _ _ _ _ r h => by simp [shoringref19_Fits.j0] at h
  | k + 1 => by
    have ih0 := shoringref19_Fits.mono_l k
    · intro y0 y1 y2 y3 y4 y5
      unfold shoringref19_Fits.j0
      repeat' first
      | (with_reducible exact ih0 _ _ _ _ _ _)
      | (with_reducible exact shoringref13_Ptr.mono _ _ _ _)
      | (with_reducible exact shoringref16_May.mono _ _ _ _ _)
      | (with_reducible exact LeO.refl _)
      | (with_reducible exact LeO.none _)
      | (with_reducible refine LeO.ite ?_ ?_)
      | (with_reducible refine LeO.bind ?_ (fun _ => ?_))
      | exact ih0 _ _ _ _ _ _
      | exact shoringref13_Ptr.mono _ _ _ _
      | exact shoringref16_May.mono _ _ _ _ _
      | exact LeO.none _
      | refine LeO.ite ?_ ?_
      | refine LeO.bind ?_ (fun _ => ?_)
theorem shoringref19_Fits.mono : ∀ a0 a1 a2 a3 a4 a5 a6 a7 k, LeO (shoringref19_Fits.f k a0 a1 a2 a3 a4 a5 a6 a7) (shoringref19_Fits.f (k + 1) a0 a1 a2 a3 a4 a5 a6 a7) := by
  intro a0 a1 a2 a3 a4 a5 a6 a7 k
  have ih0 := shoringref19_Fits.mono_l k
  unfold shoringref19_Fits.f
  repeat' first
      | (with_reducible exact ih0 _ _ _ _ _ _)
      | (with_reducible exact shoringref13_Ptr.mono _ _ _ _)
      | (with_reducible exact shoringref16_May.mono _ _ _ _ _)
      | (with_reducible exact LeO.refl _)
      | (with_reducible exact LeO.none _)
      | (with_reducible refine LeO.ite ?_ ?_)
      | (with_reducible refine LeO.bind ?_ (fun _ => ?_))
      | exact ih0 _ _ _ _ _ _
      | exact shoringref13_Ptr.mono _ _ _ _
      | exact shoringref16_May.mono _ _ _ _ _
      | exact LeO.none _
      | refine LeO.ite ?_ ?_
      | refine LeO.bind ?_ (fun _ => ?_)
set_option maxHeartbeats 8000000 in
set_option maxRecDepth 100000 in
theorem shoringref19_Fits.calls (k : Nat) (A0 : Option Addr) (c0 : Nat) (l0 : List (S88)) (A1 : Option Addr) (c1 : Nat) (l1 : List (S80)) (a2 : Int) (a3 : Int) (a4_0 : Int) (a4_1 : Int) (a4_2 : Int) (a4_3 : Int) (r : Int) (w : World) (hr0 : Kd.C k88 w A0 l0.length l0) (hc0 : l0.length ≤ c0) (hr1 : Kd.C k80 w A1 l1.length l1) (hc1 : l1.length ≤ c1) (h : shoringref19_Fits.f k l0 l1 a2 a3 a4_0 a4_1 a4_2 a4_3 = some r) :
    Calls Tryd.prog 43 #[.slice A0 l0.length c0, .slice A1 l1.length c1, .int .i64 a2, .int .i64 a3, .agg #[.int .u8 a4_0, .int .u64 a4_1, .int .i64 a4_2, .int .i64 a4_3]] w fun e w' => e = .returned (.int .i64 r) ∧ Below w.heap.size w w' := by
  have hu26 := Tryd.underlying26
  have HR0 := Aside0.mk hr0
  have HC0 := Aside0.mk hc0
  clear hr0 hc0
  have HR1 := Aside0.mk hr1
  have HC1 := Aside0.mk hc1
  clear hr1 hc1
  have HB := Aside0.mk (Below.refl w.heap.size w)
  have H : ((shoringref16_May.f k a4_0 a4_1 a4_2 a4_3).bind fun t123 => (if t123 = true then (if 0 ≤ a2 then (if a2 < (l1.length : Int) then ((shoringref13_Ptr.f k l0 ((rd_T80 l1 a2).f0) a3).bind fun t125 => (if (t125 == (a4_0 == 1)) = true then (some 5) else (if a4_0 = 2 then ((shoringref19_has.f l1 a4_2 a4_3).bind fun t126 => (shoringref19_Fits.j0 k a2 (!t126) a4_0 a4_1 a4_2 a4_3)) else (shoringref19_Fits.j0 k a2 false a4_0 a4_1 a4_2 a4_3)))) else (none)) else (none)) else (some 1))) = some r := h
  clear h
  replace H := Option.bind_eq_some_iff.mp H
  obtain ⟨t123, A60, H⟩ := H
  replace H : (if t123 = true then (if 0 ≤ a2 then (if a2 < (l1.length : Int) then ((shoringref13_Ptr.f k l0 ((rd_T80 l1 a2).f0) a3).bind fun t125 => (if (t125 == (a4_0 == 1)) = true then (some 5) else (if a4_0 = 2 then ((shoringref19_has.f l1 a4_2 a4_3).bind fun t126 => (shoringref19_Fits.j0 k a2 (!t126) a4_0 a4_1 a4_2 a4_3)) else (shoringref19_Fits.j0 k a2 false a4_0 a4_1 a4_2 a4_3)))) else (none)) else (none)) else (some 1)) = some r := H
  have A6 := Aside0.mk A60
  clear A60
  by_cases c7 : t123 = true
  · subst c7
    have H1 : (if 0 ≤ a2 then (if a2 < (l1.length : Int) then ((shoringref13_Ptr.f k l0 ((rd_T80 l1 a2).f0) a3).bind fun t125 => (if (t125 == (a4_0 == 1)) = true then (some 5) else (if a4_0 = 2 then ((shoringref19_has.f l1 a4_2 a4_3).bind fun t126 => (shoringref19_Fits.j0 k a2 (!t126) a4_0 a4_1 a4_2 a4_3)) else (shoringref19_Fits.j0 k a2 false a4_0 a4_1 a4_2 a4_3)))) else (none)) else (none)) = some r := by rw [if_pos rfl] at H; exact H
    clear H
    have H := H1
    clear H1
    by_cases c8 : 0 ≤ a2
    · rw [if_pos c8] at H
      have c8b0 : decide (0 ≤ a2) = true := decide_eq_true c8
      clear c8
      by_cases c9 : a2 < (l1.length : Int)
      · rw [if_pos c9] at H
        have c9b0 : decide (a2 < (l1.length : Int)) = true := decide_eq_true c9
        clear c9
        replace H := Option.bind_eq_some_iff.mp H
        obtain ⟨t125, A100, H⟩ := H
        replace H : (if (t125 == (a4_0 == 1)) = true then (some 5) else (if a4_0 = 2 then ((shoringref19_has.f l1 a4_2 a4_3).bind fun t126 => (shoringref19_Fits.j0 k a2 (!t126) a4_0 a4_1 a4_2 a4_3)) else (shoringref19_Fits.j0 k a2 false a4_0 a4_1 a4_2 a4_3))) = some r := H
        have A10 := Aside0.mk A100
        clear A100
        by_cases c11 : (t125 == (a4_0 == 1)) = true
        · rw [if_pos c11] at H
          have c11b0 : (t125 == (a4_0 == 1)) = true := c11
          (try (have c11b1 : decide (t125 = (a4_0 == 1)) = true := by simpa using c11))
          (try (have c11b2 : (t125 == (a4_0 == 1)) = true := by simpa using c11))
          clear c11
          obtain rfl := Option.some.inj H
          go_enter Tryd.func43, Tryd.ntmps43
          go_wp2_with (first | ((with_reducible refine gate_dst (N := 9) rfl ?_); refine box_event ?hg (N := 9) ?hd (cs := #[.int .u8 a4_0, .int .u64 a4_1, .int .i64 a4_2, .int .i64 a4_3]) (t := 26) ?hr ?_; (case hd => rfl); (case hg => rfl); (case hr => first | (go_simp; done) | (go_simp; rfl)); intro gb122 hg w12 hbox hb; have n0_ := Aside0.mk (below_step (by repeat (first | (with_reducible first | exact HB.out | apply below_alloc | apply pw_below_drewN | apply below_drew1) | exact HB.out)) hb); have n1_ := Aside0.mk (hbox); have n2_ := Aside0.mk ((by rw [hg]; exact (below_size (by repeat (first | (with_reducible first | exact HB.out | apply below_alloc | apply pw_below_drewN | apply below_drew1) | exact HB.out))) : w.heap.size ≤ gb122)); have n3_ := Aside0.mk ((by rw [hg]; exact (below_size (by repeat (first | (with_reducible first | exact HB.out | apply below_alloc | apply pw_below_drewN | apply below_drew1) | exact HB.out))) : w.heap.size ≤ gb122)); clear HB; have HB := n0_; have BK122 := n1_; have GW122 := n2_; have GE122 := n3_; clear n0_ n1_ n2_ n3_; clear hb hbox hg; have hcz13_0 : w12.cell? ⟨gb122, 0, none⟩ = some (.int .u8 a4_0) := (blk_cell BK122.out 0).trans rfl; have hcz13_1 : w12.cell? ⟨gb122, 1, none⟩ = some (.int .u64 a4_1) := (blk_cell BK122.out 1).trans rfl; have hcz13_2 : w12.cell? ⟨gb122, 2, none⟩ = some (.int .i64 a4_2) := (blk_cell BK122.out 2).trans rfl; have hcz13_3 : w12.cell? ⟨gb122, 3, none⟩ = some (.int .i64 a4_3) := (blk_cell BK122.out 3).trans rfl; have hfz13_0 := blk_frozen BK122.out 0; have hfz13_1 := blk_frozen BK122.out 1; have hfz13_2 := blk_frozen BK122.out 2; have hfz13_3 := blk_frozen BK122.out 3) | (go_at_call 91; (with_reducible refine (shoringref16_May.calls k a4_0 a4_1 a4_2 a4_3 true _ A6.out).mono ?_); rintro e w14 ⟨rfl, hb⟩; have n0_ := Aside0.mk (blk_below (g := gb122) (o := .cells #[.int .u8 a4_0, .int .u64 a4_1, .int .i64 a4_2, .int .i64 a4_3] 26 (0, 0)) (by (with_reducible repeat (first | refine blk_drewN ?_ _ | refine blk_drew ?_ | refine blk_alloc ?_ _)); exact BK122.out) hb); have n1_ := Aside0.mk (below_step (by repeat (first | (with_reducible first | exact HB.out | apply below_alloc | apply pw_below_drewN | apply below_drew1 | refine below_set ?_ GE122.out) | exact HB.out)) hb); clear BK122; clear HB; have BK122 := n0_; have HB := n1_; clear n0_ n1_; (try clear hb); (try clear hb2); (try clear hk); (try clear hi); have p124 : 0 ≤ (a2 : Int) := of_decide_eq_true (by first | (with_reducible assumption) | assumption); have q124 : a2 < (l1.length : Int) := of_decide_eq_true (by first | (with_reducible assumption) | assumption); obtain ⟨ad124, A124_1, c124_1, e124, hx124_0, hx124_1, hl124_1, hi124_1⟩ := at_T80 HR1.out a2 p124 q124; cases e124; replace hx124_0 := (HB.out.cell (World.block_lt_of_cell? w _ hx124_0)).trans hx124_0; replace hx124_1 := (HB.out.cell (World.block_lt_of_cell? w _ hx124_1)).trans hx124_1; have HR124_1 := Aside0.mk hi124_1; have HC124_1 := Aside0.mk hl124_1; clear hi124_1 hl124_1; replace p124 := eq_true p124; replace q124 := eq_true q124) | (go_at_call 92; (with_reducible refine (shoringref13_Ptr.calls k _ _ l0 ((rd_T80 l1 a2).f0) a3 t125 _ ?side1 ?side2 A10.out).mono ?_); (case side1 => repeat (first | exact (Kd.C_below HR0.out HB.out) | (with_reducible refine Kd.C_alloc ?_ _) | (with_reducible refine Kd.C_drewN ?_ _) | (with_reducible refine Kd.C_drew ?_))); (case side2 => exact HC0.out); rintro e w' ⟨rfl, ⟨nd, rfl⟩⟩; (try first | exact ⟨rfl, _, World.drewN_drewN _ _ _⟩ | exact ⟨rfl, _, Eq.trans (World.drewN_drewN _ _ _) (congrArg (World.drewN _) (Nat.add_assoc _ _ _))⟩); have hcz15_0 : w14.cell? ⟨gb122, 0, none⟩ = some (.int .u8 a4_0) := (blk_cell BK122.out 0).trans rfl; have hcz15_1 : w14.cell? ⟨gb122, 1, none⟩ = some (.int .u64 a4_1) := (blk_cell BK122.out 1).trans rfl; have hcz15_2 : w14.cell? ⟨gb122, 2, none⟩ = some (.int .i64 a4_2) := (blk_cell BK122.out 2).trans rfl; have hcz15_3 : w14.cell? ⟨gb122, 3, none⟩ = some (.int .i64 a4_3) := (blk_cell BK122.out 3).trans rfl; have hfz15_0 := blk_frozen BK122.out 0; have hfz15_1 := blk_frozen BK122.out 1; have hfz15_2 := blk_frozen BK122.out 2; have hfz15_3 := blk_frozen BK122.out 3))
          repeat (go_quiet (first | ((with_reducible refine gate_dst (N := 9) rfl ?_); refine box_event ?hg (N := 9) ?hd (cs := #[.int .u8 a4_0, .int .u64 a4_1, .int .i64 a4_2, .int .i64 a4_3]) (t := 26) ?hr ?_; (case hd => rfl); (case hg => rfl); (case hr => first | (go_simp; done) | (go_simp; rfl)); intro gb122 hg w12 hbox hb; have n0_ := Aside0.mk (below_step (by repeat (first | (with_reducible first | exact HB.out | apply below_alloc | apply pw_below_drewN | apply below_drew1) | exact HB.out)) hb); have n1_ := Aside0.mk (hbox); have n2_ := Aside0.mk ((by rw [hg]; exact (below_size (by repeat (first | (with_reducible first | exact HB.out | apply below_alloc | apply pw_below_drewN | apply below_drew1) | exact HB.out))) : w.heap.size ≤ gb122)); have n3_ := Aside0.mk ((by rw [hg]; exact (below_size (by repeat (first | (with_reducible first | exact HB.out | apply below_alloc | apply pw_below_drewN | apply below_drew1) | exact HB.out))) : w.heap.size ≤ gb122)); clear HB; have HB := n0_; have BK122 := n1_; have GW122 := n2_; have GE122 := n3_; clear n0_ n1_ n2_ n3_; clear hb hbox hg; have hcz13_0 : w12.cell? ⟨gb122, 0, none⟩ = some (.int .u8 a4_0) := (blk_cell BK122.out 0).trans rfl; have hcz13_1 : w12.cell? ⟨gb122, 1, none⟩ = some (.int .u64 a4_1) := (blk_cell BK122.out 1).trans rfl; have hcz13_2 : w12.cell? ⟨gb122, 2, none⟩ = some (.int .i64 a4_2) := (blk_cell BK122.out 2).trans rfl; have hcz13_3 : w12.cell? ⟨gb122, 3, none⟩ = some (.int .i64 a4_3) := (blk_cell BK122.out 3).trans rfl; have hfz13_0 := blk_frozen BK122.out 0; have hfz13_1 := blk_frozen BK122.out 1; have hfz13_2 := blk_frozen BK122.out 2; have hfz13_3 := blk_frozen BK122.out 3) | (go_at_call 91; (with_reducible refine (shoringref16_May.calls k a4_0 a4_1 a4_2 a4_3 true _ A6.out).mono ?_); rintro e w14 ⟨rfl, hb⟩; have n0_ := Aside0.mk (blk_below (g := gb122) (o := .cells #[.int .u8 a4_0, .int .u64 a4_1, .int .i64 a4_2, .int .i64 a4_3] 26 (0, 0)) (by (with_reducible repeat (first | refine blk_drewN ?_ _ | refine blk_drew ?_ | refine blk_alloc ?_ _)); exact BK122.out) hb); have n1_ := Aside0.mk (below_step (by repeat (first | (with_reducible first | exact HB.out | apply below_alloc | apply pw_below_drewN | apply below_drew1 | refine below_set ?_ GE122.out) | exact HB.out)) hb); clear BK122; clear HB; have BK122 := n0_; have HB := n1_; clear n0_ n1_; (try clear hb); (try clear hb2); (try clear hk); (try clear hi); have p124 : 0 ≤ (a2 : Int) := of_decide_eq_true (by first | (with_reducible assumption) | assumption); have q124 : a2 < (l1.length : Int) := of_decide_eq_true (by first | (with_reducible assumption) | assumption); obtain ⟨ad124, A124_1, c124_1, e124, hx124_0, hx124_1, hl124_1, hi124_1⟩ := at_T80 HR1.out a2 p124 q124; cases e124; replace hx124_0 := (HB.out.cell (World.block_lt_of_cell? w _ hx124_0)).trans hx124_0; replace hx124_1 := (HB.out.cell (World.block_lt_of_cell? w _ hx124_1)).trans hx124_1; have HR124_1 := Aside0.mk hi124_1; have HC124_1 := Aside0.mk hl124_1; clear hi124_1 hl124_1; replace p124 := eq_true p124; replace q124 := eq_true q124) | (go_at_call 92; (with_reducible refine (shoringref13_Ptr.calls k _ _ l0 ((rd_T80 l1 a2).f0) a3 t125 _ ?side1 ?side2 A10.out).mono ?_); (case side1 => repeat (first | exact (Kd.C_below HR0.out HB.out) | (with_reducible refine Kd.C_alloc ?_ _) | (with_reducible refine Kd.C_drewN ?_ _) | (with_reducible refine Kd.C_drew ?_))); (case side2 => exact HC0.out); rintro e w' ⟨rfl, ⟨nd, rfl⟩⟩; (try first | exact ⟨rfl, _, World.drewN_drewN _ _ _⟩ | exact ⟨rfl, _, Eq.trans (World.drewN_drewN _ _ _) (congrArg (World.drewN _) (Nat.add_assoc _ _ _))⟩); have hcz15_0 : w14.cell? ⟨gb122, 0, none⟩ = some (.int .u8 a4_0) := (blk_cell BK122.out 0).trans rfl; have hcz15_1 : w14.cell? ⟨gb122, 1, none⟩ = some (.int .u64 a4_1) := (blk_cell BK122.out 1).trans rfl; have hcz15_2 : w14.cell? ⟨gb122, 2, none⟩ = some (.int .i64 a4_2) := (blk_cell BK122.out 2).trans rfl; have hcz15_3 : w14.cell? ⟨gb122, 3, none⟩ = some (.int .i64 a4_3) := (blk_cell BK122.out 3).trans rfl; have hfz15_0 := blk_frozen BK122.out 0; have hfz15_1 := blk_frozen BK122.out 1; have hfz15_2 := blk_frozen BK122.out 2; have hfz15_3 := blk_frozen BK122.out 3)); try go_wp2_with (first | ((with_reducible refine gate_dst (N := 9) rfl ?_); refine box_event ?hg (N := 9) ?hd (cs := #[.int .u8 a4_0, .int .u64 a4_1, .int .i64 a4_2, .int .i64 a4_3]) (t := 26) ?hr ?_; (case hd => rfl); (case hg => rfl); (case hr => first | (go_simp; done) | (go_simp; rfl)); intro gb122 hg w12 hbox hb; have n0_ := Aside0.mk (below_step (by repeat (first | (with_reducible first | exact HB.out | apply below_alloc | apply pw_below_drewN | apply below_drew1) | exact HB.out)) hb); have n1_ := Aside0.mk (hbox); have n2_ := Aside0.mk ((by rw [hg]; exact (below_size (by repeat (first | (with_reducible first | exact HB.out | apply below_alloc | apply pw_below_drewN | apply below_drew1) | exact HB.out))) : w.heap.size ≤ gb122)); have n3_ := Aside0.mk ((by rw [hg]; exact (below_size (by repeat (first | (with_reducible first | exact HB.out | apply below_alloc | apply pw_below_drewN | apply below_drew1) | exact HB.out))) : w.heap.size ≤ gb122)); clear HB; have HB := n0_; have BK122 := n1_; have GW122 := n2_; have GE122 := n3_; clear n0_ n1_ n2_ n3_; clear hb hbox hg; have hcz13_0 : w12.cell? ⟨gb122, 0, none⟩ = some (.int .u8 a4_0) := (blk_cell BK122.out 0).trans rfl; have hcz13_1 : w12.cell? ⟨gb122, 1, none⟩ = some (.int .u64 a4_1) := (blk_cell BK122.out 1).trans rfl; have hcz13_2 : w12.cell? ⟨gb122, 2, none⟩ = some (.int .i64 a4_2) := (blk_cell BK122.out 2).trans rfl; have hcz13_3 : w12.cell? ⟨gb122, 3, none⟩ = some (.int .i64 a4_3) := (blk_cell BK122.out 3).trans rfl; have hfz13_0 := blk_frozen BK122.out 0; have hfz13_1 := blk_frozen BK122.out 1; have hfz13_2 := blk_frozen BK122.out 2; have hfz13_3 := blk_frozen BK122.out 3) | (go_at_call 91; (with_reducible refine (shoringref16_May.calls k a4_0 a4_1 a4_2 a4_3 true _ A6.out).mono ?_); rintro e w14 ⟨rfl, hb⟩; have n0_ := Aside0.mk (blk_below (g := gb122) (o := .cells #[.int .u8 a4_0, .int .u64 a4_1, .int .i64 a4_2, .int .i64 a4_3] 26 (0, 0)) (by (with_reducible repeat (first | refine blk_drewN ?_ _ | refine blk_drew ?_ | refine blk_alloc ?_ _)); exact BK122.out) hb); have n1_ := Aside0.mk (below_step (by repeat (first | (with_reducible first | exact HB.out | apply below_alloc | apply pw_below_drewN | apply below_drew1 | refine below_set ?_ GE122.out) | exact HB.out)) hb); clear BK122; clear HB; have BK122 := n0_; have HB := n1_; clear n0_ n1_; (try clear hb); (try clear hb2); (try clear hk); (try clear hi); have p124 : 0 ≤ (a2 : Int) := of_decide_eq_true (by first | (with_reducible assumption) | assumption); have q124 : a2 < (l1.length : Int) := of_decide_eq_true (by first | (with_reducible assumption) | assumption); obtain ⟨ad124, A124_1, c124_1, e124, hx124_0, hx124_1, hl124_1, hi124_1⟩ := at_T80 HR1.out a2 p124 q124; cases e124; replace hx124_0 := (HB.out.cell (World.block_lt_of_cell? w _ hx124_0)).trans hx124_0; replace hx124_1 := (HB.out.cell (World.block_lt_of_cell? w _ hx124_1)).trans hx124_1; have HR124_1 := Aside0.mk hi124_1; have HC124_1 := Aside0.mk hl124_1; clear hi124_1 hl124_1; replace p124 := eq_true p124; replace q124 := eq_true q124) | (go_at_call 92; (with_reducible refine (shoringref13_Ptr.calls k _ _ l0 ((rd_T80 l1 a2).f0) a3 t125 _ ?side1 ?side2 A10.out).mono ?_); (case side1 => repeat (first | exact (Kd.C_below HR0.out HB.out) | (with_reducible refine Kd.C_alloc ?_ _) | (with_reducible refine Kd.C_drewN ?_ _) | (with_reducible refine Kd.C_drew ?_))); (case side2 => exact HC0.out); rintro e w' ⟨rfl, ⟨nd, rfl⟩⟩; (try first | exact ⟨rfl, _, World.drewN_drewN _ _ _⟩ | exact ⟨rfl, _, Eq.trans (World.drewN_drewN _ _ _) (congrArg (World.drewN _) (Nat.add_assoc _ _ _))⟩); have hcz15_0 : w14.cell? ⟨gb122, 0, none⟩ = some (.int .u8 a4_0) := (blk_cell BK122.out 0).trans rfl; have hcz15_1 : w14.cell? ⟨gb122, 1, none⟩ = some (.int .u64 a4_1) := (blk_cell BK122.out 1).trans rfl; have hcz15_2 : w14.cell? ⟨gb122, 2, none⟩ = some (.int .i64 a4_2) := (blk_cell BK122.out 2).trans rfl; have hcz15_3 : w14.cell? ⟨gb122, 3, none⟩ = some (.int .i64 a4_3) := (blk_cell BK122.out 3).trans rfl; have hfz15_0 := blk_frozen BK122.out 0; have hfz15_1 := blk_frozen BK122.out 1; have hfz15_2 := blk_frozen BK122.out 2; have hfz15_3 := blk_frozen BK122.out 3)))
          go_ret
          exact ⟨by first | rfl | (simp [errW_none, errW_some] <;> rfl) | (simp [*, errW_none, errW_some] <;> rfl), by repeat (first | (with_reducible first | exact HB.out | apply below_alloc | apply pw_below_drewN | apply below_drew1 | refine below_set ?_ GE122.out) | exact HB.out)⟩
        · rw [if_neg c11] at H
          have c11b0 : (t125 == (a4_0 == 1)) = false := by simpa using c11
          (try (have c11b1 : decide (t125 = (a4_0 == 1)) = false := by simpa using c11))
          (try (have c11b2 : (t125 == (a4_0 == 1)) = false := by simpa using c11))
          (try (have c11b3 : ¬ (t125 = (a4_0 == 1)) := by simpa using c11))
          clear c11
          have HC16 := Aside0.mk H
          clear H
          go_enter Tryd.func43, Tryd.ntmps43
          go_upto_region 5 with (first | ((with_reducible refine gate_dst (N := 9) rfl ?_); refine box_event ?hg (N := 9) ?hd (cs := #[.int .u8 a4_0, .int .u64 a4_1, .int .i64 a4_2, .int .i64 a4_3]) (t := 26) ?hr ?_; (case hd => rfl); (case hg => rfl); (case hr => first | (go_simp; done) | (go_simp; rfl)); intro gb122 hg w17 hbox hb; have n0_ := Aside0.mk (below_step (by repeat (first | (with_reducible first | exact HB.out | apply below_alloc | apply pw_below_drewN | apply below_drew1) | exact HB.out)) hb); have n1_ := Aside0.mk (hbox); have n2_ := Aside0.mk ((by rw [hg]; exact (below_size (by repeat (first | (with_reducible first | exact HB.out | apply below_alloc | apply pw_below_drewN | apply below_drew1) | exact HB.out))) : w.heap.size ≤ gb122)); have n3_ := Aside0.mk ((by rw [hg]; exact (below_size (by repeat (first | (with_reducible first | exact HB.out | apply below_alloc | apply pw_below_drewN | apply below_drew1) | exact HB.out))) : w.heap.size ≤ gb122)); clear HB; have HB := n0_; have BK122 := n1_; have GW122 := n2_; have GE122 := n3_; clear n0_ n1_ n2_ n3_; clear hb hbox hg; have hcz18_0 : w17.cell? ⟨gb122, 0, none⟩ = some (.int .u8 a4_0) := (blk_cell BK122.out 0).trans rfl; have hcz18_1 : w17.cell? ⟨gb122, 1, none⟩ = some (.int .u64 a4_1) := (blk_cell BK122.out 1).trans rfl; have hcz18_2 : w17.cell? ⟨gb122, 2, none⟩ = some (.int .i64 a4_2) := (blk_cell BK122.out 2).trans rfl; have hcz18_3 : w17.cell? ⟨gb122, 3, none⟩ = some (.int .i64 a4_3) := (blk_cell BK122.out 3).trans rfl; have hfz18_0 := blk_frozen BK122.out 0; have hfz18_1 := blk_frozen BK122.out 1; have hfz18_2 := blk_frozen BK122.out 2; have hfz18_3 := blk_frozen BK122.out 3) | (go_at_call 91; (with_reducible refine (shoringref16_May.calls k a4_0 a4_1 a4_2 a4_3 true _ A6.out).mono ?_); rintro e w19 ⟨rfl, hb⟩; have n0_ := Aside0.mk (blk_below (g := gb122) (o := .cells #[.int .u8 a4_0, .int .u64 a4_1, .int .i64 a4_2, .int .i64 a4_3] 26 (0, 0)) (by (with_reducible repeat (first | refine blk_drewN ?_ _ | refine blk_drew ?_ | refine blk_alloc ?_ _)); exact BK122.out) hb); have n1_ := Aside0.mk (below_step (by repeat (first | (with_reducible first | exact HB.out | apply below_alloc | apply pw_below_drewN | apply below_drew1 | refine below_set ?_ GE122.out) | exact HB.out)) hb); clear BK122; clear HB; have BK122 := n0_; have HB := n1_; clear n0_ n1_; (try clear hb); (try clear hb2); (try clear hk); (try clear hi); have p124 : 0 ≤ (a2 : Int) := of_decide_eq_true (by first | (with_reducible assumption) | assumption); have q124 : a2 < (l1.length : Int) := of_decide_eq_true (by first | (with_reducible assumption) | assumption); obtain ⟨ad124, A124_1, c124_1, e124, hx124_0, hx124_1, hl124_1, hi124_1⟩ := at_T80 HR1.out a2 p124 q124; cases e124; replace hx124_0 := (HB.out.cell (World.block_lt_of_cell? w _ hx124_0)).trans hx124_0; replace hx124_1 := (HB.out.cell (World.block_lt_of_cell? w _ hx124_1)).trans hx124_1; have HR124_1 := Aside0.mk hi124_1; have HC124_1 := Aside0.mk hl124_1; clear hi124_1 hl124_1; replace p124 := eq_true p124; replace q124 := eq_true q124) | (go_at_call 92; (with_reducible refine (shoringref13_Ptr.calls k _ _ l0 ((rd_T80 l1 a2).f0) a3 t125 _ ?side1 ?side2 A10.out).mono ?_); (case side1 => repeat (first | exact (Kd.C_below HR0.out HB.out) | (with_reducible refine Kd.C_alloc ?_ _) | (with_reducible refine Kd.C_drewN ?_ _) | (with_reducible refine Kd.C_drew ?_))); (case side2 => exact HC0.out); rintro e w' ⟨rfl, ⟨nd, rfl⟩⟩; (try first | exact ⟨rfl, _, World.drewN_drewN _ _ _⟩ | exact ⟨rfl, _, Eq.trans (World.drewN_drewN _ _ _) (congrArg (World.drewN _) (Nat.add_assoc _ _ _))⟩); have hcz20_0 : w19.cell? ⟨gb122, 0, none⟩ = some (.int .u8 a4_0) := (blk_cell BK122.out 0).trans rfl; have hcz20_1 : w19.cell? ⟨gb122, 1, none⟩ = some (.int .u64 a4_1) := (blk_cell BK122.out 1).trans rfl; have hcz20_2 : w19.cell? ⟨gb122, 2, none⟩ = some (.int .i64 a4_2) := (blk_cell BK122.out 2).trans rfl; have hcz20_3 : w19.cell? ⟨gb122, 3, none⟩ = some (.int .i64 a4_3) := (blk_cell BK122.out 3).trans rfl; have hfz20_0 := blk_frozen BK122.out 0; have hfz20_1 := blk_frozen BK122.out 1; have hfz20_2 := blk_frozen BK122.out 2; have hfz20_3 := blk_frozen BK122.out 3))
          repeat (go_quiet (first | ((with_reducible refine gate_dst (N := 9) rfl ?_); refine box_event ?hg (N := 9) ?hd (cs := #[.int .u8 a4_0, .int .u64 a4_1, .int .i64 a4_2, .int .i64 a4_3]) (t := 26) ?hr ?_; (case hd => rfl); (case hg => rfl); (case hr => first | (go_simp; done) | (go_simp; rfl)); intro gb122 hg w17 hbox hb; have n0_ := Aside0.mk (below_step (by repeat (first | (with_reducible first | exact HB.out | apply below_alloc | apply pw_below_drewN | apply below_drew1) | exact HB.out)) hb); have n1_ := Aside0.mk (hbox); have n2_ := Aside0.mk ((by rw [hg]; exact (below_size (by repeat (first | (with_reducible first | exact HB.out | apply below_alloc | apply pw_below_drewN | apply below_drew1) | exact HB.out))) : w.heap.size ≤ gb122)); have n3_ := Aside0.mk ((by rw [hg]; exact (below_size (by repeat (first | (with_reducible first | exact HB.out | apply below_alloc | apply pw_below_drewN | apply below_drew1) | exact HB.out))) : w.heap.size ≤ gb122)); clear HB; have HB := n0_; have BK122 := n1_; have GW122 := n2_; have GE122 := n3_; clear n0_ n1_ n2_ n3_; clear hb hbox hg; have hcz18_0 : w17.cell? ⟨gb122, 0, none⟩ = some (.int .u8 a4_0) := (blk_cell BK122.out 0).trans rfl; have hcz18_1 : w17.cell? ⟨gb122, 1, none⟩ = some (.int .u64 a4_1) := (blk_cell BK122.out 1).trans rfl; have hcz18_2 : w17.cell? ⟨gb122, 2, none⟩ = some (.int .i64 a4_2) := (blk_cell BK122.out 2).trans rfl; have hcz18_3 : w17.cell? ⟨gb122, 3, none⟩ = some (.int .i64 a4_3) := (blk_cell BK122.out 3).trans rfl; have hfz18_0 := blk_frozen BK122.out 0; have hfz18_1 := blk_frozen BK122.out 1; have hfz18_2 := blk_frozen BK122.out 2; have hfz18_3 := blk_frozen BK122.out 3) | (go_at_call 91; (with_reducible refine (shoringref16_May.calls k a4_0 a4_1 a4_2 a4_3 true _ A6.out).mono ?_); rintro e w19 ⟨rfl, hb⟩; have n0_ := Aside0.mk (blk_below (g := gb122) (o := .cells #[.int .u8 a4_0, .int .u64 a4_1, .int .i64 a4_2, .int .i64 a4_3] 26 (0, 0)) (by (with_reducible repeat (first | refine blk_drewN ?_ _ | refine blk_drew ?_ | refine blk_alloc ?_ _)); exact BK122.out) hb); have n1_ := Aside0.mk (below_step (by repeat (first | (with_reducible first | exact HB.out | apply below_alloc | apply pw_below_drewN | apply below_drew1 | refine below_set ?_ GE122.out) | exact HB.out)) hb); clear BK122; clear HB; have BK122 := n0_; have HB := n1_; clear n0_ n1_; (try clear hb); (try clear hb2); (try clear hk); (try clear hi); have p124 : 0 ≤ (a2 : Int) := of_decide_eq_true (by first | (with_reducible assumption) | assumption); have q124 : a2 < (l1.length : Int) := of_decide_eq_true (by first | (with_reducible assumption) | assumption); obtain ⟨ad124, A124_1, c124_1, e124, hx124_0, hx124_1, hl124_1, hi124_1⟩ := at_T80 HR1.out a2 p124 q124; cases e124; replace hx124_0 := (HB.out.cell (World.block_lt_of_cell? w _ hx124_0)).trans hx124_0; replace hx124_1 := (HB.out.cell (World.block_lt_of_cell? w _ hx124_1)).trans hx124_1; have HR124_1 := Aside0.mk hi124_1; have HC124_1 := Aside0.mk hl124_1; clear hi124_1 hl124_1; replace p124 := eq_true p124; replace q124 := eq_true q124) | (go_at_call 92; (with_reducible refine (shoringref13_Ptr.calls k _ _ l0 ((rd_T80 l1 a2).f0) a3 t125 _ ?side1 ?side2 A10.out).mono ?_); (case side1 => repeat (first | exact (Kd.C_below HR0.out HB.out) | (with_reducible refine Kd.C_alloc ?_ _) | (with_reducible refine Kd.C_drewN ?_ _) | (with_reducible refine Kd.C_drew ?_))); (case side2 => exact HC0.out); rintro e w' ⟨rfl, ⟨nd, rfl⟩⟩; (try first | exact ⟨rfl, _, World.drewN_drewN _ _ _⟩ | exact ⟨rfl, _, Eq.trans (World.drewN_drewN _ _ _) (congrArg (World.drewN _) (Nat.add_assoc _ _ _))⟩); have hcz20_0 : w19.cell? ⟨gb122, 0, none⟩ = some (.int .u8 a4_0) := (blk_cell BK122.out 0).trans rfl; have hcz20_1 : w19.cell? ⟨gb122, 1, none⟩ = some (.int .u64 a4_1) := (blk_cell BK122.out 1).trans rfl; have hcz20_2 : w19.cell? ⟨gb122, 2, none⟩ = some (.int .i64 a4_2) := (blk_cell BK122.out 2).trans rfl; have hcz20_3 : w19.cell? ⟨gb122, 3, none⟩ = some (.int .i64 a4_3) := (blk_cell BK122.out 3).trans rfl; have hfz20_0 := blk_frozen BK122.out 0; have hfz20_1 := blk_frozen BK122.out 1; have hfz20_2 := blk_frozen BK122.out 2; have hfz20_3 := blk_frozen BK122.out 3)); go_upto_region 5 with (first | ((with_reducible refine gate_dst (N := 9) rfl ?_); refine box_event ?hg (N := 9) ?hd (cs := #[.int .u8 a4_0, .int .u64 a4_1, .int .i64 a4_2, .int .i64 a4_3]) (t := 26) ?hr ?_; (case hd => rfl); (case hg => rfl); (case hr => first | (go_simp; done) | (go_simp; rfl)); intro gb122 hg w17 hbox hb; have n0_ := Aside0.mk (below_step (by repeat (first | (with_reducible first | exact HB.out | apply below_alloc | apply pw_below_drewN | apply below_drew1) | exact HB.out)) hb); have n1_ := Aside0.mk (hbox); have n2_ := Aside0.mk ((by rw [hg]; exact (below_size (by repeat (first | (with_reducible first | exact HB.out | apply below_alloc | apply pw_below_drewN | apply below_drew1) | exact HB.out))) : w.heap.size ≤ gb122)); have n3_ := Aside0.mk ((by rw [hg]; exact (below_size (by repeat (first | (with_reducible first | exact HB.out | apply below_alloc | apply pw_below_drewN | apply below_drew1) | exact HB.out))) : w.heap.size ≤ gb122)); clear HB; have HB := n0_; have BK122 := n1_; have GW122 := n2_; have GE122 := n3_; clear n0_ n1_ n2_ n3_; clear hb hbox hg; have hcz18_0 : w17.cell? ⟨gb122, 0, none⟩ = some (.int .u8 a4_0) := (blk_cell BK122.out 0).trans rfl; have hcz18_1 : w17.cell? ⟨gb122, 1, none⟩ = some (.int .u64 a4_1) := (blk_cell BK122.out 1).trans rfl; have hcz18_2 : w17.cell? ⟨gb122, 2, none⟩ = some (.int .i64 a4_2) := (blk_cell BK122.out 2).trans rfl; have hcz18_3 : w17.cell? ⟨gb122, 3, none⟩ = some (.int .i64 a4_3) := (blk_cell BK122.out 3).trans rfl; have hfz18_0 := blk_frozen BK122.out 0; have hfz18_1 := blk_frozen BK122.out 1; have hfz18_2 := blk_frozen BK122.out 2; have hfz18_3 := blk_frozen BK122.out 3) | (go_at_call 91; (with_reducible refine (shoringref16_May.calls k a4_0 a4_1 a4_2 a4_3 true _ A6.out).mono ?_); rintro e w19 ⟨rfl, hb⟩; have n0_ := Aside0.mk (blk_below (g := gb122) (o := .cells #[.int .u8 a4_0, .int .u64 a4_1, .int .i64 a4_2, .int .i64 a4_3] 26 (0, 0)) (by (with_reducible repeat (first | refine blk_drewN ?_ _ | refine blk_drew ?_ | refine blk_alloc ?_ _)); exact BK122.out) hb); have n1_ := Aside0.mk (below_step (by repeat (first | (with_reducible first | exact HB.out | apply below_alloc | apply pw_below_drewN | apply below_drew1 | refine below_set ?_ GE122.out) | exact HB.out)) hb); clear BK122; clear HB; have BK122 := n0_; have HB := n1_; clear n0_ n1_; (try clear hb); (try clear hb2); (try clear hk); (try clear hi); have p124 : 0 ≤ (a2 : Int) := of_decide_eq_true (by first | (with_reducible assumption) | assumption); have q124 : a2 < (l1.length : Int) := of_decide_eq_true (by first | (with_reducible assumption) | assumption); obtain ⟨ad124, A124_1, c124_1, e124, hx124_0, hx124_1, hl124_1, hi124_1⟩ := at_T80 HR1.out a2 p124 q124; cases e124; replace hx124_0 := (HB.out.cell (World.block_lt_of_cell? w _ hx124_0)).trans hx124_0; replace hx124_1 := (HB.out.cell (World.block_lt_of_cell? w _ hx124_1)).trans hx124_1; have HR124_1 := Aside0.mk hi124_1; have HC124_1 := Aside0.mk hl124_1; clear hi124_1 hl124_1; replace p124 := eq_true p124; replace q124 := eq_true q124) | (go_at_call 92; (with_reducible refine (shoringref13_Ptr.calls k _ _ l0 ((rd_T80 l1 a2).f0) a3 t125 _ ?side1 ?side2 A10.out).mono ?_); (case side1 => repeat (first | exact (Kd.C_below HR0.out HB.out) | (with_reducible refine Kd.C_alloc ?_ _) | (with_reducible refine Kd.C_drewN ?_ _) | (with_reducible refine Kd.C_drew ?_))); (case side2 => exact HC0.out); rintro e w' ⟨rfl, ⟨nd, rfl⟩⟩; (try first | exact ⟨rfl, _, World.drewN_drewN _ _ _⟩ | exact ⟨rfl, _, Eq.trans (World.drewN_drewN _ _ _) (congrArg (World.drewN _) (Nat.add_assoc _ _ _))⟩); have hcz20_0 : w19.cell? ⟨gb122, 0, none⟩ = some (.int .u8 a4_0) := (blk_cell BK122.out 0).trans rfl; have hcz20_1 : w19.cell? ⟨gb122, 1, none⟩ = some (.int .u64 a4_1) := (blk_cell BK122.out 1).trans rfl; have hcz20_2 : w19.cell? ⟨gb122, 2, none⟩ = some (.int .i64 a4_2) := (blk_cell BK122.out 2).trans rfl; have hcz20_3 : w19.cell? ⟨gb122, 3, none⟩ = some (.int .i64 a4_3) := (blk_cell BK122.out 3).trans rfl; have hfz20_0 := blk_frozen BK122.out 0; have hfz20_1 := blk_frozen BK122.out 1; have hfz20_2 := blk_frozen BK122.out 2; have hfz20_3 := blk_frozen BK122.out 3)))
          (try simp only [Act.put, List.setIfInBounds_toArray, List.set_cons_zero, List.set_cons_succ])
          go_cut [37] (fun v37 wc => ∃ (kq : Nat) (x37_15 : Bool), v37 = .bool x37_15 ∧ Aside0 (shoringref19_Fits.j0 kq a2 x37_15 a4_0 a4_1 a4_2 a4_3 = some r) ∧ Aside0 (kq ≤ k) ∧ Aside0 (wc.heap[gb122]? = some (.cells #[.int .u8 a4_0, .int .u64 a4_1, .int .i64 a4_2, .int .i64 a4_3] 26 (0, 0))) ∧ Aside0 (Below w.heap.size w wc))
          case first =>
            have H := HC16.out
            clear HC16
            by_cases c21 : a4_0 = 2
            · rw [if_pos c21] at H
              have c21b0 : (a4_0 == 2) = true := beq_iff_eq.mpr c21
              have c21b1 : (a4_0 != 2) = false := bne_eq_false_iff_eq.mpr c21
              clear c21
              (first | rw [c21b0] | (simp only [i64_w, i32_w]; rw [c21b0]) | skip)
              replace H := Option.bind_eq_some_iff.mp H
              obtain ⟨t126, A220, H⟩ := H
              replace H : (shoringref19_Fits.j0 k a2 (!t126) a4_0 a4_1 a4_2 a4_3) = some r := H
              have A22 := Aside0.mk A220
              clear A220
              have H' := Aside0.mk H
              clear H
              have hcz23_0 : w19.cell? ⟨gb122, 0, none⟩ = some (.int .u8 a4_0) := (blk_cell BK122.out 0).trans rfl
              have hcz23_1 : w19.cell? ⟨gb122, 1, none⟩ = some (.int .u64 a4_1) := (blk_cell BK122.out 1).trans rfl
              have hcz23_2 : w19.cell? ⟨gb122, 2, none⟩ = some (.int .i64 a4_2) := (blk_cell BK122.out 2).trans rfl
              have hcz23_3 : w19.cell? ⟨gb122, 3, none⟩ = some (.int .i64 a4_3) := (blk_cell BK122.out 3).trans rfl
              have hfz23_0 := blk_frozen BK122.out 0
              have hfz23_1 := blk_frozen BK122.out 1
              have hfz23_2 := blk_frozen BK122.out 2
              have hfz23_3 := blk_frozen BK122.out 3
              go_wp2_with (first | (go_at_call 93; (with_reducible refine (shoringref19_has.calls _ _ l1 a4_2 a4_3 t126 _ ?side1 ?side2 A22.out).mono ?_); (case side1 => repeat (first | exact (Kd.C_below HR1.out HB.out) | (with_reducible refine Kd.C_alloc ?_ _) | (with_reducible refine Kd.C_drewN ?_ _) | (with_reducible refine Kd.C_drew ?_))); (case side2 => exact HC1.out); rintro e w' ⟨rfl, ⟨nd, rfl⟩⟩; (try first | exact ⟨rfl, _, World.drewN_drewN _ _ _⟩ | exact ⟨rfl, _, Eq.trans (World.drewN_drewN _ _ _) (congrArg (World.drewN _) (Nat.add_assoc _ _ _))⟩)))
              repeat (go_quiet (first | (go_at_call 93; (with_reducible refine (shoringref19_has.calls _ _ l1 a4_2 a4_3 t126 _ ?side1 ?side2 A22.out).mono ?_); (case side1 => repeat (first | exact (Kd.C_below HR1.out HB.out) | (with_reducible refine Kd.C_alloc ?_ _) | (with_reducible refine Kd.C_drewN ?_ _) | (with_reducible refine Kd.C_drew ?_))); (case side2 => exact HC1.out); rintro e w' ⟨rfl, ⟨nd, rfl⟩⟩; (try first | exact ⟨rfl, _, World.drewN_drewN _ _ _⟩ | exact ⟨rfl, _, Eq.trans (World.drewN_drewN _ _ _) (congrArg (World.drewN _) (Nat.add_assoc _ _ _))⟩))); try go_wp2_with (first | (go_at_call 93; (with_reducible refine (shoringref19_has.calls _ _ l1 a4_2 a4_3 t126 _ ?side1 ?side2 A22.out).mono ?_); (case side1 => repeat (first | exact (Kd.C_below HR1.out HB.out) | (with_reducible refine Kd.C_alloc ?_ _) | (with_reducible refine Kd.C_drewN ?_ _) | (with_reducible refine Kd.C_drew ?_))); (case side2 => exact HC1.out); rintro e w' ⟨rfl, ⟨nd, rfl⟩⟩; (try first | exact ⟨rfl, _, World.drewN_drewN _ _ _⟩ | exact ⟨rfl, _, Eq.trans (World.drewN_drewN _ _ _) (congrArg (World.drewN _) (Nat.add_assoc _ _ _))⟩))))
              go_meet
              case rel => exact ⟨_, (!t126), (by first | rfl | (simp; done) | (simp [*]; done)), H', ⟨by first | omega | exact Nat.le_refl _⟩, ⟨by (with_reducible repeat (first | refine blk_drewN ?_ _ | refine blk_drew ?_ | refine blk_alloc ?_ _)); exact BK122.out⟩, ⟨by repeat (first | (with_reducible first | exact HB.out | apply below_alloc | apply pw_below_drewN | apply below_drew1 | refine below_set ?_ GE122.out) | exact HB.out)⟩⟩
            · rw [if_neg c21] at H
              have c21b0 : (a4_0 == 2) = false := beq_eq_false_iff_ne.mpr c21
              have c21b1 : (a4_0 != 2) = true := bne_iff_ne.mpr c21
              (first | rw [c21b0] | (simp only [i64_w, i32_w]; rw [c21b0]) | skip)
              have H' := Aside0.mk H
              clear H
              have hcz24_0 : w19.cell? ⟨gb122, 0, none⟩ = some (.int .u8 a4_0) := (blk_cell BK122.out 0).trans rfl
              have hcz24_1 : w19.cell? ⟨gb122, 1, none⟩ = some (.int .u64 a4_1) := (blk_cell BK122.out 1).trans rfl
              have hcz24_2 : w19.cell? ⟨gb122, 2, none⟩ = some (.int .i64 a4_2) := (blk_cell BK122.out 2).trans rfl
              have hcz24_3 : w19.cell? ⟨gb122, 3, none⟩ = some (.int .i64 a4_3) := (blk_cell BK122.out 3).trans rfl
              have hfz24_0 := blk_frozen BK122.out 0
              have hfz24_1 := blk_frozen BK122.out 1
              have hfz24_2 := blk_frozen BK122.out 2
              have hfz24_3 := blk_frozen BK122.out 3
              go_wp2
              repeat (go_quiet (fail); try go_wp2)
              go_meet
              case rel => exact ⟨_, (false), (by first | rfl | (simp; done) | (simp [*]; done)), H', ⟨by first | omega | exact Nat.le_refl _⟩, ⟨by (with_reducible repeat (first | refine blk_drewN ?_ _ | refine blk_drew ?_ | refine blk_alloc ?_ _)); exact BK122.out⟩, ⟨by repeat (first | (with_reducible first | exact HB.out | apply below_alloc | apply pw_below_drewN | apply below_drew1 | refine below_set ?_ GE122.out) | exact HB.out)⟩⟩
          case rest =>
            clear HC16
            try clear c1
            try clear p1
            try clear q1
            try clear hx1
            try clear c2
            try clear p2
            try clear c4
            try clear c7
            try clear c8
            try clear c8b0
            try clear c9
            try clear c9b0
            try clear c11
            try clear c11b0
            try clear c11b1
            try clear c11b2
            try clear c12
            try clear p12
            try clear q12
            try clear hx12
            try clear c21
            try clear c21b0
            try clear c21b1
            try clear hcz13_0
            try clear hcz13_1
            try clear hcz13_2
            try clear hcz13_3
            try clear hcz15_0
            try clear hcz15_1
            try clear hcz15_2
            try clear hcz15_3
            try clear hcz18_0
            try clear hcz18_1
            try clear hcz18_2
            try clear hcz18_3
            try clear hcz20_0
            try clear hcz20_1
            try clear hcz20_2
            try clear hcz20_3
            try clear hcz23_0
            try clear hcz23_1
            try clear hcz23_2
            try clear hcz23_3
            try clear hcz24_0
            try clear hcz24_1
            try clear hcz24_2
            try clear hcz24_3
            try clear hfz13_0
            try clear hfz13_1
            try clear hfz13_2
            try clear hfz13_3
            try clear hfz15_0
            try clear hfz15_1
            try clear hfz15_2
            try clear hfz15_3
            try clear hfz18_0
            try clear hfz18_1
            try clear hfz18_2
            try clear hfz18_3
            try clear hfz20_0
            try clear hfz20_1
            try clear hfz20_2
            try clear hfz20_3
            try clear hfz23_0
            try clear hfz23_1
            try clear hfz23_2
            try clear hfz23_3
            try clear hfz24_0
            try clear hfz24_1
            try clear hfz24_2
            try clear hfz24_3
            try clear hx124_0
            try clear hx124_1
            try clear p124
            try clear q124
            obtain ⟨kq, x37_15, rfl, HA, HJ15, BK122, HB⟩ := hcut
            cases kq with
            | zero => exact absurd HA.out (by simp [shoringref19_Fits.j0])
            | succ kj15 =>
              have H := HA.out
              clear HA
              simp only [shoringref19_Fits.j0] at H
              by_cases c25 : x37_15 = true
              · subst c25
                have H1 : (some 2) = some r := by rw [if_pos rfl] at H; exact H
                clear H
                have H := H1
                clear H1
                obtain rfl := Option.some.inj H
                go_wp2
                repeat (go_quiet (fail); try go_wp2)
                go_ret
                exact ⟨by first | rfl | (simp [errW_none, errW_some] <;> rfl) | (simp [*, errW_none, errW_some] <;> rfl), by repeat (first | (with_reducible first | exact HB.out | apply below_alloc | apply pw_below_drewN | apply below_drew1 | refine below_set ?_ GE122.out) | exact HB.out)⟩
              · replace c25 := Bool.eq_false_iff.mpr c25
                subst c25
                have H1 : (if a4_0 = 2 then (if a4_2 > a2 then (some 7) else (some 0)) else (some 0)) = some r := by rw [if_neg (show ¬ (false = true) by decide)] at H; exact H
                clear H
                have H := H1
                clear H1
                by_cases c26 : a4_0 = 2
                · rw [if_pos c26] at H
                  have c26b0 : (a4_0 == 2) = true := beq_iff_eq.mpr c26
                  have c26b1 : (a4_0 != 2) = false := bne_eq_false_iff_eq.mpr c26
                  clear c26
                  by_cases c27 : a4_2 > a2
                  · rw [if_pos c27] at H
                    have c27b0 : decide (a2 < a4_2) = true := decide_eq_true c27
                    clear c27
                    obtain rfl := Option.some.inj H
                    have hcz28_0 : wc.cell? ⟨gb122, 0, none⟩ = some (.int .u8 a4_0) := (blk_cell BK122.out 0).trans rfl
                    have hcz28_1 : wc.cell? ⟨gb122, 1, none⟩ = some (.int .u64 a4_1) := (blk_cell BK122.out 1).trans rfl
                    have hcz28_2 : wc.cell? ⟨gb122, 2, none⟩ = some (.int .i64 a4_2) := (blk_cell BK122.out 2).trans rfl
                    have hcz28_3 : wc.cell? ⟨gb122, 3, none⟩ = some (.int .i64 a4_3) := (blk_cell BK122.out 3).trans rfl
                    have hfz28_0 := blk_frozen BK122.out 0
                    have hfz28_1 := blk_frozen BK122.out 1
                    have hfz28_2 := blk_frozen BK122.out 2
                    have hfz28_3 := blk_frozen BK122.out 3
                    go_wp2
                    repeat (go_quiet (fail); try go_wp2)
                    go_ret
                    exact ⟨by first | rfl | (simp [errW_none, errW_some] <;> rfl) | (simp [*, errW_none, errW_some] <;> rfl), by repeat (first | (with_reducible first | exact HB.out | apply below_alloc | apply pw_below_drewN | apply below_drew1 | refine below_set ?_ GE122.out) | exact HB.out)⟩
                  · rw [if_neg c27] at H
                    have c27b0 : decide (a2 < a4_2) = false := decide_eq_false c27
                    clear c27
                    obtain rfl := Option.some.inj H
                    have hcz29_0 : wc.cell? ⟨gb122, 0, none⟩ = some (.int .u8 a4_0) := (blk_cell BK122.out 0).trans rfl
                    have hcz29_1 : wc.cell? ⟨gb122, 1, none⟩ = some (.int .u64 a4_1) := (blk_cell BK122.out 1).trans rfl
                    have hcz29_2 : wc.cell? ⟨gb122, 2, none⟩ = some (.int .i64 a4_2) := (blk_cell BK122.out 2).trans rfl
                    have hcz29_3 : wc.cell? ⟨gb122, 3, none⟩ = some (.int .i64 a4_3) := (blk_cell BK122.out 3).trans rfl
                    have hfz29_0 := blk_frozen BK122.out 0
                    have hfz29_1 := blk_frozen BK122.out 1
                    have hfz29_2 := blk_frozen BK122.out 2
                    have hfz29_3 := blk_frozen BK122.out 3
                    go_wp2
                    repeat (go_quiet (fail); try go_wp2)
                    go_ret
                    exact ⟨by first | rfl | (simp [errW_none, errW_some] <;> rfl) | (simp [*, errW_none, errW_some] <;> rfl), by repeat (first | (with_reducible first | exact HB.out | apply below_alloc | apply pw_below_drewN | apply below_drew1 | refine below_set ?_ GE122.out) | exact HB.out)⟩
                · rw [if_neg c26] at H
                  have c26b0 : (a4_0 == 2) = false := beq_eq_false_iff_ne.mpr c26
                  have c26b1 : (a4_0 != 2) = true := bne_iff_ne.mpr c26
                  obtain rfl := Option.some.inj H
                  have hcz30_0 : wc.cell? ⟨gb122, 0, none⟩ = some (.int .u8 a4_0) := (blk_cell BK122.out 0).trans rfl
                  have hcz30_1 : wc.cell? ⟨gb122, 1, none⟩ = some (.int .u64 a4_1) := (blk_cell BK122.out 1).trans rfl
                  have hcz30_2 : wc.cell? ⟨gb122, 2, none⟩ = some (.int .i64 a4_2) := (blk_cell BK122.out 2).trans rfl
                  have hcz30_3 : wc.cell? ⟨gb122, 3, none⟩ = some (.int .i64 a4_3) := (blk_cell BK122.out 3).trans rfl
                  have hfz30_0 := blk_frozen BK122.out 0
                  have hfz30_1 := blk_frozen BK122.out 1
                  have hfz30_2 := blk_frozen BK122.out 2
                  have hfz30_3 := blk_frozen BK122.out 3
                  go_wp2
                  repeat (go_quiet (fail); try go_wp2)
                  go_ret
                  exact ⟨by first | rfl | (simp [errW_none, errW_some] <;> rfl) | (simp [*, errW_none, errW_some] <;> rfl), by repeat (first | (with_reducible first | exact HB.out | apply below_alloc | apply pw_below_drewN | apply below_drew1 | refine below_set ?_ GE122.out) | exact HB.out)⟩
      · rw [if_neg c9] at H
        exact absurd H (by simp)
    · rw [if_neg c8] at H
      exact absurd H (by simp)
  · replace c7 := Bool.eq_false_iff.mpr c7
    subst c7
    have H1 : (some 1) = some r := by rw [if_neg (show ¬ (false = true) by decide)] at H; exact H
    clear H
    have H := H1
    clear H1
    obtain rfl := Option.some.inj H
    go_enter Tryd.func43, Tryd.ntmps43
    go_wp2_with (first | ((with_reducible refine gate_dst (N := 9) rfl ?_); refine box_event ?hg (N := 9) ?hd (cs := #[.int .u8 a4_0, .int .u64 a4_1, .int .i64 a4_2, .int .i64 a4_3]) (t := 26) ?hr ?_; (case hd => rfl); (case hg => rfl); (case hr => first | (go_simp; done) | (go_simp; rfl)); intro gb122 hg w31 hbox hb; have n0_ := Aside0.mk (below_step (by repeat (first | (with_reducible first | exact HB.out | apply below_alloc | apply pw_below_drewN | apply below_drew1) | exact HB.out)) hb); have n1_ := Aside0.mk (hbox); have n2_ := Aside0.mk ((by rw [hg]; exact (below_size (by repeat (first | (with_reducible first | exact HB.out | apply below_alloc | apply pw_below_drewN | apply below_drew1) | exact HB.out))) : w.heap.size ≤ gb122)); have n3_ := Aside0.mk ((by rw [hg]; exact (below_size (by repeat (first | (with_reducible first | exact HB.out | apply below_alloc | apply pw_below_drewN | apply below_drew1) | exact HB.out))) : w.heap.size ≤ gb122)); clear HB; have HB := n0_; have BK122 := n1_; have GW122 := n2_; have GE122 := n3_; clear n0_ n1_ n2_ n3_; clear hb hbox hg; have hcz32_0 : w31.cell? ⟨gb122, 0, none⟩ = some (.int .u8 a4_0) := (blk_cell BK122.out 0).trans rfl; have hcz32_1 : w31.cell? ⟨gb122, 1, none⟩ = some (.int .u64 a4_1) := (blk_cell BK122.out 1).trans rfl; have hcz32_2 : w31.cell? ⟨gb122, 2, none⟩ = some (.int .i64 a4_2) := (blk_cell BK122.out 2).trans rfl; have hcz32_3 : w31.cell? ⟨gb122, 3, none⟩ = some (.int .i64 a4_3) := (blk_cell BK122.out 3).trans rfl; have hfz32_0 := blk_frozen BK122.out 0; have hfz32_1 := blk_frozen BK122.out 1; have hfz32_2 := blk_frozen BK122.out 2; have hfz32_3 := blk_frozen BK122.out 3) | (go_at_call 91; (with_reducible refine (shoringref16_May.calls k a4_0 a4_1 a4_2 a4_3 false _ A6.out).mono ?_); rintro e w33 ⟨rfl, hb⟩; have n0_ := Aside0.mk (blk_below (g := gb122) (o := .cells #[.int .u8 a4_0, .int .u64 a4_1, .int .i64 a4_2, .int .i64 a4_3] 26 (0, 0)) (by (with_reducible repeat (first | refine blk_drewN ?_ _ | refine blk_drew ?_ | refine blk_alloc ?_ _)); exact BK122.out) hb); have n1_ := Aside0.mk (below_step (by repeat (first | (with_reducible first | exact HB.out | apply below_alloc | apply pw_below_drewN | apply below_drew1 | refine below_set ?_ GE122.out) | exact HB.out)) hb); clear BK122; clear HB; have BK122 := n0_; have HB := n1_; clear n0_ n1_; (try clear hb); (try clear hb2); (try clear hk); (try clear hi)))
    repeat (go_quiet (first | ((with_reducible refine gate_dst (N := 9) rfl ?_); refine box_event ?hg (N := 9) ?hd (cs := #[.int .u8 a4_0, .int .u64 a4_1, .int .i64 a4_2, .int .i64 a4_3]) (t := 26) ?hr ?_; (case hd => rfl); (case hg => rfl); (case hr => first | (go_simp; done) | (go_simp; rfl)); intro gb122 hg w31 hbox hb; have n0_ := Aside0.mk (below_step (by repeat (first | (with_reducible first | exact HB.out | apply below_alloc | apply pw_below_drewN | apply below_drew1) | exact HB.out)) hb); have n1_ := Aside0.mk (hbox); have n2_ := Aside0.mk ((by rw [hg]; exact (below_size (by repeat (first | (with_reducible first | exact HB.out | apply below_alloc | apply pw_below_drewN | apply below_drew1) | exact HB.out))) : w.heap.size ≤ gb122)); have n3_ := Aside0.mk ((by rw [hg]; exact (below_size (by repeat (first | (with_reducible first | exact HB.out | apply below_alloc | apply pw_below_drewN | apply below_drew1) | exact HB.out))) : w.heap.size ≤ gb122)); clear HB; have HB := n0_; have BK122 := n1_; have GW122 := n2_; have GE122 := n3_; clear n0_ n1_ n2_ n3_; clear hb hbox hg; have hcz32_0 : w31.cell? ⟨gb122, 0, none⟩ = some (.int .u8 a4_0) := (blk_cell BK122.out 0).trans rfl; have hcz32_1 : w31.cell? ⟨gb122, 1, none⟩ = some (.int .u64 a4_1) := (blk_cell BK122.out 1).trans rfl; have hcz32_2 : w31.cell? ⟨gb122, 2, none⟩ = some (.int .i64 a4_2) := (blk_cell BK122.out 2).trans rfl; have hcz32_3 : w31.cell? ⟨gb122, 3, none⟩ = some (.int .i64 a4_3) := (blk_cell BK122.out 3).trans rfl; have hfz32_0 := blk_frozen BK122.out 0; have hfz32_1 := blk_frozen BK122.out 1; have hfz32_2 := blk_frozen BK122.out 2; have hfz32_3 := blk_frozen BK122.out 3) | (go_at_call 91; (with_reducible refine (shoringref16_May.calls k a4_0 a4_1 a4_2 a4_3 false _ A6.out).mono ?_); rintro e w33 ⟨rfl, hb⟩; have n0_ := Aside0.mk (blk_below (g := gb122) (o := .cells #[.int .u8 a4_0, .int .u64 a4_1, .int .i64 a4_2, .int .i64 a4_3] 26 (0, 0)) (by (with_reducible repeat (first | refine blk_drewN ?_ _ | refine blk_drew ?_ | refine blk_alloc ?_ _)); exact BK122.out) hb); have n1_ := Aside0.mk (below_step (by repeat (first | (with_reducible first | exact HB.out | apply below_alloc | apply pw_below_drewN | apply below_drew1 | refine below_set ?_ GE122.out) | exact HB.out)) hb); clear BK122; clear HB; have BK122 := n0_; have HB := n1_; clear n0_ n1_; (try clear hb); (try clear hb2); (try clear hk); (try clear hi))); try go_wp2_with (first | ((with_reducible refine gate_dst (N := 9) rfl ?_); refine box_event ?hg (N := 9) ?hd (cs := #[.int .u8 a4_0, .int .u64 a4_1, .int .i64 a4_2, .int .i64 a4_3]) (t := 26) ?hr ?_; (case hd => rfl); (case hg => rfl); (case hr => first | (go_simp; done) | (go_simp; rfl)); intro gb122 hg w31 hbox hb; have n0_ := Aside0.mk (below_step (by repeat (first | (with_reducible first | exact HB.out | apply below_alloc | apply pw_below_drewN | apply below_drew1) | exact HB.out)) hb); have n1_ := Aside0.mk (hbox); have n2_ := Aside0.mk ((by rw [hg]; exact (below_size (by repeat (first | (with_reducible first | exact HB.out | apply below_alloc | apply pw_below_drewN | apply below_drew1) | exact HB.out))) : w.heap.size ≤ gb122)); have n3_ := Aside0.mk ((by rw [hg]; exact (below_size (by repeat (first | (with_reducible first | exact HB.out | apply below_alloc | apply pw_below_drewN | apply below_drew1) | exact HB.out))) : w.heap.size ≤ gb122)); clear HB; have HB := n0_; have BK122 := n1_; have GW122 := n2_; have GE122 := n3_; clear n0_ n1_ n2_ n3_; clear hb hbox hg; have hcz32_0 : w31.cell? ⟨gb122, 0, none⟩ = some (.int .u8 a4_0) := (blk_cell BK122.out 0).trans rfl; have hcz32_1 : w31.cell? ⟨gb122, 1, none⟩ = some (.int .u64 a4_1) := (blk_cell BK122.out 1).trans rfl; have hcz32_2 : w31.cell? ⟨gb122, 2, none⟩ = some (.int .i64 a4_2) := (blk_cell BK122.out 2).trans rfl; have hcz32_3 : w31.cell? ⟨gb122, 3, none⟩ = some (.int .i64 a4_3) := (blk_cell BK122.out 3).trans rfl; have hfz32_0 := blk_frozen BK122.out 0; have hfz32_1 := blk_frozen BK122.out 1; have hfz32_2 := blk_frozen BK122.out 2; have hfz32_3 := blk_frozen BK122.out 3) | (go_at_call 91; (with_reducible refine (shoringref16_May.calls k a4_0 a4_1 a4_2 a4_3 false _ A6.out).mono ?_); rintro e w33 ⟨rfl, hb⟩; have n0_ := Aside0.mk (blk_below (g := gb122) (o := .cells #[.int .u8 a4_0, .int .u64 a4_1, .int .i64 a4_2, .int .i64 a4_3] 26 (0, 0)) (by (with_reducible repeat (first | refine blk_drewN ?_ _ | refine blk_drew ?_ | refine blk_alloc ?_ _)); exact BK122.out) hb); have n1_ := Aside0.mk (below_step (by repeat (first | (with_reducible first | exact HB.out | apply below_alloc | apply pw_below_drewN | apply below_drew1 | refine below_set ?_ GE122.out) | exact HB.out)) hb); clear BK122; clear HB; have BK122 := n0_; have HB := n1_; clear n0_ n1_; (try clear hb); (try clear hb2); (try clear hk); (try clear hi))))
    go_ret
    exact ⟨by first | rfl | (simp [errW_none, errW_some] <;> rfl) | (simp [*, errW_none, errW_some] <;> rfl), by repeat (first | (with_reducible first | exact HB.out | apply below_alloc | apply pw_below_drewN | apply below_drew1 | refine below_set ?_ GE122.out) | exact HB.out)⟩

end Go.Proofs.YtfaghjadjpiaiaaDoor.PModelRight
