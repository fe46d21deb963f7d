/- Words for the contracts of this seat: functions' tables. Contracts of package bitmap: has, Has. Plain facts: the 1s of a word, from below. Contracts of package bitmap: Bits, Count; of math/bits: TrailingZeros64. Contracts of package fns: may. Contracts of slices.Clone over words; of package bitmap: fits, cut, With, Of. Contract of fns.New: a table of functions. Words for functions that defer: the post at a panic hangs on the frame only through the results' cells. -/
import Derived.Test.YtfaghjadjpiaiaaDoorProg
import Derived.WalkKit
import Derived.KernelRfl
import Derived.RowKit3
import Derived.Deep.LoopGhost
import Derived.Deep.QuietTactic
import Derived.BigQuiet
import Derived.WideLaws
import Derived.Deep.DeepCutAuto
import Derived.Deep.CutBlock
import Derived.WalkSpells
import Derived.Shelf.Abstract
import Derived.WalkLawsBesides
import Derived.Test.YtfaghjadjpiaiaaDoorWWords
import Derived.Test.YtfaghjadjpiaiaaDoorWMore
import Derived.Test.YtfaghjadjpiaiaaDoorWKept
import Derived.WalkSmall
import Derived.Lib.TrailingZeros
import Derived.Laws.Bits64b
import Derived.Deep.RegionHeld3
import Derived.Test.YtfaghjadjpiaiaaDoorWLast
namespace Go.Proofs.YtfaghjadjpiaiaaDoor.Sh
open Go.RowKit Go.Proofs.YtfaghjadjpiaiaaDoorW.PrintWords Go.Proofs.YtfaghjadjpiaiaaDoorW.PrintLast Go.Proofs.YtfaghjadjpiaiaaDoorW.PrintMore
set_option linter.unusedVariables false
set_option linter.unusedSimpArgs false

theorem below_of_drew {w w1 : World} (h : Below w.drew.heap.size w.drew w1) : Below w.heap.size w w1 := ⟨h.os, h.tape, h.output, h.size, h.block⟩
/-- An entry of a table: its size, its bitmap, its pointer slots. -/
structure Ent where
  size : Int
  bits : List Int
  ptrs : List Int
def kEnt : Kd Ent := Kd.iso (Kd.pair (Kd.int .i64) (Kd.pair (Kd.slice 24 (Kd.int .u64)) (Kd.slice 3 (Kd.int .i64)))) (fun x : Ent => (x.size, x.bits, x.ptrs))
/-- A table in memory: its struct's block. -/
def IsTab (w : World) (a : Nat) (t : List Ent) : Prop :=
  ∃ A c, w.heap[a]? = some (.cells #[.slice A t.length c] 86 (0, 0)) ∧ t.length ≤ c ∧ kEnt.C w A t.length t
theorem IsTab.below {w w1 : World} {a : Nat} {t : List Ent} (h : IsTab w a t) (hb : Below w.heap.size w w1) : IsTab w1 a t := by
  obtain ⟨A, c, h1, h2, h3⟩ := h
  exact ⟨A, c, (hb.block _ (blk_lt h1)).trans h1, h2, Kd.C_below h3 hb⟩

theorem len_calls (a : Nat) (t : List Ent) (w : World) (h : IsTab w a t) :
    Calls Tryd.prog 119 #[.pointer (some ⟨a, 0, none⟩)] w fun e w' => e = .returned (.int .i64 t.length) ∧ w = w' := by
  obtain ⟨A, c, h1, h2, h3⟩ := h
  have hc : w.cell? ⟨a, 0, none⟩ = some (.slice A t.length c) := (blk_cell h1 0).trans rfl
  go_enter Tryd.func119, Tryd.ntmps119
  go_wp2
  go_ret
  exact ⟨rfl, rfl⟩
theorem has_calls (a : Nat) (t : List Ent) (f : Int) (w : World) (h : IsTab w a t) :
    Calls Tryd.prog 67 #[.pointer (some ⟨a, 0, none⟩), .int .i64 f] w fun e w' => e = .returned (.bool (decide (0 ≤ f) && decide (f < t.length))) ∧ w = w' := by
  by_cases h0 : 0 ≤ f
  · go_enter Tryd.func67, Tryd.ntmps67
    go_wp2_with (go_at_call 119; refine (len_calls _ _ _ h).mono ?_; rintro e w' ⟨rfl, rfl⟩)
    go_ret
    exact ⟨by simp [show 0 ≤ f from h0], rfl⟩
  · go_enter Tryd.func67, Tryd.ntmps67
    go_wp2_with fail
    go_ret
    exact ⟨by have : decide (0 ≤ f) = false := by simpa using h0
              rw [this]; simp, rfl⟩

/-! ### slices.IndexFunc, slices.ContainsFunc over ints -/
set_option maxRecDepth 100000 in
theorem idx_int (A : Option Addr) (c : Nat) (xs : List Int) (g : Nat) (caps : Array Value) (p : Int → Bool) (w : World) (hr : (Kd.int .i64).C w A xs.length xs) (hl : xs.length ≤ c) (hm : xs.length ≤ 9223372036854775807)
    (heg : ∀ (args : Array Value) (W : World), (callFunc g args).run Tryd.prog W = .ok (.enter g args) W)
    (hcall : ∀ W x, x ∈ xs → Below w.heap.size w W → Calls Tryd.prog g (#[.int .i64 x] ++ caps) W fun e W' => e = .returned (.bool (p x)) ∧ Below W.heap.size W W') :
    Calls Tryd.prog 147 #[.slice A xs.length c, .func (.func g) #[] caps] w fun e w' => ∃ r : Int, e = .returned (.int .i64 r) ∧ decide (0 ≤ r) = xs.any p ∧ Below w.heap.size w w' := by
  have HR := Aside0.mk hr
  have HCALL := Aside0.mk hcall
  clear hr hcall
  go_enter Tryd.func147, Tryd.ntmps147
  go_wp2
  go_loopw [5, 8, 16] (fun _ i _ wr => ∃ k : Nat, k ≤ xs.length ∧ i = .int .i64 k ∧ Aside0 ((xs.take k).any p = false) ∧ Aside0 (Below w.heap.size w wr)) (fun _ i _ _ => xs.length - (intOf i).toNat)
  case atStart => exact ⟨0, Nat.zero_le _, rfl, ⟨by simp⟩, ⟨Below.refl _ _⟩⟩
  case round =>
    obtain ⟨k, hk, rfl, HN, HB⟩ := hrel
    by_cases hlt : k < xs.length
    · obtain ⟨ad, rfl, hcell⟩ := Kd.at_int (Kd.C_below HR.out HB.out) (k : Int) (by omega) (by omega)
      simp only [Int.toNat_natCast] at hcell
      have hx : rd xs k = xs[k] := by simp [rd, List.getElem?_eq_getElem hlt]
      have HX := Aside0.mk (p := rd xs k ∈ xs) (by rw [hx]; exact List.getElem_mem _)
      have HT := Aside0.mk (p := (xs.take (k + 1)).any p = ((xs.take k).any p || p (rd xs k))) (by rw [hx, List.take_succ_eq_append_getElem hlt, List.any_append]; simp)
      have HAny := Aside0.mk (p := p (rd xs k) = true → xs.any p = true) (fun h => List.any_eq_true.2 ⟨_, HX.out, h⟩)
      have HC := Aside0.mk (HCALL.out wr (rd xs k) HX.out HB.out)
      clear hx
      cases hp : p (rd xs k)
      · have HP := Aside0.mk hp
        clear hp
        go_wp2_with (refine HC.out.mono ?_; rw [HP.out]; rintro e w' ⟨rfl, hb⟩; have HB2 := Aside0.mk (below_then HB.out HB.out.size hb); clear hb)
        go_roundw
        case rel => exact ⟨k + 1, by omega, by go_num, ⟨by rw [HT.out, HN.out, HP.out]; rfl⟩, HB2⟩
        case measure => simp [intOf]; omega
      · have HP := Aside0.mk hp
        clear hp
        go_wp2_with (refine HC.out.mono ?_; rw [HP.out]; rintro e w' ⟨rfl, hb⟩; have HB2 := Aside0.mk (below_then HB.out HB.out.size hb); clear hb)
        go_ret
        exact ⟨k, rfl, by rw [HAny.out HP.out]; simp, HB2.out⟩
    · go_wp2_with fail
      go_ret
      exact ⟨-1, rfl, by have := HN.out; rw [List.take_of_length_le (by omega)] at this; rw [this]; rfl, HB.out⟩
theorem cont_int (A : Option Addr) (c : Nat) (xs : List Int) (g : Nat) (caps : Array Value) (p : Int → Bool) (w : World) (hr : (Kd.int .i64).C w A xs.length xs) (hl : xs.length ≤ c) (hm : xs.length ≤ 9223372036854775807)
    (heg : ∀ (args : Array Value) (W : World), (callFunc g args).run Tryd.prog W = .ok (.enter g args) W)
    (hcall : ∀ W x, x ∈ xs → Below w.heap.size w W → Calls Tryd.prog g (#[.int .i64 x] ++ caps) W fun e W' => e = .returned (.bool (p x)) ∧ Below W.heap.size W W') :
    Calls Tryd.prog 117 #[.slice A xs.length c, .func (.func g) #[] caps] w fun e w' => e = .returned (.bool (xs.any p)) ∧ Below w.heap.size w w' := by
  have HI := Aside0.mk (idx_int A c xs g caps p w hr hl hm heg hcall)
  clear hr hcall heg
  go_enter Tryd.func117, Tryd.ntmps117
  go_wp2_with (go_at_call 147; refine HI.out.mono ?_; rintro e w' ⟨r, rfl, hd, hb⟩; have HD := Aside0.mk hd; clear hd; have HB := Aside0.mk hb; clear hb)
  go_ret
  exact ⟨by rw [← HD.out]; rfl, HB.out⟩
end Go.Proofs.YtfaghjadjpiaiaaDoor.Sh
namespace Go.Proofs.YtfaghjadjpiaiaaDoor.Sh
open Go.RowKit Go.Shelf Go.Proofs.YtfaghjadjpiaiaaDoorW.PrintWords Go.Proofs.YtfaghjadjpiaiaaDoorW.PrintLast Go.Proofs.YtfaghjadjpiaiaaDoorW.PrintMore
set_option linter.unusedVariables false
set_option linter.unusedSimpArgs false
/-- A number of its kind. -/
def U64 (x : Int) : Prop := 0 ≤ x ∧ x < 18446744073709551616
def I64 (x : Int) : Prop := -9223372036854775808 ≤ x ∧ x ≤ 9223372036854775807
def AllU (l : List Int) : Prop := ∀ x ∈ l, U64 x
def AllI (l : List Int) : Prop := ∀ x ∈ l, I64 x
theorem rd_mem {l : List Int} {i : Int} (h0 : 0 ≤ i) (h1 : i < l.length) : rd l i ∈ l := by
  have h : i.toNat < l.length := by omega
  have e : rd l i = l[i.toNat] := by simp [rd, List.getElem?_eq_getElem h]
  rw [e]
  exact List.getElem_mem _
/-- Is bit i of a bitmap 1? -/
def bitOf (b : List Int) (i : Int) : Bool := decide (0 ≤ i) && (decide (i / 64 < b.length) && (rd b (i / 64)).toNat.testBit (i % 64).toNat)
theorem and1 (x : Int) (hx : U64 x) (k : Nat) : (bits BinOp.and IntKind.u64 (x / 2 ^ k) 1 == 1) = x.toNat.testBit k := by
  obtain ⟨n, rfl⟩ := Int.eq_ofNat_of_zero_le hx.1
  have e : ((n : Int) / 2 ^ k) = ((n / 2 ^ k : Nat) : Int) := by simp
  have hk : n / 2 ^ k ≤ n := Nat.div_le_self _ _
  have := hx.2
  rw [e, Int.toNat_natCast, Nat.testBit_eq_decide_div_mod_eq]
  generalize n / 2 ^ k = m at *
  rw [and_one_u64 _ (by omega) (by omega)]
  rw [Bool.eq_iff_iff]
  simp only [beq_iff_eq, decide_eq_true_eq]
  omega
theorem has_calls0 (A : Option Addr) (c : Nat) (b : List Int) (i : Int) (w : World) (hr : (Kd.int .u64).C w A b.length b) (hl : b.length ≤ c) (hu : AllU b) (hi : I64 i) :
    Calls Tryd.prog 154 #[.slice A b.length c, .int .i64 i] w fun e w' => e = .returned (.bool (bitOf b i)) ∧ w = w' := by
  have hi := hi
  unfold I64 at hi
  by_cases h0 : 0 ≤ i
  · by_cases h1 : i / 64 < b.length
    · obtain ⟨ad, rfl, hcell⟩ := Kd.at_int hr (i / 64) (by omega) (by omega)
      have HU := Aside0.mk (hu _ (rd_mem (i := i / 64) (by omega) h1))
      clear hu
      go_enter Tryd.func154, Tryd.ntmps154
      go_wp2_with fail
      go_ret
      exact ⟨by rw [and1 _ HU.out]; simp [bitOf, h0, h1], rfl⟩
    · go_enter Tryd.func154, Tryd.ntmps154
      go_wp2_with fail
      go_ret
      exact ⟨by have e : decide (i / 64 < (b.length : Int)) = false := decide_eq_false (by omega)
                simp [bitOf, e], rfl⟩
  · go_enter Tryd.func154, Tryd.ntmps154
    go_wp2_with fail
    go_ret
    exact ⟨by have e : decide (0 ≤ i) = false := decide_eq_false (by omega)
              simp [bitOf, e], rfl⟩
theorem has1_calls (A : Option Addr) (c : Nat) (b : List Int) (i : Int) (w : World) (q : Nat) (hb : w.heap[q]? = some (.cells #[.slice A b.length c] 42 (0, 0))) (hr : (Kd.int .u64).C w A b.length b) (hl : b.length ≤ c) (hu : AllU b) (hi : I64 i) :
    Calls Tryd.prog 153 #[.int .i64 i, .pointer (some ⟨q, 0, none⟩)] w fun e w' => e = .returned (.bool (!bitOf b i)) ∧ w = w' := by
  have hc : w.cell? ⟨q, 0, none⟩ = some (.slice A b.length c) := (blk_cell hb 0).trans rfl
  have HH := Aside0.mk (has_calls0 A c b i w hr hl hu hi)
  clear hb hr hl hu hi
  go_enter Tryd.func153, Tryd.ntmps153
  go_wp2_with (go_at_call 154; refine HH.out.mono ?_; rintro e w' ⟨rfl, rfl⟩)
  go_ret
  exact ⟨rfl, rfl⟩
theorem Has_calls (A : Option Addr) (c : Nat) (b : List Int) (B : Option Addr) (d : Nat) (l : List Int) (w : World) (hr : (Kd.int .u64).C w A b.length b) (hl : b.length ≤ c) (hu : AllU b) (hr1 : (Kd.int .i64).C w B l.length l) (hl1 : l.length ≤ d) (hi : AllI l) (hm : l.length ≤ 9223372036854775807) :
    Calls Tryd.prog 134 #[.slice A b.length c, .slice B l.length d] w fun e w' => e = .returned (.bool (!(l.any fun i => !bitOf b i))) ∧ Below w.heap.size w w' := by
  have HC : Aside0 (∀ w1, w1 = w.alloc (.cells #[.slice A b.length c] 42) → Calls Tryd.prog 117 #[.slice B l.length d, .func (.func 153) #[] #[.pointer (some ⟨w.heap.size, 0, none⟩)]] w1 fun e w' => e = .returned (.bool (l.any fun i => !bitOf b i)) ∧ Below w1.heap.size w1 w') := by
    refine ⟨?_⟩
    rintro w1 rfl
    have hb0 : Below w.heap.size w (w.alloc (.cells #[.slice A b.length c] 42)) := below_alloc (Below.refl _ _) _
    refine cont_int B d l _ _ (fun i => !bitOf b i) _ (Kd.C_below hr1 hb0) hl1 hm (enters_of Tryd.func153 (by kernel_rfl) rfl) ?_
    intro W x hx hB
    have hb1 : Below w.heap.size w W := below_then hb0 hb0.size hB
    have hblk : W.heap[w.heap.size]? = some (.cells #[.slice A b.length c] 42 (0, 0)) := (hB.block _ (by simp)).trans (heap_alloc_new w _)
    exact (has1_calls A c b x W w.heap.size hblk (Kd.C_below hr hb1) hl hu (hi x hx)).mono fun e w' ⟨h1, h2⟩ => ⟨h1, by rw [← h2]; exact Below.refl _ _⟩
  clear hr hl hu hr1 hl1 hi hm
  go_enter Tryd.func134, Tryd.ntmps134
  have hmf : ∀ (fn : Fn) (first cap : Array Value) (w : World), (Instr.makeFunc fn first cap).run Tryd.prog w = .ok (.func fn first cap) w := fun _ _ _ _ => rfl
  go_wp2_with (go_at_call 117; refine (HC.out _ rfl).mono ?_; rintro e w' ⟨rfl, hb⟩; have HB := Aside0.mk (below_then (below_alloc (Below.refl w.heap.size w) _) (by simp) hb); clear hb)
  go_ret
  exact ⟨rfl, HB.out⟩
end Go.Proofs.YtfaghjadjpiaiaaDoor.Sh
namespace Go.Proofs.YtfaghjadjpiaiaaDoor.Sh
set_option linter.unusedVariables false
theorem low_lt (x : Nat) (h : x ≠ 0) : x &&& (x - 1) < x := by
  have : x &&& (x - 1) ≤ x - 1 := Nat.and_le_right
  omega
/-- Where x has 1s, from below. -/
def ones (x : Nat) : List Nat := if h : x = 0 then [] else Lib.ctz 64 x :: ones (x &&& (x - 1))
termination_by x
decreasing_by exact low_lt x h
theorem ones_zero : ones 0 = [] := by rw [ones]; simp
theorem ones_step {x : Nat} (h : x ≠ 0) : ones x = Lib.ctz 64 x :: ones (x &&& (x - 1)) := by rw [ones]; simp [h]
theorem clear_low (k m : Nat) : (2 ^ k * (2 * m + 1)) &&& (2 ^ k * (2 * m + 1) - 1) = 2 ^ (k + 1) * m := by
  have hp : 0 < 2 ^ k := Nat.two_pow_pos k
  have e : 2 ^ k * (2 * m + 1) - 1 = 2 ^ k * (2 * m) + (2 ^ k - 1) := by rw [Nat.mul_add]; omega
  apply Nat.eq_of_testBit_eq
  intro i
  rw [e, Nat.testBit_and, Nat.testBit_two_pow_mul, Nat.testBit_two_pow_mul_add _ (by omega), Nat.testBit_two_pow_mul]
  by_cases h1 : i < k
  · simp [h1, show ¬ k ≤ i by omega, show ¬ k + 1 ≤ i by omega]
  · rw [if_neg h1]
    by_cases h2 : i = k
    · subst h2; simp [Nat.testBit_zero, show ¬ i + 1 ≤ i by omega]
    · obtain ⟨j, rfl⟩ : ∃ j, i = k + 1 + j := ⟨i - k - 1, by omega⟩
      have a1 : k + 1 + j - k = j + 1 := by omega
      have a2 : k + 1 + j - (k + 1) = j := by omega
      rw [a1, a2, Nat.testBit_succ, Nat.testBit_succ]
      have d1 : (2 * m + 1) / 2 = m := by omega
      have d2 : 2 * m / 2 = m := by omega
      rw [d1, d2]
      simp [show k ≤ k + 1 + j by omega, show k + 1 ≤ k + 1 + j by omega]
theorem ctz_form {x : Nat} (h0 : x ≠ 0) (h : x < 18446744073709551616) : ∃ m, x = 2 ^ Lib.ctz 64 x * (2 * m + 1) ∧ Lib.ctz 64 x < 64 ∧ x &&& (x - 1) = 2 ^ (Lib.ctz 64 x + 1) * m := by
  obtain ⟨m, hm, hk⟩ := Lib.ctzFrom_spec 64 x (by omega) h
  have e : Lib.ctz 64 x = Lib.ctzFrom 64 x := by simp [Lib.ctz, h0]
  rw [e]
  refine ⟨m, hm, hk, ?_⟩
  have := clear_low (Lib.ctzFrom 64 x) m
  rwa [← hm] at this
theorem testBit_form (k m i : Nat) : (2 ^ k * (2 * m + 1)).testBit i = (decide (i = k) || (2 ^ (k + 1) * m).testBit i) := by
  rw [Nat.testBit_two_pow_mul, Nat.testBit_two_pow_mul]
  by_cases h1 : i < k
  · simp [show ¬ k ≤ i by omega, show ¬ k + 1 ≤ i by omega, show ¬ i = k by omega]
  · by_cases h2 : i = k
    · subst h2; simp [Nat.testBit_zero]
    · obtain ⟨j, rfl⟩ : ∃ j, i = k + 1 + j := ⟨i - k - 1, by omega⟩
      have a1 : k + 1 + j - k = j + 1 := by omega
      have a2 : k + 1 + j - (k + 1) = j := by omega
      rw [a1, a2, Nat.testBit_succ]
      have d1 : (2 * m + 1) / 2 = m := by omega
      rw [d1]
      simp [show k ≤ k + 1 + j by omega, show k + 1 ≤ k + 1 + j by omega, h2]
theorem mem_ones {x : Nat} (hx : x < 18446744073709551616) (i : Nat) : i ∈ ones x ↔ x.testBit i = true := by
  induction x using Nat.strongRecOn with
  | ind x ih =>
    by_cases h : x = 0
    · subst h; rw [ones_zero]; simp
    · obtain ⟨m, hm, hk, hc⟩ := ctz_form h hx
      rw [ones_step h, List.mem_cons, ih _ (low_lt x h) (Nat.lt_trans (low_lt x h) hx)]
      have ht := testBit_form (Lib.ctz 64 x) m i
      rw [← hm, ← hc] at ht
      rw [ht]
      simp
theorem ones_lt {x : Nat} (hx : x < 18446744073709551616) : ∀ k ∈ ones x, k < 64 := by
  intro k hk
  have h := (mem_ones hx k).1 hk
  exact Nat.lt_of_not_le fun h1 => by
    have : x < 2 ^ k := Nat.lt_of_lt_of_le hx (by have := Nat.pow_le_pow_right (show 0 < 2 by decide) h1; simpa using this)
    rw [Nat.testBit_lt_two_pow this] at h
    cases h
theorem ones_sorted {x : Nat} (hx : x < 18446744073709551616) : (ones x).Pairwise (· < ·) := by
  induction x using Nat.strongRecOn with
  | ind x ih =>
    by_cases h : x = 0
    · subst h; rw [ones_zero]; exact List.Pairwise.nil
    · obtain ⟨m, hm, hk, hc⟩ := ctz_form h hx
      rw [ones_step h]
      refine List.pairwise_cons.2 ⟨fun j hj => ?_, ih _ (low_lt x h) (Nat.lt_trans (low_lt x h) hx)⟩
      have hj := (mem_ones (Nat.lt_trans (low_lt x h) hx) j).1 hj
      rw [hc, Nat.testBit_two_pow_mul] at hj
      simp at hj
      omega
theorem sorted_length (l : List Nat) : ∀ (a n : Nat), l.Pairwise (· < ·) → (∀ k ∈ l, a ≤ k ∧ k < n) → l.length ≤ n - a := by
  induction l with
  | nil => intro a n _ _; exact Nat.zero_le _
  | cons x r ih =>
    intro a n hp hb
    have hx := hb x List.mem_cons_self
    have hp := List.pairwise_cons.1 hp
    have := ih (x + 1) n hp.2 (fun k hk => ⟨hp.1 k hk, (hb k (List.mem_cons_of_mem _ hk)).2⟩)
    rw [List.length_cons]
    omega
theorem ones_length {x : Nat} (hx : x < 18446744073709551616) : (ones x).length ≤ 64 := by
  have := sorted_length (ones x) 0 64 (ones_sorted hx) (fun k hk => ⟨Nat.zero_le _, ones_lt hx k hk⟩)
  omega
end Go.Proofs.YtfaghjadjpiaiaaDoor.Sh
namespace Go.Proofs.YtfaghjadjpiaiaaDoor.Sh
open Go.RowKit Go.Shelf Go.Proofs.YtfaghjadjpiaiaaDoorW.PrintWords Go.Proofs.YtfaghjadjpiaiaaDoorW.PrintLast Go.Proofs.YtfaghjadjpiaiaaDoorW.PrintMore
set_option linter.unusedVariables false
set_option linter.unusedSimpArgs false
/-- The table of math/bits lies in its variable. -/
def Tab64 (w : World) : Prop := ∀ j, j < 64 → w.cell? ⟨0, j, none⟩ = some (.int .u8 (Lib.deBruijn64tab.getD j 0))
theorem Tab64.below {w w1 : World} (h : Tab64 w) (hb : Below w.heap.size w w1) : Tab64 w1 := fun j hj => pw_cell_below hb (h j hj)
theorem tz_key (x a : Nat) (hx : x < 18446744073709551616) (hx0 : x ≠ 0) (hlow : x &&& (18446744073709551616 - x) = a) :
    IntKind.u64.wrap (bits BinOp.and IntKind.u64 (x : Int) (IntKind.u64.wrap (-(x : Int))) * 285870213051353865) / 288230376151711744 = ((a * 285870213051353865 % 18446744073709551616 / 288230376151711744 : Nat) : Int) := by
  have e1 : IntKind.u64.wrap (-(x : Int)) = ((18446744073709551616 - x : Nat) : Int) := by rw [IntKind.wrap_u64]; omega
  rw [e1, bits_and_u64_nat x _ hx (by omega), hlow, IntKind.wrap_u64]
  omega
set_option maxHeartbeats 1000000 in
theorem tz_core (x k idx : Nat) (w : World) (hx0 : ((x : Int) == 0) = false)
    (key : IntKind.u64.wrap (bits BinOp.and IntKind.u64 (x : Int) (IntKind.u64.wrap (-(x : Int))) * 285870213051353865) / 288230376151711744 = (idx : Int))
    (hi : idx < 64) (hk : k < 64) (hcell : w.cell? ⟨0, idx, none⟩ = some (.int .u8 k)) :
    Calls Tryd.prog 83 #[.int .u64 x] w fun e w' => e = .returned (.int .i64 k) ∧ w = w' := by
  go_enter Tryd.func83, Tryd.ntmps83
  go_wp2_with (simp only [key])
  go_ret
  exact ⟨rfl, rfl⟩
/-- TrailingZeros64 of what isn't 0. -/
theorem tz_calls (y : Int) (hy : U64 y) (hy0 : y ≠ 0) (w : World) (hT : Tab64 w) :
    Calls Tryd.prog 83 #[.int .u64 y] w fun e w' => e = .returned (.int .i64 (Lib.ctz 64 y.toNat : Nat)) ∧ w = w' := by
  obtain ⟨x, rfl⟩ := Int.eq_ofNat_of_zero_le hy.1
  have hx : x < 18446744073709551616 := by have := hy.2; omega
  have hx0 : x ≠ 0 := by omega
  obtain ⟨hlow, hk⟩ := Lib.lowest_bit 64 x hx0 hx
  obtain ⟨hi, htab⟩ := Lib.deBruijn64_at _ hk
  have hcell := hT _ hi
  rw [htab] at hcell
  rw [Int.toNat_natCast]
  exact tz_core x _ _ w (by simp; omega) (tz_key x _ hx hx0 hlow) hi hk hcell

/-! ### Bits -/
/-- Those of a word that are below n. -/
def wordBits (n : Int) (w x : Nat) : List Int := ((ones x).map fun k => ((64 * w + k : Nat) : Int)).filter fun i => decide (i < n)
def bitsFrom (n : Int) : Nat → List Int → List Int
  | _, [] => []
  | w, x :: r => wordBits n w x.toNat ++ bitsFrom n (w + 1) r
/-- All of a bitmap's below n. -/
def bitsOf (b : List Int) (n : Int) : List Int := bitsFrom n 0 b
theorem bitsFrom_drop (n : Int) (b : List Int) (k : Nat) (h : k < b.length) : bitsFrom n k (b.drop k) = wordBits n k (rd b k).toNat ++ bitsFrom n (k + 1) (b.drop (k + 1)) := by
  rw [List.drop_eq_getElem_cons h, bitsFrom]
  simp [rd, List.getElem?_eq_getElem h]
theorem wordBits_length (n : Int) (w : Nat) {x : Nat} (hx : x < 18446744073709551616) : (wordBits n w x).length ≤ 64 := by
  have h1 := ones_length hx
  have h2 := List.length_filter_le (fun i => decide (i < n)) ((ones x).map fun k => ((64 * w + k : Nat) : Int))
  rw [List.length_map] at h2
  unfold wordBits
  omega
theorem bitsFrom_length (n : Int) (b : List Int) : ∀ (w : Nat), AllU b → (bitsFrom n w b).length ≤ 64 * b.length := by
  induction b with
  | nil => intro w _; simp [bitsFrom]
  | cons x r ih =>
    intro w hu
    have hx := hu x List.mem_cons_self
    have h1 := wordBits_length n w (x := x.toNat) (by have := hx.1; have := hx.2; omega)
    have h2 := ih (w + 1) (fun y hy => hu y (List.mem_cons_of_mem _ hy))
    rw [bitsFrom, List.length_append, List.length_cons]
    omega
theorem wordBits_zero (n : Int) (w : Nat) : wordBits n w 0 = [] := by simp [wordBits, ones_zero]
theorem wordBits_in {n : Int} {w x : Nat} (h : x ≠ 0) (hn : 64 * (w : Int) + (Lib.ctz 64 x : Nat) < n) : wordBits n w x = (64 * (w : Int) + (Lib.ctz 64 x : Nat)) :: wordBits n w (x &&& (x - 1)) := by
  unfold wordBits
  rw [ones_step h, List.map_cons, List.filter_cons, if_pos (by simp; omega)]
  congr 1
theorem wordBits_out {n : Int} {w x : Nat} (h : x ≠ 0) (hn : ¬ 64 * (w : Int) + (Lib.ctz 64 x : Nat) < n) : wordBits n w x = wordBits n w (x &&& (x - 1)) := by
  unfold wordBits
  rw [ones_step h, List.map_cons, List.filter_cons, if_neg (by simp; omega)]
theorem info3 : (Tryd.prog.info? 3).map (fun i => (i.zero, i.size, i.bytes)) = some (some (.int .i64 0), 1, 8) := by kernel_rfl
theorem and_pred (x : Nat) (h : x ≠ 0) (hx : x < 18446744073709551616) : bits BinOp.and IntKind.u64 (x : Int) ((x : Int) - 1) = ((x &&& (x - 1) : Nat) : Int) := by
  rw [show ((x : Int) - 1) = ((x - 1 : Nat) : Int) by omega]
  exact bits_and_u64_nat x (x - 1) hx (by omega)

set_option maxRecDepth 100000 in
set_option maxHeartbeats 1000000 in
theorem Bits_calls (A : Option Addr) (c : Nat) (b : List Int) (n : Int) (w : World) (hT : Tab64 w) (hr : (Kd.int .u64).C w A b.length b) (hl : b.length ≤ c) (hu : AllU b) (hb : b.length ≤ 1048576) (hn : I64 n) :
    Calls Tryd.prog 38 #[.slice A b.length c, .int .i64 n] w fun e w' => ∃ v, e = .returned v ∧ w'.ownsRow w.heap.size 3 1 v (bitsOf b n).length (nums .i64 (bitsOf b n)) ∧ Below w.heap.size w w' := by
  have HT := Aside0.mk hT
  have HR := Aside0.mk hr
  have HU := Aside0.mk hu
  have HLen := Aside0.mk (bitsFrom_length n b 0 hu)
  clear hT hr hu
  unfold I64 at hn
  go_enter Tryd.func38, Tryd.ntmps38
  go_wp2
  go_loopw [5, 6, 7, 8, 11] (fun v _ _ _ i wr => ∃ (k : Nat) (acc : List Int), k ≤ b.length ∧ i = .int .i64 k ∧ Aside0 (acc ++ bitsFrom n k (b.drop k) = bitsOf b n) ∧ Aside0 (wr.ownsRow w.heap.size 3 1 v acc.length (nums .i64 acc)) ∧ Aside0 (Below w.heap.size w wr)) (fun _ _ _ _ i _ => b.length - (intOf i).toNat)
  case atStart => exact ⟨0, [], Nat.zero_le _, rfl, ⟨rfl⟩, ⟨own_nil _ _ _ _⟩, ⟨Below.refl _ _⟩⟩
  case round =>
    obtain ⟨k, acc, hk, rfl, HA, HO, HB⟩ := hrel
    by_cases hlt : k < b.length
    · obtain ⟨ad, rfl, hcell⟩ := Kd.at_int (Kd.C_below HR.out HB.out) (k : Int) (by omega) (by omega)
      simp only [Int.toNat_natCast] at hcell
      have HX := Aside0.mk (HU.out _ (rd_mem (i := (k : Int)) (by omega) (by omega)))
      obtain ⟨x0, hx0⟩ : ∃ x0 : Nat, rd b k = x0 := Int.eq_ofNat_of_zero_le HX.out.1
      have HD := Aside0.mk (bitsFrom_drop n b k hlt)
      rw [hx0] at hcell
      have HX2 : Aside0 (x0 < 18446744073709551616) := ⟨by have := HX.out.2; rw [hx0] at this; omega⟩
      have HD2 : Aside0 (bitsFrom n k (b.drop k) = wordBits n k x0 ++ bitsFrom n (k + 1) (b.drop (k + 1))) := ⟨by rw [HD.out, hx0, Int.toNat_natCast]⟩
      clear hx0 HD HX
      obtain ⟨wo, rfl⟩ : ∃ wo : World, wo = wr := ⟨_, rfl⟩
      go_wp2
      go_loopw [5, 7, 8] (fun v x _ wi => ∃ (y : Nat) (a2 : List Int), x = .int .u64 y ∧ Aside0 (y < 18446744073709551616) ∧ Aside0 (a2 ++ wordBits n k y = acc ++ wordBits n k x0) ∧ Aside0 (wi.ownsRow w.heap.size 3 1 v a2.length (nums .i64 a2)) ∧ Aside0 (Below w.heap.size w wi)) (fun _ x _ _ => (intOf x).toNat)
      case atStart => exact ⟨x0, acc, rfl, HX2, ⟨rfl⟩, HO, HB⟩
      case round =>
        obtain ⟨y, a2, rfl, HY, HA2, HO2, HB2⟩ := hrel
        by_cases hy : y = 0
        · subst hy
          go_wp2
          go_roundw
          case rel => exact ⟨k + 1, a2, by omega, by go_num, ⟨by rw [← HA.out, HD2.out, ← List.append_assoc, ← HA2.out, wordBits_zero, List.append_nil]⟩, HO2, HB2⟩
          case measure => simp [intOf]; omega
        · have hne : ((y : Int) != 0) = true := by simp; omega
          have hyb := HY.out
          have HZ := Aside0.mk (tz_calls (y : Int) ⟨by omega, by omega⟩ (by omega))
          have HC := Aside0.mk (ctz_form hy HY.out)
          have HP := Aside0.mk (and_pred y hy HY.out)
          have hc64 : Lib.ctz 64 y < 64 := by obtain ⟨m, _, h, _⟩ := HC.out; exact h
          have hy1 : 1 ≤ (y : Int) := by omega
          have HLt := Aside0.mk (low_lt y hy)
          rw [Int.toNat_natCast] at HZ
          generalize hcz : Lib.ctz 64 y = cz at *
          have HCZ := Aside0.mk hcz
          clear hcz
          by_cases hin : 64 * (k : Int) + cz < n
          · have hl2 : a2.length + 1 ≤ 67108864 := by
              have h1 := HLen.out
              have h2 := congrArg List.length HA.out
              have h3 := congrArg List.length HA2.out
              rw [wordBits_in hy (by rw [HCZ.out]; exact hin)] at h3
              rw [HD2.out] at h2
              simp only [List.length_append, List.length_cons] at h2 h3
              unfold bitsOf at h2
              omega
            go_wp2_with (first | (go_at_call 83; refine (HZ.out _ (HT.out.below HB2.out)).mono ?_; rintro e w' ⟨rfl, rfl⟩) | (at_builtin; refine print_append_num (w0 := w) w.heap.size rfl (.tmp 30) (.tmp 32) 27 3 .i64 8 rfl Tryd.underlying27 info3 (by omega) _ a2 _ rfl rfl HO2.out HB2.out HB2.out.size (by omega) ?_; intro v1 w1 hO hB _ _; have HO3 := Aside0.mk hO; have HB3 := Aside0.mk hB; clear hO hB))
            refine ⟨⟨y &&& (y - 1), a2 ++ [64 * (k : Int) + cz], by rw [HP.out], ⟨by have := HLt.out; have := HY.out; omega⟩, ⟨?_⟩, HO3, HB3⟩, ?_⟩
            · rw [← HA2.out, wordBits_in hy (by rw [HCZ.out]; exact hin), HCZ.out]; simp
            · rw [HP.out]; have := HLt.out; simp only [intOf, Int.toNat_natCast]; exact this
          · go_wp2_with (first | (go_at_call 83; refine (HZ.out _ (HT.out.below HB2.out)).mono ?_; rintro e w' ⟨rfl, rfl⟩))
            refine ⟨⟨y &&& (y - 1), a2, by rw [HP.out], ⟨by have := HLt.out; have := HY.out; omega⟩, ⟨?_⟩, HO2, HB2⟩, ?_⟩
            · rw [← HA2.out, wordBits_out hy (by rw [HCZ.out]; omega)]
            · rw [HP.out]; have := HLt.out; simp only [intOf, Int.toNat_natCast]; exact this
    · go_wp2
      go_ret
      exact ⟨_, rfl, by have h := HA.out; rw [List.drop_eq_nil_of_le (by omega), bitsFrom, List.append_nil] at h; rw [← h]; exact HO.out, HB.out⟩
theorem Count_calls (A : Option Addr) (c : Nat) (b : List Int) (n : Int) (w : World) (hT : Tab64 w) (hr : (Kd.int .u64).C w A b.length b) (hl : b.length ≤ c) (hu : AllU b) (hb : b.length ≤ 1048576) (hn : I64 n) :
    Calls Tryd.prog 128 #[.slice A b.length c, .int .i64 n] w fun e w' => e = .returned (.int .i64 (bitsOf b n).length) ∧ Below w.heap.size w w' := by
  have HI := Aside0.mk (Bits_calls A c b n w hT hr hl hu hb hn)
  clear hT hr hu hn
  go_enter Tryd.func128, Tryd.ntmps128
  go_wp2_with (go_at_call 38; refine HI.out.mono ?_; rintro e w' ⟨v, rfl, ho, hB⟩; obtain ⟨A1, c1, hv, _⟩ := own_reads ho; subst hv; have HB := Aside0.mk hB; clear hB ho)
  go_ret
  exact ⟨rfl, HB.out⟩
end Go.Proofs.YtfaghjadjpiaiaaDoor.Sh
namespace Go.Proofs.YtfaghjadjpiaiaaDoor.Sh
open Go.RowKit Go.Shelf Go.Proofs.YtfaghjadjpiaiaaDoorW.PrintWords Go.Proofs.YtfaghjadjpiaiaaDoorW.PrintLast Go.Proofs.YtfaghjadjpiaiaaDoorW.PrintMore
set_option linter.unusedVariables false
set_option linter.unusedSimpArgs false
/-- A function's frame, as plain data. -/
structure Fn0 where
  size : Int
  bits : List Int
def kFn : Kd Fn0 := Kd.iso (Kd.pair (Kd.int .i64) (Kd.slice 24 (Kd.int .u64))) (fun x : Fn0 => (x.size, x.bits))
theorem kFn_open {w : World} {x : Fn0} {cs : List Value} (h : kFn.K w x cs) : ∃ A1 c1, cs = [.int .i64 x.size, .slice A1 x.bits.length c1] ∧ x.bits.length ≤ c1 ∧ (Kd.int .u64).C w A1 x.bits.length x.bits := by
  obtain ⟨_, _, rfl, rfl, ⟨A1, c1, rfl, l1, g1⟩⟩ := h
  exact ⟨A1, c1, rfl, l1, g1⟩
/-- May a function be? -/
def mayB (f : Fn0) : Bool := decide (0 ≤ f.size) && (decide (f.size ≤ 1000) && decide ((bitsOf f.bits (64 * f.bits.length)).length = (bitsOf f.bits f.size).length))
/-- Numbers of their kind, and not too many. -/
structure FnOk (f : Fn0) : Prop where
  size : I64 f.size
  bits : AllU f.bits
  len : f.bits.length ≤ 1048576
set_option maxRecDepth 100000 in
theorem may_calls (f : Fn0) (A : Option Addr) (c : Nat) (w : World) (hf : FnOk f) (hT : Tab64 w) (hr : (Kd.int .u64).C w A f.bits.length f.bits) (hl : f.bits.length ≤ c) :
    Calls Tryd.prog 82 #[.agg #[.int .i64 f.size, .slice A f.bits.length c]] w fun e w' => e = .returned (.bool (mayB f)) ∧ Below w.heap.size w w' := by
  obtain ⟨sz, b⟩ := f
  have hlen := hf.len
  have HS := Aside0.mk hf.size
  dsimp only at *
  have HT := Aside0.mk hT
  have HR := Aside0.mk hr
  have HC := Aside0.mk (fun (n : Int) (W : World) (hn : I64 n) (hB : Below w.heap.size w W) => Count_calls A c b n W (hT.below hB) (Kd.C_below hr hB) hl hf.bits hlen hn)
  clear hT hr hf
  by_cases h0 : 0 ≤ sz
  · by_cases h1 : sz ≤ 1000
    · go_enter Tryd.func82, Tryd.ntmps82
      go_wp2_with fail
      have HB0 : Aside0 (Below w.heap.size w (w.alloc (Obj.cells #[Value.int IntKind.i64 sz, Value.slice A b.length c] 88 (0, 0)))) := ⟨below_alloc (Below.refl _ _) _⟩
      have HN : Aside0 (I64 (64 * (b.length : Int))) := ⟨by unfold I64; omega⟩
      have hw64 : IntKind.i64.wrap (64 * (b.length : Int)) = 64 * (b.length : Int) := IntWalk.i64_in _ ⟨by omega, by omega⟩
      go_region_held3 (fun W => W.cell? ⟨w.heap.size, 0, none⟩ = some (.int .i64 sz) ∧ W.cell? ⟨w.heap.size, 1, none⟩ = some (.slice A b.length c) ∧ Aside0 (Below w.heap.size w W) ∧ Aside0 (w.heap.size < W.heap.size)) (first | (refine ⟨by go_simp, by go_simp, ⟨below_drew HB0.out⟩, ⟨by simp⟩⟩) | (refine ⟨?_, ?_, ?_, ?_⟩ <;> assumption)) (first | (go_at_call 128; have hS : _ ∧ _ ∧ Aside0 (Below w.heap.size w _) ∧ Aside0 (w.heap.size < _) := (by assumption); refine (HC.out _ _ (by first | exact HS.out | exact HN.out) hS.2.2.1.out).mono ?_; rintro e w' ⟨rfl, hb⟩; have q1 := pw_cell_below hb hS.1; have q2 := pw_cell_below hb hS.2.1; have q3 := Aside0.mk (below_then hS.2.2.1.out hS.2.2.1.out.size hb); have q4 := Aside0.mk (Nat.lt_of_lt_of_le hS.2.2.2.out hb.size); clear hb hS))
      clear hw64
      go_wp2
      go_ret
      refine ⟨?_, q3.out⟩
      show Ending.returned (.bool _) = _
      congr 2
      simp only [mayB]
      rw [decide_eq_true h0, decide_eq_true h1, Bool.true_and, Bool.true_and, Bool.eq_iff_iff]
      simp only [beq_iff_eq, decide_eq_true_eq]
      omega
    · go_enter Tryd.func82, Tryd.ntmps82
      go_wp2_with fail
      go_ret
      exact ⟨by simp only [mayB]; rw [decide_eq_false (show ¬ sz ≤ 1000 by omega)]; simp, below_alloc (Below.refl _ _) _⟩
  · go_enter Tryd.func82, Tryd.ntmps82
    go_wp2_with fail
    go_ret
    exact ⟨by simp only [mayB]; rw [decide_eq_false (show ¬ 0 ≤ sz by omega)]; simp, below_alloc (Below.refl _ _) _⟩
theorem may1_calls (f : Fn0) (A : Option Addr) (c : Nat) (w : World) (hf : FnOk f) (hT : Tab64 w) (hr : (Kd.int .u64).C w A f.bits.length f.bits) (hl : f.bits.length ≤ c) :
    Calls Tryd.prog 81 #[.agg #[.int .i64 f.size, .slice A f.bits.length c]] w fun e w' => e = .returned (.bool (!mayB f)) ∧ Below w.heap.size w w' := by
  have HC := Aside0.mk (fun (W : World) (hB : Below w.heap.size w W) => may_calls f A c W hf (hT.below hB) (Kd.C_below hr hB) hl)
  clear hT hr hf
  have HB0 : Aside0 (Below w.heap.size w (w.alloc (Obj.cells #[Value.int IntKind.i64 f.size, Value.slice A f.bits.length c] 88 (0, 0)))) := ⟨below_alloc (Below.refl _ _) _⟩
  go_enter Tryd.func81, Tryd.ntmps81
  go_wp2_with (go_at_call 82; refine (HC.out _ HB0.out).mono ?_; rintro e w' ⟨rfl, hb⟩; have q3 := Aside0.mk (below_then HB0.out HB0.out.size hb); clear hb)
  go_ret
  exact ⟨rfl, q3.out⟩
/-- A row of functions at an index. -/
theorem at_Fn {w : World} {A : Option Addr} {n : Nat} {xs : List Fn0} (h : Kd.C kFn w A n xs) (i : Int) (h0 : 0 ≤ i) (h1 : i < n) : ∃ ad x A1 c1, A = some ad ∧ x ∈ xs ∧ xs[i.toNat]? = some x ∧ w.cell? (ad.add (i.toNat * 2)) = some (.int .i64 x.size) ∧ w.cell? ⟨(ad.add (i.toNat * 2)).block, (ad.add (i.toNat * 2)).off + 1, none⟩ = some (.slice A1 x.bits.length c1) ∧ x.bits.length ≤ c1 ∧ (Kd.int .u64).C w A1 x.bits.length x.bits := by
  obtain ⟨ad, e, hc⟩ := h.2.2 (by omega)
  have hl : i.toNat < xs.length := by have := h.1; omega
  obtain ⟨c, hs, hr, hcell⟩ := hc i.toNat _ (List.getElem?_eq_getElem hl)
  obtain ⟨A1, c1, rfl, l1, g1⟩ := kFn_open hr
  exact ⟨ad, xs[i.toNat], A1, c1, e, List.getElem_mem _, List.getElem?_eq_getElem hl, hcell 0 _ rfl, by have := hcell 1 _ rfl; rw [← add_field _ _ 1 (by omega)]; exact this, l1, g1⟩
set_option maxRecDepth 100000 in
theorem idx_Fn (A : Option Addr) (c : Nat) (xs : List Fn0) (g : Nat) (p : Fn0 → Bool) (w : World) (hr : kFn.C w A xs.length xs) (hl : xs.length ≤ c) (hm : xs.length ≤ 9223372036854775807)
    (heg : ∀ (args : Array Value) (W : World), (callFunc g args).run Tryd.prog W = .ok (.enter g args) W)
    (hcall : ∀ W x A1 c1, x ∈ xs → Below w.heap.size w W → (Kd.int .u64).C W A1 x.bits.length x.bits → x.bits.length ≤ c1 → Calls Tryd.prog g #[.agg #[.int .i64 x.size, .slice A1 x.bits.length c1]] W fun e W' => e = .returned (.bool (p x)) ∧ Below W.heap.size W W') :
    Calls Tryd.prog 127 #[.slice A xs.length c, .func (.func g) #[] #[]] w fun e w' => ∃ r : Int, e = .returned (.int .i64 r) ∧ decide (0 ≤ r) = xs.any p ∧ Below w.heap.size w w' := by
  have HR := Aside0.mk hr
  have HCALL := Aside0.mk hcall
  clear hr hcall
  go_enter Tryd.func127, Tryd.ntmps127
  go_wp2
  go_loopw [5, 8, 16] (fun _ i _ wr => ∃ k : Nat, k ≤ xs.length ∧ i = .int .i64 k ∧ Aside0 ((xs.take k).any p = false) ∧ Aside0 (Below w.heap.size w wr)) (fun _ i _ _ => xs.length - (intOf i).toNat)
  case atStart => exact ⟨0, Nat.zero_le _, rfl, ⟨by simp⟩, ⟨Below.refl _ _⟩⟩
  case round =>
    obtain ⟨k, hk, rfl, HN, HB⟩ := hrel
    by_cases hlt : k < xs.length
    · obtain ⟨ad, x, A1, c1, rfl, hmem, hget, hcell, hcell1, hl1, hr1⟩ := at_Fn (Kd.C_below HR.out HB.out) (k : Int) (by omega) (by omega)
      simp only [Int.toNat_natCast] at hcell hcell1 hget
      have HT := Aside0.mk (p := (xs.take (k + 1)).any p = ((xs.take k).any p || p x)) (by rw [List.take_add_one, hget, List.any_append]; simp)
      have HAny := Aside0.mk (p := p x = true → xs.any p = true) (fun h => List.any_eq_true.2 ⟨_, hmem, h⟩)
      have HC := Aside0.mk (HCALL.out wr x A1 c1 hmem HB.out hr1 hl1)
      clear hget hmem hr1 hl1
      cases hp : p x
      · have HP := Aside0.mk hp
        clear hp
        go_wp2_with (refine HC.out.mono ?_; rw [HP.out]; rintro e w' ⟨rfl, hb⟩; have HB2 := Aside0.mk (below_then HB.out HB.out.size hb); clear hb)
        go_roundw
        case rel => exact ⟨k + 1, by omega, by go_num, ⟨by rw [HT.out, HN.out, HP.out]; rfl⟩, HB2⟩
        case measure => simp [intOf]; omega
      · have HP := Aside0.mk hp
        clear hp
        go_wp2_with (refine HC.out.mono ?_; rw [HP.out]; rintro e w' ⟨rfl, hb⟩; have HB2 := Aside0.mk (below_then HB.out HB.out.size hb); clear hb)
        go_ret
        exact ⟨k, rfl, by rw [HAny.out HP.out]; simp, HB2.out⟩
    · go_wp2_with fail
      go_ret
      exact ⟨-1, rfl, by have := HN.out; rw [List.take_of_length_le (by omega)] at this; rw [this]; rfl, HB.out⟩
theorem cont_Fn (A : Option Addr) (c : Nat) (xs : List Fn0) (g : Nat) (p : Fn0 → Bool) (w : World) (hr : kFn.C w A xs.length xs) (hl : xs.length ≤ c) (hm : xs.length ≤ 9223372036854775807)
    (heg : ∀ (args : Array Value) (W : World), (callFunc g args).run Tryd.prog W = .ok (.enter g args) W)
    (hcall : ∀ W x A1 c1, x ∈ xs → Below w.heap.size w W → (Kd.int .u64).C W A1 x.bits.length x.bits → x.bits.length ≤ c1 → Calls Tryd.prog g #[.agg #[.int .i64 x.size, .slice A1 x.bits.length c1]] W fun e W' => e = .returned (.bool (p x)) ∧ Below W.heap.size W W') :
    Calls Tryd.prog 80 #[.slice A xs.length c, .func (.func g) #[] #[]] w fun e w' => e = .returned (.bool (xs.any p)) ∧ Below w.heap.size w w' := by
  have HI := Aside0.mk (idx_Fn A c xs g p w hr hl hm heg hcall)
  clear hr hcall heg
  go_enter Tryd.func80, Tryd.ntmps80
  go_wp2_with (go_at_call 127; refine HI.out.mono ?_; rintro e w' ⟨r, rfl, hd, hb⟩; have HD := Aside0.mk hd; clear hd; have HB := Aside0.mk hb; clear hb)
  go_ret
  exact ⟨by rw [← HD.out]; rfl, HB.out⟩
theorem May_calls (A : Option Addr) (c : Nat) (xs : List Fn0) (w : World) (hf : ∀ f ∈ xs, FnOk f) (hT : Tab64 w) (hr : kFn.C w A xs.length xs) (hl : xs.length ≤ c) :
    Calls Tryd.prog 37 #[.slice A xs.length c] w fun e w' => e = .returned (.bool (!(xs.any fun f => !mayB f))) ∧ Below w.heap.size w w' := by
  have HI := Aside0.mk (cont_Fn A c xs 81 (fun f => !mayB f) w hr hl hr.2.1 (enters_of Tryd.func81 (by kernel_rfl) rfl) (fun W x A1 c1 hx hB h1 h2 => may1_calls x A1 c1 W (hf x hx) (hT.below hB) h1 h2))
  clear hr hT hf
  go_enter Tryd.func37, Tryd.ntmps37
  go_wp2_with (go_at_call 80; refine HI.out.mono ?_; rintro e w' ⟨rfl, hb⟩; have HB := Aside0.mk hb; clear hb)
  go_ret
  exact ⟨rfl, HB.out⟩
end Go.Proofs.YtfaghjadjpiaiaaDoor.Sh
namespace Go.Proofs.YtfaghjadjpiaiaaDoor.Sh
open Go.RowKit Go.Shelf Go.Proofs.YtfaghjadjpiaiaaDoorW.PrintWords Go.Proofs.YtfaghjadjpiaiaaDoorW.PrintLast Go.Proofs.YtfaghjadjpiaiaaDoorW.PrintMore
set_option linter.unusedVariables false
set_option linter.unusedSimpArgs false
theorem info24 : (Tryd.prog.info? 24).map (fun i => (i.zero, i.size, i.bytes)) = some (some (.int .u64 0), 1, 8) := by kernel_rfl
theorem own_of_R {k : IntKind} {e : Nat} {w : World} {base : Nat} {ok : Nat → Prop} {v : Value} {xs : List Int} (h : (Kd.int k).R e w base ok v xs) : w.ownsRow base e 1 v xs.length (nums k xs) := Kd.own_of_R h
theorem C_of_own {k : IntKind} {e : Nat} {w : World} {base : Nat} {v : Value} {xs : List Int} (h : w.ownsRow base e 1 v xs.length (nums k xs)) : ∃ A c, v = .slice A xs.length c ∧ xs.length ≤ c ∧ (Kd.int k).C w A xs.length xs :=
  Kd.R_reads (Kd.R_of_own (enc := Value.int k) (h1 := fun _ => rfl) (ok := fun _ => True) h (fun _ _ => trivial))
theorem own_of_C {k : IntKind} (w : World) (base : Nat) (e : TypeId) : w.ownsRow base e 1 (.slice none 0 0) 0 (nums k []) := own_nil _ _ _ _
theorem cloneU_calls (A : Option Addr) (c : Nat) (b : List Int) (w : World) (hr : (Kd.int .u64).C w A b.length b) (hl : b.length ≤ c) (hb : b.length ≤ 1048576) :
    Calls Tryd.prog 59 #[.slice A b.length c] w fun e w' => ∃ v, e = .returned v ∧ w'.ownsRow w.heap.size 24 1 v b.length (nums .u64 b) ∧ Below w.heap.size w w' := by
  have qT : ∀ (w : World) (a : Option Addr) (n c n' c' : Nat), (binOp .eql 42 (.slice a n c) (.slice none n' c')).run Tryd.prog w = .ok (.bool a.isNone) w := fun w a n c n' c' => Lib.run_eql_slice_nil w _ _ a n c n' c' Tryd.underlying42
  have HR := Aside0.mk hr
  clear hr
  cases A with
  | none =>
    have hz : b = [] := by
      cases b with
      | nil => rfl
      | cons x r => obtain ⟨ad, h, _⟩ := HR.out.2.2 (by simp); cases h
    subst hz
    go_enter Tryd.func59, Tryd.ntmps59
    go_wp2
    go_ret
    exact ⟨_, rfl, own_nil _ _ _ _, Below.refl _ _⟩
  | some ad =>
    go_enter Tryd.func59, Tryd.ntmps59
    have HO : Aside0 ((Kd.int .u64).R 24 (w.alloc (.cells #[] 24)) w.heap.size (fun _ => True) (.slice (some ⟨w.heap.size, 0, none⟩) 0 0) []) := ⟨Kd.R_of_own (enc := Value.int .u64) (World.ownsRow_made w #[] 0 (Nat.le_refl _) (by unfold maxLen; omega) rfl) (fun _ _ => trivial)⟩
    have HB0 : Aside0 (Below w.heap.size w (w.alloc (.cells #[] 24))) := ⟨below_alloc (Below.refl _ _) _⟩
    have HR1 := Aside0.mk (Kd.C_below HR.out HB0.out)
    go_wp2_with (at_builtin; refine Kd.R_append_rows (Kd.int .u64) (w0 := w) w.heap.size rfl (.tmp 5) (.tmp 6) 42 24 (.int .u64 0) 8 rfl Tryd.underlying42 info24 rfl (by decide) (by omega) (.slice (some ⟨w.heap.size, 0, none⟩) 0 0) [] b (some ad) b.length c (fun _ => True) (fun _ => False) rfl rfl HO.out HR1.out (fun _ _ h => h) (fun _ h => h.elim) (fun _ _ => trivial) HB0.out (by simp) (by simp; omega) ?_; intro v1 w1 hR hB _ _; have HR2 := Aside0.mk hR; have HB2 := Aside0.mk hB; clear hR hB)
    go_ret
    exact ⟨_, rfl, by have := own_of_R HR2.out; simpa using this, HB2.out⟩
theorem fits_calls (i : Int) (w : World) : Calls Tryd.prog 84 #[.int .i64 i] w fun e w' => e = .returned (.bool (decide (0 ≤ i) && decide (i < 4096))) ∧ w = w' := by
  by_cases h0 : 0 ≤ i
  · go_enter Tryd.func84, Tryd.ntmps84
    go_wp2
    go_ret
    exact ⟨by simp [show decide (0 ≤ i) = true from decide_eq_true h0], rfl⟩
  · go_enter Tryd.func84, Tryd.ntmps84
    go_wp2
    go_ret
    exact ⟨by rw [show decide (0 ≤ i) = false from decide_eq_false (by omega)]; rfl, rfl⟩
def lenV : Value → Nat | .slice _ n _ => n | _ => 0
theorem cut_calls (A : Option Addr) (c : Nat) (b : List Int) (w : World) (hr : (Kd.int .u64).C w A b.length b) (hl : b.length ≤ c) (hm : b.length ≤ 9223372036854775807) :
    Calls Tryd.prog 129 #[.slice A b.length c] w fun e w' => ∃ m, m ≤ b.length ∧ e = .returned (.slice A m c) ∧ (∀ j : Nat, m ≤ j → rd b j = 0) ∧ w = w' := by
  have HR := Aside0.mk hr
  clear hr
  go_enter Tryd.func129, Tryd.ntmps129
  go_wp2
  go_loop [0] (fun v => ∃ m : Nat, m ≤ b.length ∧ v = .slice A m c ∧ Aside0 (∀ j : Nat, m ≤ j → rd b j = 0)) (fun v => lenV v)
  case atStart => exact ⟨b.length, Nat.le_refl _, rfl, ⟨fun j hj => by simp [rd, hj]⟩⟩
  case round =>
    obtain ⟨m, hmb, rfl, HZ⟩ := hrel
    by_cases hm0 : m = 0
    · subst hm0
      go_wp2
      go_ret
      exact ⟨0, Nat.zero_le _, rfl, HZ.out, rfl⟩
    · obtain ⟨ad, rfl, hcell⟩ := Kd.at_int HR.out ((m : Int) - 1) (by omega) (by omega)
      have hmp : 1 ≤ (m : Int) := by omega
      have hmc : m ≤ c := by omega
      have hm1 : 0 < m := by omega
      have hz0 : 0 ≤ (m : Int) - 1 := by omega
      have hidx : (m : Int) - 1 < m := by omega
      have e1 : ((m : Int) - 1).toNat = m - 1 := by omega
      rw [e1] at hcell
      by_cases hx : rd b ((m : Int) - 1) = 0
      · have HX := Aside0.mk hx
        rw [hx] at hcell
        clear hx e1
        go_wp2
        refine ⟨⟨m - 1, by omega, rfl, ⟨fun j hj => ?_⟩⟩, by simp only [lenV]; omega⟩
        by_cases hjm : j = m - 1
        · subst hjm; have := HX.out; rwa [show ((m : Int) - 1) = ((m - 1 : Nat) : Int) by omega] at this
        · exact HZ.out j (by omega)
      · have hxb : (rd b ((m : Int) - 1) == 0) = false := by simpa using hx
        clear hx e1
        go_wp2
        go_ret
        exact ⟨m, hmb, rfl, HZ.out, rfl⟩
theorem set_nums {k : IntKind} {e : Nat} {w : World} {base g c : Nat} {xs : List Int} (h : w.ownsRow base e 1 (.slice (some ⟨g, 0, none⟩) xs.length c) xs.length (nums k xs)) (j : Nat) (X : Int) :
    (w.setCell ⟨g, j, none⟩ (.int k X)).ownsRow base e 1 (.slice (some ⟨g, 0, none⟩) xs.length c) (xs.set j X).length (nums k (xs.set j X)) := by
  have := (h.stored j (.int k X)).1
  rw [List.length_set]
  have e : (nums k xs).set j (.int k X) = nums k (xs.set j X) := by simp [nums, List.map_set]
  rw [← e]
  exact this
theorem pow_wrap (k : Nat) (hk : k < 64) : IntKind.u64.wrap ((2 : Int) ^ k) = ((2 ^ k : Nat) : Int) := by
  have h : 2 ^ k ≤ 2 ^ 63 := Nat.pow_le_pow_right (by decide) (by omega)
  have e : ((2 : Int) ^ k) = ((2 ^ k : Nat) : Int) := by simp
  rw [e]
  generalize 2 ^ k = q at *
  rw [IntKind.wrap_u64]
  omega
theorem set_law (x s X1 X2 : Int) (k : Nat) (hk : k < 64) (hx : U64 x) (hs : s = IntKind.u64.wrap (2 ^ k)) (h1 : X1 = bits BinOp.andNot IntKind.u64 x s) (h2 : X2 = bits BinOp.or IntKind.u64 X1 s) :
    U64 X2 ∧ ∀ t, t < 64 → X2.toNat.testBit t = (x.toNat.testBit t || decide (t = k)) := by
  obtain ⟨n, rfl⟩ := Int.eq_ofNat_of_zero_le hx.1
  have hn : n < 18446744073709551616 := by have := hx.2; omega
  have hp : 2 ^ k < 18446744073709551616 := by
    have : 2 ^ k ≤ 2 ^ 63 := Nat.pow_le_pow_right (by decide) (by omega)
    omega
  rw [pow_wrap k hk] at hs
  rw [hs, u64_andNot_nat n (2 ^ k) hn hp] at h1
  have hm : n &&& (18446744073709551615 - 2 ^ k) < 18446744073709551616 := Nat.lt_of_le_of_lt Nat.and_le_left hn
  rw [hs, h1, bits_or_u64_nat _ _ hm hp] at h2
  have hlt : (n &&& (18446744073709551615 - 2 ^ k)) ||| 2 ^ k < 2 ^ 64 := Nat.or_lt_two_pow (by omega) (by omega)
  refine ⟨⟨by omega, by omega⟩, fun t ht => ?_⟩
  rw [h2, Int.toNat_natCast, Int.toNat_natCast, Nat.testBit_or, Nat.testBit_and, show 18446744073709551615 - 2 ^ k = 2 ^ 64 - (2 ^ k + 1) by omega, Nat.testBit_two_pow_sub_succ (by omega), Nat.testBit_two_pow]
  by_cases e : t = k
  · subst e; simp
  · simp [ht, e, show ¬ k = t by omega]
theorem rd_set (xs : List Int) (j : Nat) (X : Int) (hj : j < xs.length) (i : Int) (hi : 0 ≤ i) : rd (xs.set j X) i = if i = j then X else rd xs i := by
  simp only [rd, List.getD_eq_getElem?_getD]
  by_cases e : i = j
  · subst e
    simp [hj]
  · rw [if_neg e, List.getElem?_set_ne (by omega)]
theorem bits_law (b xs : List Int) (n w k : Nat) (x s X1 X2 : Int) (zs : List Int) (hxs : xs = b ++ List.replicate n 0) (hw : w < xs.length) (hk : k < 64) (hx : x = rd xs w) (hu : U64 x) (hs : s = IntKind.u64.wrap (2 ^ k)) (h1 : X1 = bits BinOp.andNot IntKind.u64 x s) (h2 : X2 = bits BinOp.or IntKind.u64 X1 s) (hzs : zs = xs.set w X2) :
    U64 X2 ∧ ∀ j, bitOf zs j = (bitOf b j || decide (j = 64 * w + k)) := by
  obtain ⟨hU, hT⟩ := set_law x s X1 X2 k hk hu hs h1 h2
  refine ⟨hU, fun j => ?_⟩
  have hb : bitOf xs j = bitOf b j := by
    unfold bitOf
    by_cases h0 : 0 ≤ j
    · by_cases hj : j / 64 < b.length
      · have e1 : rd xs (j / 64) = rd b (j / 64) := by
          simp only [rd, hxs, List.getD_eq_getElem?_getD]
          rw [List.getElem?_append_left (by omega)]
        rw [e1, decide_eq_true hj, decide_eq_true (show j / 64 < (xs.length : Int) by rw [hxs, List.length_append]; omega)]
      · rw [decide_eq_false hj]
        by_cases hj2 : j / 64 < xs.length
        · have e1 : rd xs (j / 64) = 0 := by
            simp only [rd, hxs, List.getD_eq_getElem?_getD]
            rw [List.getElem?_append_right (by omega), List.getElem?_replicate]
            split <;> rfl
          rw [e1]; simp
        · rw [decide_eq_false hj2]; simp
    · rw [decide_eq_false h0]; rfl
  rw [← hb]
  have hl : zs.length = xs.length := by rw [hzs, List.length_set]
  unfold bitOf
  rw [hl]
  by_cases h0 : 0 ≤ j
  · by_cases hj : j / 64 < xs.length
    · rw [decide_eq_true h0, decide_eq_true hj, Bool.true_and, Bool.true_and, Bool.true_and, hzs, rd_set xs w X2 hw _ (by omega)]
      by_cases e : j / 64 = w
      · rw [if_pos e, hT _ (by omega), hx, e]
        congr 1
        rw [Bool.eq_iff_iff]
        simp only [decide_eq_true_eq]
        omega
      · rw [if_neg e, decide_eq_false (show ¬ j = 64 * (w : Int) + k by omega), Bool.or_false]; simp
    · rw [decide_eq_false hj, decide_eq_false (show ¬ j = 64 * (w : Int) + k by omega)]; simp
  · rw [decide_eq_false h0, decide_eq_false (show ¬ j = 64 * (w : Int) + k by omega)]; simp
theorem bitOf_take (zs : List Int) (m : Nat) (hz : ∀ j : Nat, m ≤ j → rd zs j = 0) (j : Int) : bitOf (zs.take m) j = bitOf zs j := by
  unfold bitOf
  by_cases h0 : 0 ≤ j
  · by_cases hm : j / 64 < m
    · have e1 : rd (zs.take m) (j / 64) = rd zs (j / 64) := by
        simp only [rd, List.getD_eq_getElem?_getD]
        rw [List.getElem?_take, if_pos (by omega)]
      rw [e1, List.length_take]
      congr 2
      rw [Bool.eq_iff_iff]
      simp only [decide_eq_true_eq]
      omega
    · rw [decide_eq_false (show ¬ j / 64 < ((zs.take m).length : Int) by rw [List.length_take]; omega)]
      have := hz (j / 64).toNat (by omega)
      rw [show (((j / 64).toNat : Nat) : Int) = j / 64 by omega] at this
      rw [this]; simp
  · rw [decide_eq_false h0]; rfl
theorem C_take {α : Type} {d : Kd α} {w : World} {A : Option Addr} {n m : Nat} {xs : List α} (h : d.C w A n xs) (hm : m ≤ n) : d.C w A m (xs.take m) := by
  refine ⟨by rw [List.length_take, h.1]; omega, by have := h.2.1; omega, fun h0 => ?_⟩
  obtain ⟨ad, e, hc⟩ := h.2.2 (by omega)
  refine ⟨ad, e, fun j p hj => hc j p ?_⟩
  rw [List.getElem?_take] at hj
  split at hj
  · exact hj
  · cases hj
theorem own_take {k : IntKind} {e : Nat} {w : World} {base g n m c : Nat} {xs : List Int} (h : w.ownsRow base e 1 (.slice (some ⟨g, 0, none⟩) n c) n (nums k xs)) (hm : m ≤ n) : w.ownsRow base e 1 (.slice (some ⟨g, 0, none⟩) m c) m (nums k (xs.take m)) := by
  obtain ⟨h1, h2⟩ := h
  rcases h2 with ⟨h2, _⟩ | ⟨g', cap, cur, hv, hb, hh, hc, hcm, hcs, ht⟩
  · cases h2
  · cases hv
    refine ⟨by rw [nums_length, List.length_take] at *; omega, .inr ⟨g, c, cur, rfl, hb, hh, by omega, hcm, hcs, ?_⟩⟩
    have e1 : nums k (xs.take m) = (nums k xs).take m := by simp [nums, List.map_take]
    rw [e1, ← ht, List.take_take]
    congr 1
    omega
def PostW (b : List Int) (i : Int) (w : World) (v : Value) (w' : World) : Prop := ∃ b1, w'.ownsRow w.heap.size 24 1 v b1.length (nums .u64 b1) ∧ AllU b1 ∧ b1.length ≤ 64 ∧ (∀ j, bitOf b1 j = (bitOf b j || decide (j = i))) ∧ Below w.heap.size w w'
set_option maxRecDepth 100000 in
set_option maxHeartbeats 1000000 in
theorem With_calls (A : Option Addr) (c : Nat) (b : List Int) (i : Int) (w : World) (hr : (Kd.int .u64).C w A b.length b) (hl : b.length ≤ c) (hb : b.length ≤ 64) (hu : AllU b) (h0 : 0 ≤ i) (h1 : i < 4096) :
    Calls Tryd.prog 85 #[.slice A b.length c, .int .i64 i, .bool true] w fun e w' => ∃ v, e = .returned v ∧ PostW b i w v w' := by
  have HC := Aside0.mk (cloneU_calls A c b w hr hl (by omega))
  have HF := Aside0.mk (fun W => fits_calls i W)
  rw [show decide (0 ≤ i) = true from decide_eq_true h0, show decide (i < 4096) = true from decide_eq_true h1] at HF
  clear hr
  go_enter Tryd.func85, Tryd.ntmps85
  go_wp2_with (first | (go_at_call 59; refine HC.out.mono ?_; rintro e w1 ⟨v, rfl, ho, hb1⟩; have HO := Aside0.mk ho; have HB := Aside0.mk hb1; clear ho hb1) | (go_at_call 84; refine (HF.out _).mono ?_; rintro e w2 ⟨rfl, rfl⟩))
  have hi64 : i / 64 < 64 := by omega
  have hi0 : 0 ≤ i / 64 := by omega
  go_loopw [7] (fun u wr => ∃ (n A1 c1 : _), u = .slice A1 (b.length + n) c1 ∧ (n = 0 ∨ b.length + n ≤ (i / 64).toNat + 1) ∧ Aside0 (wr.ownsRow w.heap.size 24 1 u (b ++ List.replicate n 0).length (nums .u64 (b ++ List.replicate n 0))) ∧ Aside0 (Below w.heap.size w wr)) (fun u _ => (i / 64).toNat + 1 - lenV u)
  case atStart =>
    obtain ⟨A1, c1, rfl, _⟩ := own_reads HO.out
    exact ⟨0, A1, c1, rfl, Or.inl rfl, ⟨by simpa using HO.out⟩, HB⟩
  case round =>
    obtain ⟨n, A1, c1, rfl, hn, HO1, HB1⟩ := hrel
    by_cases hlt : (b.length : Int) + n ≤ i / 64
    · go_wp2_with (at_builtin; refine print_append_num (w0 := w) w.heap.size rfl (.tmp 20) (.tmp 21) 42 24 .u64 8 rfl Tryd.underlying42 info24 (by omega) _ (b ++ List.replicate n 0) _ rfl rfl HO1.out HB1.out HB1.out.size (by rw [List.length_append, List.length_replicate]; omega) ?_; intro v1 w3 hO hB _ _; have HO3 := Aside0.mk hO; have HB3 := Aside0.mk hB; clear hO hB)
      have hs : ∃ A2 c2, v1 = .slice A2 (b.length + (n + 1)) c2 := by
        obtain ⟨A2, c2, h, _⟩ := own_reads HO3.out
        exact ⟨A2, c2, by rw [h]; simp [Nat.add_assoc]⟩
      obtain ⟨A2, c2, rfl⟩ := hs
      go_wp2
      refine ⟨⟨n + 1, A2, c2, rfl, Or.inr (by omega), ⟨?_⟩, HB3⟩, by simp only [lenV]; omega⟩
      rw [List.replicate_succ', ← List.append_assoc]
      exact HO3.out
    · obtain ⟨xs, hxs⟩ : ∃ xs, xs = b ++ List.replicate n 0 := ⟨_, rfl⟩
      have hxl : xs.length = b.length + n := by rw [hxs, List.length_append, List.length_replicate]
      rw [← hxs] at HO1
      have HX := Aside0.mk hxs
      clear hxs
      rw [← hxl]
      rw [← hxl] at hn HO1
      have hlt2 : i / 64 < xs.length := by omega
      have HXL := Aside0.mk hxl
      clear hxl
      obtain ⟨g, cap, hv, _, _⟩ := HO1.out.form (by omega)
      cases hv
      have hxm : rd xs (i / 64) ∈ xs := rd_mem hi0 hlt2
      have HU : Aside0 (U64 (rd xs (i / 64))) := ⟨by
        rw [HX.out] at hxm ⊢
        rcases List.mem_append.1 hxm with h | h
        · exact hu _ h
        · rw [(List.mem_replicate.1 h).2]; exact ⟨by decide, by decide⟩⟩
      clear hxm
      have hidx : (i / 64).toNat < xs.length := by omega
      have hcell : wr.cell? ⟨g, (i / 64).toNat, none⟩ = some (.int .u64 (rd xs (i / 64))) := by
        rw [HO1.out.cellAt _ (by simpa using hidx)]
        simp [nums, rd, List.getElem?_eq_getElem hidx]
      have hfz := HO1.out.frozenAt (i / 64).toNat
      obtain ⟨x, hx⟩ : ∃ x, x = rd xs (i / 64) := ⟨_, rfl⟩
      rw [← hx] at hcell HU
      have HXD := Aside0.mk hx
      clear hx hidx
      have hge : ¬ (xs.length : Int) ≤ i / 64 := by omega
      go_wp2
      go_region
      go_wp2
      obtain ⟨s, hs⟩ : ∃ s, s = IntKind.u64.wrap (2 ^ (i % 64).toNat) := ⟨_, rfl⟩
      rw [← hs]
      have HSD := Aside0.mk hs
      clear hs
      obtain ⟨X1, hX1⟩ : ∃ X1, X1 = bits BinOp.andNot IntKind.u64 x s := ⟨_, rfl⟩
      rw [← hX1]
      have HX1 := Aside0.mk hX1
      clear hX1 hcell
      have hst := set_nums HO1.out (i / 64).toNat X1
      have HB6 : Aside0 (Below w.heap.size w ((wr.setCell ⟨g, (i / 64).toNat, none⟩ (.int .u64 X1)).drew)) := ⟨below_drew (HB1.out.setCell (by assumption) _)⟩
      have HO6 : Aside0 (((wr.setCell ⟨g, (i / 64).toNat, none⟩ (.int .u64 X1)).drew).ownsRow w.heap.size 24 1 (.slice (some ⟨g, 0, none⟩) xs.length c1) (xs.set (i / 64).toNat X1).length (nums .u64 (xs.set (i / 64).toNat X1))) := ⟨hst⟩
      clear hst
      generalize ((wr.setCell ⟨g, (i / 64).toNat, none⟩ (.int .u64 X1)).drew) = W6 at *
      obtain ⟨ys, hys⟩ : ∃ ys, ys = xs.set (i / 64).toNat X1 := ⟨_, rfl⟩
      rw [← hys] at HO6
      have hyl : xs.length = ys.length := by rw [hys, List.length_set]
      rw [hyl] at HO6
      have hidx : (i / 64).toNat < ys.length := by omega
      have hcell6 : W6.cell? ⟨g, (i / 64).toNat, none⟩ = some (.int .u64 X1) := by
        rw [HO6.out.cellAt _ (by simpa using hidx)]
        simp [nums, hys, show (i / 64).toNat < xs.length by omega]
      have hfz6 := HO6.out.frozenAt (i / 64).toNat
      have HYD := Aside0.mk hys
      have HYL := Aside0.mk hyl
      clear hys hidx hfz hyl
      go_region
      go_wp2_with fail
      rw [← HSD.out]
      obtain ⟨X2, hX2⟩ : ∃ X2, X2 = bits BinOp.or IntKind.u64 X1 s := ⟨_, rfl⟩
      rw [← hX2]
      have HX2 := Aside0.mk hX2
      clear hX2 hcell6 hfz6
      have hst := set_nums HO6.out (i / 64).toNat X2
      have HB8 : Aside0 (Below w.heap.size w ((W6.setCell ⟨g, (i / 64).toNat, none⟩ (.int .u64 X2)).drew)) := ⟨below_drew (HB6.out.setCell (by assumption) _)⟩
      have HO8 : Aside0 (((W6.setCell ⟨g, (i / 64).toNat, none⟩ (.int .u64 X2)).drew).ownsRow w.heap.size 24 1 (.slice (some ⟨g, 0, none⟩) ys.length c1) (ys.set (i / 64).toNat X2).length (nums .u64 (ys.set (i / 64).toNat X2))) := ⟨hst⟩
      clear hst
      generalize ((W6.setCell ⟨g, (i / 64).toNat, none⟩ (.int .u64 X2)).drew) = W8 at *
      obtain ⟨zs, hzs⟩ : ∃ zs, zs = ys.set (i / 64).toNat X2 := ⟨_, rfl⟩
      rw [← hzs] at HO8
      have hzl : ys.length = zs.length := by rw [hzs, List.length_set]
      have hxy : xs.length = ys.length := HYL.out
      rw [hxy, hzl]
      rw [hzl] at HO8
      have HL := bits_law b xs n (i / 64).toNat (i % 64).toNat x s X1 X2 zs HX.out (by omega) (by omega) (by rw [HXD.out]; congr 1; omega) HU.out HSD.out HX1.out HX2.out (by rw [hzs, HYD.out, List.set_set])
      obtain ⟨A3, c3, hv3, hlc, hC⟩ := C_of_own HO8.out
      cases hv3
      refine (cut_calls _ _ zs W8 hC hlc hC.2.1).mono ?_
      rintro e W9 ⟨m, hmz, rfl, hz, rfl⟩
      have hz64 : zs.length ≤ 64 := by have := HXL.out; omega
      have HPost : Aside0 (PostW b i w (Value.slice (some ⟨g, 0, none⟩) m c1) W8) := ⟨by
        refine ⟨zs.take m, ?_, ?_, ?_, ?_, HB8.out⟩
        · rw [List.length_take, Nat.min_eq_left hmz]; exact own_take HO8.out hmz
        · intro y hy
          have hy := List.mem_of_mem_take hy
          rw [hzs, HYD.out, List.set_set] at hy
          rcases List.mem_or_eq_of_mem_set hy with h | h
          · rw [HX.out] at h
            rcases List.mem_append.1 h with h | h
            · exact hu _ h
            · rw [(List.mem_replicate.1 h).2]; exact ⟨by decide, by decide⟩
          · rw [h]; exact HL.1
        · rw [List.length_take]; omega
        · intro j
          rw [bitOf_take zs m hz j, HL.2 j]
          congr 2
          rw [eq_iff_iff]
          omega⟩
      clear HL hz hC hzs hzl hxy hlc hu hz64 hlt2 hn
      go_wp2
      go_ret
      exact ⟨_, rfl, HPost.out⟩
/-- The bits of a row of numbers. -/
def OfL (l : List Int) (j : Int) : Bool := decide (0 ≤ j) && (decide (j < 4096) && decide (j ∈ l))
theorem OfL_in (l : List Int) (x j : Int) (h0 : 0 ≤ x) (h1 : x < 4096) : OfL (l ++ [x]) j = (OfL l j || decide (j = x)) := by
  unfold OfL
  rw [Bool.eq_iff_iff]
  simp only [Bool.and_eq_true, Bool.or_eq_true, decide_eq_true_eq, List.mem_append, List.mem_singleton]
  constructor
  · rintro ⟨a, b, h | h⟩
    · exact Or.inl ⟨a, b, h⟩
    · exact Or.inr h
  · rintro (⟨a, b, h⟩ | h)
    · exact ⟨a, b, Or.inl h⟩
    · subst h; exact ⟨h0, h1, Or.inr rfl⟩
theorem OfL_out (l : List Int) (x j : Int) (h : ¬ (0 ≤ x ∧ x < 4096)) : OfL (l ++ [x]) j = OfL l j := by
  unfold OfL
  rw [Bool.eq_iff_iff]
  simp only [Bool.and_eq_true, decide_eq_true_eq, List.mem_append, List.mem_singleton]
  constructor
  · rintro ⟨a, b, g | g⟩
    · exact ⟨a, b, g⟩
    · subst g; exact absurd ⟨a, b⟩ h
  · rintro ⟨a, b, g⟩
    exact ⟨a, b, Or.inl g⟩
def IsBits (l : List Int) (w : World) (v : Value) (w' : World) : Prop := ∃ b1, w'.ownsRow w.heap.size 24 1 v b1.length (nums .u64 b1) ∧ AllU b1 ∧ b1.length ≤ 64 ∧ (∀ j, bitOf b1 j = OfL l j) ∧ Below w.heap.size w w'
theorem bitOf_nil (j : Int) : bitOf [] j = false := by
  unfold bitOf
  by_cases h : 0 ≤ j
  · rw [decide_eq_false (show ¬ j / 64 < (([] : List Int).length : Int) by simp only [List.length_nil]; omega)]; simp
  · rw [decide_eq_false h]; rfl
theorem IsBits.nil (w : World) : IsBits [] w (.slice none 0 0) w := ⟨[], own_nil _ _ _ _, (by intro x h; cases h), (by simp), (fun j => by rw [bitOf_nil]; simp [OfL]), Below.refl _ _⟩
theorem take_next {l : List Int} {k : Nat} (h : k < l.length) : l.take (k + 1) = l.take k ++ [rd l k] := by
  rw [List.take_succ_eq_append_getElem h]
  simp [rd, List.getElem?_eq_getElem h]
set_option maxRecDepth 100000 in
theorem Of_calls (A : Option Addr) (c : Nat) (l : List Int) (w : World) (hr : (Kd.int .i64).C w A l.length l) (hl : l.length ≤ c) :
    Calls Tryd.prog 39 #[.slice A l.length c] w fun e w' => ∃ v, e = .returned v ∧ IsBits l w v w' := by
  have HR := Aside0.mk hr
  have hm := hr.2.1
  clear hr
  go_enter Tryd.func39, Tryd.ntmps39
  go_wp2
  go_loopw [3, 8] (fun v i wr => ∃ k : Nat, k ≤ l.length ∧ i = .int .i64 k ∧ Aside0 (IsBits (l.take k) w v wr)) (fun _ i _ => l.length - (intOf i).toNat)
  case atStart => exact ⟨0, Nat.zero_le _, rfl, ⟨IsBits.nil w⟩⟩
  case round =>
    obtain ⟨k, hk, rfl, HI⟩ := hrel
    by_cases hlt : k < l.length
    · obtain ⟨b1, hO, hU, hlen, hbit, hB⟩ := HI.out
      obtain ⟨A1, c1, rfl, hlc, hC⟩ := C_of_own hO
      have HO := Aside0.mk hO
      clear hO
      obtain ⟨ad, rfl, hcell⟩ := Kd.at_int (Kd.C_below HR.out hB) (k : Int) (by omega) (by omega)
      simp only [Int.toNat_natCast] at hcell
      have HT := Aside0.mk (take_next hlt)
      obtain ⟨x, hx⟩ : ∃ x, x = rd l k := ⟨_, rfl⟩
      rw [← hx] at HT hcell
      clear hx
      have HF := Aside0.mk (fits_calls x wr)
      by_cases hf : 0 ≤ x ∧ x < 4096
      · rw [show decide (0 ≤ x) = true from decide_eq_true hf.1, show decide (x < 4096) = true from decide_eq_true hf.2] at HF
        have HW := Aside0.mk (With_calls A1 c1 b1 x wr hC hlc hlen hU hf.1 hf.2)
        have HBit := Aside0.mk hbit
        have HB := Aside0.mk hB
        have HF1 := Aside0.mk hf
        clear hC hlc hlen hU hf hbit hB
        go_wp2_with (first | (go_at_call 84; refine HF.out.mono ?_; rintro e w2 ⟨rfl, rfl⟩) | (go_at_call 85; refine HW.out.mono ?_; rintro e w2 ⟨v2, rfl, b2, g1, g3, g4, g5, g6⟩; have HPost : Aside0 (IsBits (l.take (k + 1)) w v2 w2) := ⟨⟨b2, own_weaken g1 HB.out.size, g3, g4, (fun j => by rw [g5 j, HBit.out j, HT.out, OfL_in _ _ _ HF1.out.1 HF1.out.2]), below_then HB.out HB.out.size g6⟩⟩; clear g1 g3 g4 g5 g6))
        go_roundw
        case rel => exact ⟨k + 1, by omega, by go_num, HPost⟩
        case measure => simp [intOf]; omega
      · rw [show (decide (0 ≤ x) && decide (x < 4096)) = false by rw [Bool.eq_false_iff]; intro h; simp only [Bool.and_eq_true, decide_eq_true_eq] at h; exact hf h] at HF
        have HPost : Aside0 (IsBits (l.take (k + 1)) w (.slice A1 b1.length c1) wr) := ⟨⟨b1, HO.out, hU, hlen, (fun j => by rw [hbit j, HT.out, OfL_out _ _ _ hf]), hB⟩⟩
        clear hC hlc hlen hU hf hbit hB
        go_wp2_with (go_at_call 84; refine HF.out.mono ?_; rintro e w2 ⟨rfl, rfl⟩)
        go_roundw
        case rel => exact ⟨k + 1, by omega, by go_num, HPost⟩
        case measure => simp [intOf]; omega
    · have HI2 : Aside0 (IsBits l w u3 wr) := ⟨by have := HI.out; rwa [List.take_of_length_le (by omega)] at this⟩
      go_wp2
      go_ret
      exact ⟨_, rfl, HI2.out⟩
end Go.Proofs.YtfaghjadjpiaiaaDoor.Sh
namespace Go.Proofs.YtfaghjadjpiaiaaDoor.Sh
open Go.RowKit Go.Shelf Go.Proofs.YtfaghjadjpiaiaaDoorW.PrintWords Go.Proofs.YtfaghjadjpiaiaaDoorW.PrintLast Go.Proofs.YtfaghjadjpiaiaaDoorW.PrintMore
set_option linter.unusedVariables false
set_option linter.unusedSimpArgs false
/-- What an entry of a table says of its function. -/
structure EntOk (f : Fn0) (e : Ent) : Prop where
  size : e.size = f.size
  ptrs : e.ptrs = bitsOf f.bits f.size
  bits : ∀ j, bitOf e.bits j = OfL (bitsOf f.bits f.size) j
  all : AllU e.bits
def TabOk (l : List Fn0) (t : List Ent) : Prop := t.length = l.length ∧ ∀ (i : Nat) (f : Fn0) (e : Ent), l[i]? = some f → t[i]? = some e → EntOk f e
theorem TabOk.nil : TabOk [] [] := ⟨rfl, fun i f e h => by simp at h⟩
theorem TabOk.snoc {l : List Fn0} {t : List Ent} {f : Fn0} {e : Ent} (h : TabOk l t) (he : EntOk f e) : TabOk (l ++ [f]) (t ++ [e]) := by
  obtain ⟨h1, h2⟩ := h
  refine ⟨by simp [h1], fun i g d hg hd => ?_⟩
  rcases Nat.lt_trichotomy i l.length with hi | hi | hi
  · rw [List.getElem?_append_left hi] at hg
    rw [List.getElem?_append_left (by omega)] at hd
    exact h2 i g d hg hd
  · subst hi
    rw [List.getElem?_append_right (Nat.le_refl _)] at hg
    rw [List.getElem?_append_right (by omega)] at hd
    simp at hg
    simp [h1] at hd
    subst hg; subst hd
    exact he
  · rw [List.getElem?_eq_none (by simp; omega)] at hg
    cases hg
theorem kEnt_mkM (w : World) (base : Nat) (ok : Nat → Prop) (x : Ent) {v1 v2 : Value} (g1 : (Kd.int .u64).R 24 w base ok v1 x.bits) (g2 : (Kd.int .i64).R 3 w base ok v2 x.ptrs) : kEnt.M w base ok x [.int .i64 x.size, v1, v2] :=
  ⟨[.int .i64 x.size], [v1, v2], rfl, rfl, [v1], [v2], rfl, ⟨v1, rfl, g1⟩, ⟨v2, rfl, g2⟩⟩
/-- May a table be? -/
def newB (l : List Fn0) : Bool := decide (1 ≤ l.length) && (decide (l.length ≤ 100) && !(l.any fun f => !mayB f))
theorem info92 : (Tryd.prog.info? 92).map (fun i => (i.zero, i.size, i.bytes)) = some (some (.agg #[.int .i64 0, .slice none 0 0, .slice none 0 0]), 3, 56) := by kernel_rfl
theorem take_get {α : Type} {l : List α} {k : Nat} {x : α} (h : l[k]? = some x) : l.take (k + 1) = l.take k ++ [x] := by
  rw [List.take_add_one, h]; rfl
/-- The state of New's loop. -/
structure NewI (l : List Fn0) (w : World) (g : Nat) (k : Nat) (wr : World) : Prop where
  out : ∃ v t, wr.heap[g]? = some (.cells #[v] 86 (0, 0)) ∧ kEnt.R 92 wr w.heap.size (fun _ => True) v t ∧ TabOk (l.take k) t ∧ Below w.heap.size w wr ∧ w.heap.size ≤ g
set_option maxRecDepth 100000 in
set_option maxHeartbeats 1000000 in
theorem New_ok (A : Option Addr) (c : Nat) (l : List Fn0) (w : World) (hf : ∀ f ∈ l, FnOk f) (hT : Tab64 w) (hr : kFn.C w A l.length l) (hl : l.length ≤ c) (hn : newB l = true) :
    Calls Tryd.prog 9 #[.slice A l.length c] w fun e w' => ∃ a t, e = .returned (.tuple #[.pointer (some ⟨a, 0, none⟩), .int .i64 0]) ∧ IsTab w' a t ∧ TabOk l t ∧ w.heap.size ≤ a ∧ Below w.heap.size w w' := by
  simp only [newB, Bool.and_eq_true, decide_eq_true_eq] at hn
  obtain ⟨h1, h2, h3⟩ := hn
  have HM := Aside0.mk (May_calls A c l w hf hT hr hl)
  rw [h3] at HM
  have HT := Aside0.mk hT
  have HR := Aside0.mk hr
  have HF := Aside0.mk hf
  clear hf hT hr h3
  have hne : ¬ (l.length : Int) < 1 := by omega
  have hle : ¬ (100 : Int) < l.length := by omega
  go_enter Tryd.func9, Tryd.ntmps9
  go_wp2_with (go_at_call 37; refine HM.out.mono ?_; rintro e w1 ⟨rfl, hb⟩; have HB := Aside0.mk hb; clear hb)
  have HI : Aside0 (NewI l w w1.heap.size 0 (w1.alloc (.cells #[.slice none 0 0] 86))) := ⟨⟨⟨_, [], heap_alloc_new _ _, Kd.R_nil _ _ _ _ _, TabOk.nil, HB.out.alloc HB.out.size _, HB.out.size⟩⟩⟩
  generalize hg : w1.heap.size = g at *
  clear hg
  go_wp2
  generalize w1.alloc (.cells #[.slice none 0 0] 86) = w2 at *
  go_loopw [25] (fun i wr => ∃ k : Nat, k ≤ l.length ∧ i = .int .i64 k ∧ Aside0 (NewI l w g k wr)) (fun i _ => l.length - (intOf i).toNat)
  case atStart => exact ⟨0, Nat.zero_le _, rfl, HI⟩
  case round =>
    obtain ⟨k, hk, rfl, HI2⟩ := hrel
    by_cases hlt : k < l.length
    · obtain ⟨v, t, hblk, hR, hTO, hB, hgg⟩ := HI2.out.out
      obtain ⟨A2, c2, rfl⟩ := Kd.R_slice hR
      obtain ⟨ad, x, A1, c1, rfl, hmem, hget, hcell, hcell1, hl1, hr1⟩ := at_Fn (Kd.C_below HR.out hB) (k : Int) (by omega) (by omega)
      simp only [Int.toNat_natCast] at hcell hcell1 hget
      have hq : Below wr.heap.size wr (wr.alloc (.cells #[.int .i64 x.size, .slice A1 x.bits.length c1] 88)) := below_alloc (Below.refl _ _) _
      have hfx := HF.out x hmem
      have HBits := Aside0.mk (Bits_calls A1 c1 x.bits x.size _ ((HT.out.below hB).below hq) (Kd.C_below hr1 hq) hl1 hfx.bits hfx.len hfx.size)
      have hblk6 : (wr.alloc (.cells #[.int .i64 x.size, .slice A1 x.bits.length c1] 88)).heap[wr.heap.size]? = some (.cells #[.int .i64 x.size, .slice A1 x.bits.length c1] 88 (0, 0)) := heap_alloc_new _ _
      have HQ := Aside0.mk hq
      have HBlk := Aside0.mk hblk
      have HBlk6 := Aside0.mk hblk6
      have HRR := Aside0.mk hR
      have HTO := Aside0.mk (show TabOk (l.take k) t from hTO)
      have HGet := Aside0.mk hget
      have HBw := Aside0.mk hB
      clear hblk hR hTO hB hq hfx hmem hget hblk6 hl1 hr1
      go_wp2_with (go_at_call 38; refine HBits.out.mono ?_; rintro e w7 ⟨v7, rfl, ho, hb⟩; obtain ⟨A7, c7, rfl, hl7, hC7⟩ := C_of_own ho; have HO7 := Aside0.mk ho; have HB7 := Aside0.mk hb; have HC7 := Aside0.mk hC7; have HL7 := Aside0.mk hl7; clear ho hb hC7 hl7)
      obtain ⟨ps, hps⟩ : ∃ ps, ps = bitsOf x.bits x.size := ⟨_, rfl⟩
      rw [← hps] at HO7 HC7 HL7
      rw [← hps]
      have HPS := Aside0.mk hps
      have hpl : ps.length ≤ 67108864 := by
        have h1 := bitsFrom_length x.size x.bits 0 (HF.out x (by have := HGet.out; exact List.mem_of_getElem? this)).bits
        have h2 := (HF.out x (by have := HGet.out; exact List.mem_of_getElem? this)).len
        rw [hps]; unfold bitsOf; omega
      clear hps HBits
      have hB67 := HB7.out
      have hB7 : Below wr.heap.size wr w7 := below_then HQ.out HQ.out.size hB67
      have hblk7 := (hB7.block _ (blk_lt HBlk.out)).trans HBlk.out
      have hblk7q := (hB67.block _ (blk_lt HBlk6.out)).trans HBlk6.out
      have hR7 := Kd.R_below HRR.out hB7
      have hlen7 : t.length ≤ 100 := by have := HTO.out.1; rw [List.length_take] at this; omega
      have hb07 : Below w.heap.size w w7 := below_then HBw.out HBw.out.size hB7
      have hge7 : w.heap.size ≤ wr.heap.size + 1 := by have := HBw.out.size; omega
      have hsz7 : (wr.alloc (.cells #[.int .i64 x.size, .slice A1 x.bits.length c1] 88)).heap.size = wr.heap.size + 1 := by simp
      have HO7p : Aside0 (w7.ownsRow (wr.heap.size + 1) 3 1 (.slice A7 ps.length c7) ps.length (nums .i64 ps)) := ⟨by rw [← hsz7]; exact HO7.out⟩
      have hqlt : wr.heap.size < w7.heap.size := blk_lt hblk7q
      have hown7 : ∀ k, (Value.slice A2 t.length c2).ownBlock = some k → k < wr.heap.size := by
        intro k hk
        obtain ⟨inner, ho⟩ := Kd.R_own HRR.out
        exact own_lt ho k hk
      have hgne : some g ≠ (Value.slice A2 t.length c2).ownBlock := Kd.R_ne hR7 hblk7 (by decide)
      have hqne : some wr.heap.size ≠ (Value.slice A2 t.length c2).ownBlock := fun h => by have := hown7 _ h.symm; omega
      generalize hqq : wr.heap.size = q at *
      clear hqq
      have HR7 := Aside0.mk hR7
      have HB07 := Aside0.mk hb07
      have HBlk7 := Aside0.mk hblk7
      have HBlkq := Aside0.mk hblk7q
      have HOwn := Aside0.mk hown7
      have HGne := Aside0.mk hgne
      have HQne := Aside0.mk hqne
      have hg7 : w7.cell? ⟨g, 0, none⟩ = some (.slice A2 t.length c2) := (blk_cell hblk7 0).trans rfl
      have hq7 : w7.cell? ⟨q, 0, none⟩ = some (.int .i64 x.size) := (blk_cell hblk7q 0).trans rfl
      clear hB67 hB7 hblk7 hblk7q hR7 hb07 hown7 hgne hqne hsz7 HO7
      refine start_ (n := 17) (S := fun w' => w'.cell? ⟨g, 0, none⟩ = some (.slice A2 t.length c2) ∧ w'.cell? ⟨q, 0, none⟩ = some (.int .i64 x.size)) (ds := [16]) #[false, false, false, false, false, false, false, false, false, false, false, false, false, false, false, false, false] (by kernel_rfl) rfl rfl ⟨hg7, hq7⟩ (fun hHeld => ?_)
      refine pure_ (i := 0) (N := some 34) (v := ?_) (a' := ?_) #[true, false, false, false, false, false, false, false, false, false, false, false, false, false, false, false, false] rfl rfl (by kernel_rfl) (fun _ _ _ h => h) (Or.inl ⟨by rfl, ?_⟩) ?_ ?_
      rotate_left
      · intro w'
        go_simp
        with_reducible rfl
      rotate_left
      · simp only [Act.put, List.setIfInBounds_toArray, List.set_cons_zero, List.set_cons_succ, i64_w, i32_w]
        rfl
      refine pure_ (i := 1) (N := some 35) (v := ?_) (a' := ?_) #[true, true, false, false, false, false, false, false, false, false, false, false, false, false, false, false, false] rfl rfl (by kernel_rfl) (fun _ _ _ h => h) (Or.inl ⟨by rfl, ?_⟩) ?_ ?_
      rotate_left
      · intro w'
        go_simp
        with_reducible rfl
      rotate_left
      · simp only [Act.put, List.setIfInBounds_toArray, List.set_cons_zero, List.set_cons_succ, i64_w, i32_w]
        rfl
      refine pure_ (i := 2) (N := some 36) (v := ?_) (a' := ?_) #[true, true, true, false, false, false, false, false, false, false, false, false, false, false, false, false, false] rfl rfl (by kernel_rfl) (fun _ _ _ h => h) (Or.inl ⟨by rfl, ?_⟩) ?_ ?_
      rotate_left
      · intro w'
        go_simp
        with_reducible rfl
      rotate_left
      · simp only [Act.put, List.setIfInBounds_toArray, List.set_cons_zero, List.set_cons_succ, i64_w, i32_w]
        rfl
      refine pure_ (i := 3) (N := some 37) (v := ?_) (a' := ?_) #[true, true, true, true, false, false, false, false, false, false, false, false, false, false, false, false, false] rfl rfl (by kernel_rfl) (fun _ _ _ h => h) (Or.inl ⟨by rfl, ?_⟩) ?_ ?_
      rotate_left
      · intro w'
        go_simp
        with_reducible rfl
      rotate_left
      · simp only [Act.put, List.setIfInBounds_toArray, List.set_cons_zero, List.set_cons_succ, i64_w, i32_w]
        rfl
      refine pure_ (i := 5) (N := some 39) (v := ?_) (a' := ?_) #[true, true, true, true, false, true, false, false, false, false, false, false, false, false, false, false, false] rfl rfl (by kernel_rfl) (fun _ _ _ h => h) (Or.inl ⟨by rfl, ?_⟩) ?_ ?_
      rotate_left
      · intro w'
        go_simp
        with_reducible rfl
      rotate_left
      · simp only [Act.put, List.setIfInBounds_toArray, List.set_cons_zero, List.set_cons_succ, i64_w, i32_w]
        rfl
      refine pure_ (i := 7) (N := some 41) (v := ?_) (a' := ?_) #[true, true, true, true, false, true, false, true, false, false, false, false, false, false, false, false, false] rfl rfl (by kernel_rfl) (fun _ _ _ h => h) (Or.inl ⟨by rfl, ?_⟩) ?_ ?_
      rotate_left
      · intro w'
        go_simp
        with_reducible rfl
      rotate_left
      · simp only [Act.put, List.setIfInBounds_toArray, List.set_cons_zero, List.set_cons_succ, i64_w, i32_w]
        rfl
      refine pure_ (i := 10) (N := some 44) (v := ?_) (a' := ?_) #[true, true, true, true, false, true, false, true, false, false, true, false, false, false, false, false, false] rfl rfl (by kernel_rfl) (fun _ _ _ h => h) (Or.inl ⟨by rfl, ?_⟩) ?_ ?_
      rotate_left
      · intro w'
        go_simp
        with_reducible rfl
      rotate_left
      · simp only [Act.put, List.setIfInBounds_toArray, List.set_cons_zero, List.set_cons_succ, i64_w, i32_w]
        rfl
      refine take_ (i := 4) (N := some 38) (v := ?_) (a' := ?_) #[true, true, true, true, true, true, false, true, false, false, true, false, false, false, false, false, false] rfl rfl (by kernel_rfl) (fun _ _ _ h => h) (Or.inl ⟨by rfl, ?_⟩) hHeld ?_ ?_
      rotate_left
      · rintro w' ⟨s0, s1⟩
        go_simp
        with_reducible rfl
      rotate_left
      · simp only [Act.put, List.setIfInBounds_toArray, List.set_cons_zero, List.set_cons_succ, i64_w, i32_w]
        rfl
      refine take_ (i := 6) (N := some 40) (v := ?_) (a' := ?_) #[true, true, true, true, true, true, true, true, false, false, true, false, false, false, false, false, false] rfl rfl (by kernel_rfl) (fun _ _ _ h => h) (Or.inl ⟨by rfl, ?_⟩) hHeld ?_ ?_
      rotate_left
      · rintro w' ⟨s0, s1⟩
        go_simp
        with_reducible rfl
      rotate_left
      · simp only [Act.put, List.setIfInBounds_toArray, List.set_cons_zero, List.set_cons_succ, i64_w, i32_w]
        rfl
      refine one_ (i := 8) (N := some 42) #[true, true, true, true, true, true, true, true, true, false, true, false, false, false, false, false, false] rfl rfl (by kernel_rfl) (by decide) (fun K hK => ?_)
      refine goes_ Tryd.func39 (by kernel_rfl) rfl #[.slice A7 ps.length c7] (by rfl) rfl rfl (by simp only [List.map_toArray, List.map_cons, List.map_nil]; rfl) ?_
      with_reducible refine (Of_calls A7 c7 ps _ (Kd.C_drew HC7.out) HL7.out).mono ?_
      rintro e w8 ⟨v8, rfl, b8, hO8, hU8, hL8, hbit8, hB8⟩
      refine ⟨_, rfl, ?_⟩
      obtain ⟨A8, c8, rfl, hl8, hC8⟩ := C_of_own hO8
      have HO8 := Aside0.mk hO8
      have HU8 := Aside0.mk hU8
      have HBit8 := Aside0.mk hbit8
      have HB8 := Aside0.mk (below_of_drew hB8)
      clear hO8 hU8 hL8 hbit8 hB8 hl8 hC8
      refine hK.out _ _ ⟨(pw_cell_below HB8.out hg7), (pw_cell_below HB8.out hq7)⟩ (fun hHeld => ?_)
      clear hK K
      refine norm_ (a' := ?_) ?_ ?_
      rotate_left
      · show Act.put _ (some 42) _ = _
        simp only [Act.put, List.setIfInBounds_toArray, List.set_cons_zero, List.set_cons_succ, i64_w, i32_w]
        rfl
      refine pure_ (i := 9) (N := some 43) (v := ?_) (a' := ?_) #[true, true, true, true, true, true, true, true, true, true, true, false, false, false, false, false, false] rfl rfl (by kernel_rfl) (fun _ _ _ h => h) (Or.inl ⟨by rfl, ?_⟩) ?_ ?_
      rotate_left
      · intro w'
        go_simp
        with_reducible rfl
      rotate_left
      · simp only [Act.put, List.setIfInBounds_toArray, List.set_cons_zero, List.set_cons_succ, i64_w, i32_w]
        rfl
      refine pure_ (i := 11) (N := some 45) (v := ?_) (a' := ?_) #[true, true, true, true, true, true, true, true, true, true, true, true, false, false, false, false, false] rfl rfl (by kernel_rfl) (fun _ _ _ h => h) (Or.inl ⟨by rfl, ?_⟩) ?_ ?_
      rotate_left
      · intro w'
        go_simp
        with_reducible rfl
      rotate_left
      · simp only [Act.put, List.setIfInBounds_toArray, List.set_cons_zero, List.set_cons_succ, i64_w, i32_w]
        rfl
      refine one_ (i := 12) (N := some 46) #[true, true, true, true, true, true, true, true, true, true, true, true, true, false, false, false, false] rfl rfl (by kernel_rfl) (by decide) (fun K hK => ?_)
      refine value_ (w1 := ?_) (v := ?_) (by rfl) rfl ?_ ?_
      rotate_left 2
      · go_simp
        constructor
        · rfl
        · rfl
      refine hK.out _ _ ⟨(pw_cell_below (below_alloc (Below.refl _ _) _) (pw_cell_below HB8.out hg7)), (pw_cell_below (below_alloc (Below.refl _ _) _) (pw_cell_below HB8.out hq7))⟩ (fun hHeld => ?_)
      clear hK K
      refine norm_ (a' := ?_) ?_ ?_
      rotate_left
      · show Act.put _ (some 46) _ = _
        simp only [Act.put, List.setIfInBounds_toArray, List.set_cons_zero, List.set_cons_succ, i64_w, i32_w]
        rfl
      refine one_ (i := 13) (N := some 47) #[true, true, true, true, true, true, true, true, true, true, true, true, true, true, false, false, false] rfl rfl (by kernel_rfl) (by decide) (fun K hK => ?_)
      refine Kd.R_append_step kEnt (w0 := w) (W := w8) w.heap.size (by rfl) (.tmp 38) (.tmp 46) 84 92 (.agg #[.int .i64 0, .slice none 0 0, .slice none 0 0]) 56 rfl Tryd.underlying84 info92 rfl (by decide) (by omega) (.slice A2 t.length c2) t ⟨x.size, b8, ps⟩ [.int .i64 x.size, .slice A8 b8.length c8, .slice A7 ps.length c7] (fun _ => True) (fun k => q + 1 ≤ k) rfl (by simp only [Act.eval]; rfl) ?hM ?hok (fun _ _ => trivial) ?hO ?hB ?hbase (by omega) ?_
      case hM => exact kEnt_mkM _ _ _ _ (Kd.R_of_own (own_weaken HO8.out (by have := HB07.out.size; show w.heap.size ≤ w7.heap.size; omega)) (fun k hk => by have := own_base HO8.out k hk; simp at this; omega)) (Kd.R_of_own (own_weaken (pw_own_below HO7p.out HB8.out) hge7) (fun k hk => own_base HO7p.out k hk))
      case hok => exact fun k hk => ⟨trivial, fun h => by have := HOwn.out k h.symm; omega⟩
      case hO => exact Kd.R_below HR7.out HB8.out
      case hB => exact below_then HB07.out HB07.out.size HB8.out
      case hbase => exact Nat.le_trans HB07.out.size HB8.out.size
      intro v9 w9 hR9 hB9 hgr9 hat9
      obtain ⟨A9, c9, rfl⟩ := Kd.R_slice hR9
      have hblk8 := (HB8.out.block _ (blk_lt HBlk7.out)).trans HBlk7.out
      have hblk9 := blk_grown hblk8 hgr9 HGne.out
      have hg9 : w9.cell? ⟨g, 0, none⟩ = some (.slice A2 t.length c2) := (blk_cell hblk9 0).trans rfl
      have hq9 : w9.cell? ⟨q, 0, none⟩ = some (.int .i64 x.size) := World.grownBy.cell hgr9 (pw_cell_below HB8.out hq7) HQne.out
      have hfz9 := blk_frozen hblk9 0
      have HR9 := Aside0.mk hR9
      have HB9 := Aside0.mk hB9
      have HBlk9 := Aside0.mk hblk9
      clear hR9 hB9 hgr9 hat9 hblk8 hblk9
      refine hK.out _ _ ⟨hg9, hq9⟩ (fun hHeld => ?_)
      clear hK K
      refine norm_ (a' := ?_) ?_ ?_
      rotate_left
      · show Act.put _ (some 47) _ = _
        simp only [Act.put, List.setIfInBounds_toArray, List.set_cons_zero, List.set_cons_succ, i64_w, i32_w]
        rfl
      refine pure_ (i := 14) (N := some 48) (v := ?_) (a' := ?_) #[true, true, true, true, true, true, true, true, true, true, true, true, true, true, true, false, false] rfl rfl (by kernel_rfl) (fun _ _ _ h => h) (Or.inl ⟨by rfl, ?_⟩) ?_ ?_
      rotate_left
      · intro w'
        go_simp
        with_reducible rfl
      rotate_left
      · simp only [Act.put, List.setIfInBounds_toArray, List.set_cons_zero, List.set_cons_succ, i64_w, i32_w]
        rfl
      refine pure_ (i := 15) (N := some 49) (v := ?_) (a' := ?_) #[true, true, true, true, true, true, true, true, true, true, true, true, true, true, true, true, false] rfl rfl (by kernel_rfl) (fun _ _ _ h => h) (Or.inl ⟨by rfl, ?_⟩) ?_ ?_
      rotate_left
      · intro w'
        go_simp
        with_reducible rfl
      rotate_left
      · simp only [Act.put, List.setIfInBounds_toArray, List.set_cons_zero, List.set_cons_succ, i64_w, i32_w]
        rfl
      refine last_ (i := 16) (N := none) #[true, true, true, true, true, true, true, true, true, true, true, true, true, true, true, true, true] rfl rfl (by kernel_rfl) (by decide) (fun K hK => ?_)
      refine skip_ (w1 := ?_) (by rfl) rfl ?_ ?_
      rotate_left
      · go_simp
        rfl
      refine hK.out _ _ ?_
      clear hK K
      refine done_ (by kernel_rfl) ?_
      have HNew : Aside0 (NewI l w g (k + 1) (w9.setCell ⟨g, 0, none⟩ (.slice A9 (t.length + 1) c9))) := ⟨by
        rw [show t.length + 1 = (t ++ [Ent.mk x.size b8 ps]).length by simp]
        refine ⟨_, _, (by simpa using blk_set HBlk9.out 0 _), Kd.R_set HR9.out HBlk9.out (by decide) _ _, ?_, HB9.out.setCell hgg _, hgg⟩
        rw [take_get HGet.out]
        exact TabOk.snoc HTO.out ⟨rfl, HPS.out, (by rw [← HPS.out]; exact HBit8.out), HU8.out⟩⟩
      clear HBlk9 HR9 HB9
      go_wp2
      go_roundw
      case rel => exact ⟨k + 1, by omega, by go_num, HNew⟩
      case measure => simp [intOf]; omega
    · obtain ⟨v, t, hblk, hR, hTO, hB, hgg⟩ := HI2.out.out
      have HPost : Aside0 (∃ t, IsTab wr g t ∧ TabOk l t ∧ w.heap.size ≤ g ∧ Below w.heap.size w wr) := ⟨by
        obtain ⟨A3, c3, rfl, hl3, hC3⟩ := Kd.R_reads hR
        exact ⟨t, ⟨A3, c3, hblk, hl3, hC3⟩, by rwa [List.take_of_length_le (by omega)] at hTO, hgg, hB⟩⟩
      clear hblk hR hTO hB hgg
      go_wp2
      go_ret2
      obtain ⟨t, h⟩ := HPost.out
      exact ⟨g, t, rfl, h⟩
theorem New_no (A : Option Addr) (c : Nat) (l : List Fn0) (w : World) (hf : ∀ f ∈ l, FnOk f) (hT : Tab64 w) (hr : kFn.C w A l.length l) (hl : l.length ≤ c) (hn : newB l = false) :
    Calls Tryd.prog 9 #[.slice A l.length c] w fun e w' => e = .returned (.tuple #[.pointer none, .int .i64 1]) ∧ Below w.heap.size w w' := by
  have hn' : l.length < 1 ∨ 100 < l.length ∨ (1 ≤ l.length ∧ l.length ≤ 100 ∧ (!(l.any fun f => !mayB f)) = false) := by
    by_cases h1 : 1 ≤ l.length
    · by_cases h2 : l.length ≤ 100
      · rw [newB, decide_eq_true h1, decide_eq_true h2, Bool.true_and, Bool.true_and] at hn
        exact Or.inr (Or.inr ⟨h1, h2, hn⟩)
      · exact Or.inr (Or.inl (by omega))
    · exact Or.inl (by omega)
  rcases hn' with h | h | ⟨h1, h2, h3⟩
  · clear hn hf hT hr
    have h' : (l.length : Int) < 1 := by omega
    go_enter Tryd.func9, Tryd.ntmps9
    go_wp2_with fail
    go_ret2
    exact ⟨rfl, Below.refl _ _⟩
  · clear hn hf hT hr
    have h' : (100 : Int) < l.length := by omega
    have h'' : ¬ (l.length : Int) < 1 := by omega
    go_enter Tryd.func9, Tryd.ntmps9
    go_wp2_with fail
    go_ret2
    exact ⟨rfl, Below.refl _ _⟩
  · have HM := Aside0.mk (May_calls A c l w hf hT hr hl)
    rw [h3] at HM
    clear hn hf hT hr h3
    have h' : ¬ (100 : Int) < l.length := by omega
    have h'' : ¬ (l.length : Int) < 1 := by omega
    go_enter Tryd.func9, Tryd.ntmps9
    go_wp2_with (go_at_call 37; refine HM.out.mono ?_; rintro e w1 ⟨rfl, hb⟩; have HB := Aside0.mk hb; clear hb)
    go_ret2
    exact ⟨rfl, HB.out⟩
end Go.Proofs.YtfaghjadjpiaiaaDoor.Sh
namespace Go.Proofs.YtfaghjadjpiaiaaDoor.Sh
open Go.RowKit Go.Shelf Go.Proofs.YtfaghjadjpiaiaaDoorW.PrintWords Go.Proofs.YtfaghjadjpiaiaaDoorW.PrintLast Go.Proofs.YtfaghjadjpiaiaaDoorW.PrintMore
set_option linter.unusedVariables false
set_option linter.unusedSimpArgs false
section
variable {P : Program} {fn : Func} {R : Ending → World → Prop} {Q : Exit → Act → World → Prop}
theorem leaves_congr {t1 t2 : Array Value} (h : results fn t1 = results fn t2) : ∀ (ds : List Deferred) (u : FrameMode) (w : World), Leaves P fn t1 R ds u w → Leaves P fn t2 R ds u w := by
  intro ds
  induction ds with
  | nil =>
    intro u w hl
    cases u with
    | run => exact hl
    | returning => obtain ⟨v, hr, hR⟩ := hl; exact ⟨v, h ▸ hr, hR⟩
    | panicking ch => exact hl
  | cons d ds ih =>
    intro u w hl
    obtain ⟨hu, fv, cap, f, args, ht, hi, hc⟩ := hl
    refine ⟨hu, fv, cap, f, args, ht, hi, hc.mono ?_⟩
    intro e u' w' he
    cases e with
    | returned v => exact ih _ _ he
    | panicked ch => exact ih _ _ he
    | outgrown => exact he
theorem bodyPostD_congr {a1 a2 : Act} {ch : List PanicEntry} {w : World} (h : results fn a1.tmps = results fn a2.tmps) (hd : a1.defers = a2.defers) (hb : bodyPostD P fn R (.panic ch) a1 w) : bodyPostD P fn R (.panic ch) a2 w := by
  have hb2 : Leaves P fn a1.tmps R a1.defers (.panicking ch) w := hb
  rw [hd] at hb2
  exact leaves_congr h _ _ _ hb2
/-- The post at a panic, told of the frame that stands now. -/
def PanQ (Q : Exit → Act → World → Prop) (fn : Func) (a0 : Act) : Exit → Act → World → Prop
  | .panic c, a, w => (results fn a.tmps = results fn a0.tmps ∧ a.defers = a0.defers) ∧ Q (.panic c) a0 w
  | e, a, w => Q e a w
theorem PanQ.normal {a0 a : Act} {w : World} (h : Q .normal a w) : PanQ Q fn a0 .normal a w := h
theorem wp_pan {c : Code} {a : Act} {w : World} (fn : Func) (hQ : ∀ ch a1 a2 w, results fn a1.tmps = results fn a2.tmps → a1.defers = a2.defers → Q (.panic ch) a1 w → Q (.panic ch) a2 w) (h : c.wp P (PanQ Q fn a) a w) : c.wp P Q a w :=
  Code.wp_mono (fun e a' w' he => by
    cases e with
    | panic ch => exact hQ ch a a' w' he.1.1.symm he.1.2.symm he.2
    | _ => exact he) h
theorem pan_put {a0 : Act} {N : Option Tmp} {v : Value} (h : ∀ a : Act, results fn (a.put N v).tmps = results fn a.tmps) : ∀ (c : List PanicEntry) (a : Act) (w : World), PanQ Q fn a0 (.panic c) (a.put N v) w → PanQ Q fn a0 (.panic c) a w := by
  intro c a w ⟨⟨h1, h2⟩, h3⟩
  refine ⟨⟨(h a).symm.trans h1, ?_⟩, h3⟩
  cases N <;> exact h2
end
theorem getD_put {a : Act} {k j : Nat} {v : Value} (h : k ≠ j) : (a.put (some k) v).tmps[j]?.getD undef = a.tmps[j]?.getD undef := by
  simp [Act.put, Array.getElem?_setIfInBounds_ne h]
end Go.Proofs.YtfaghjadjpiaiaaDoor.Sh
