/- Contracts of package walk: May, Used; of package move: plain, By, Fits. Contracts of walk.Used; of package move: plain, By, Fits. Contracts of package frame: Read, End, Slot. Contract of frame.Read. Contract of walk's walker.next. -/
import Derived.Test.YtfaghjadjpiaiaaDoorY2
namespace Go.Proofs.YtfaghjadjpiaiaaDoor.Sh
open Go.RowKit Go.Shelf Go.Proofs.YtfaghjadjpiaiaaDoorW.PrintWords Go.Proofs.YtfaghjadjpiaiaaDoorW.PrintLast Go.Proofs.YtfaghjadjpiaiaaDoorW.PrintMore
set_option linter.unusedVariables false
set_option linter.unusedSimpArgs false
def zSt : St := ⟨0, 0, 0⟩
def st (l : List St) (i : Int) : St := l.getD i.toNat zSt
theorem at_St {w : World} {A : Option Addr} {n : Nat} {xs : List St} (h : Kd.C kSt w A n xs) (i : Int) (h0 : 0 ≤ i) (h1 : i < n) : ∃ ad, A = some ad ∧ w.cell? (ad.add (i.toNat * 3)) = some (.int .i64 (st xs i).lo) ∧ w.cell? ⟨(ad.add (i.toNat * 3)).block, (ad.add (i.toNat * 3)).off + 1, none⟩ = some (.int .i64 (st xs i).size) ∧ w.cell? ⟨(ad.add (i.toNat * 3)).block, (ad.add (i.toNat * 3)).off + 2, none⟩ = some (.int .i64 (st xs i).sp) := by
  obtain ⟨ad, e, hc⟩ := h.2.2 (by omega)
  have hl : i.toNat < xs.length := by have := h.1; omega
  obtain ⟨c, hs, hr, hcell⟩ := hc i.toNat _ (List.getElem?_eq_getElem hl)
  have he : st xs i = xs[i.toNat] := by simp [st, List.getElem?_eq_getElem hl]
  rw [he]
  obtain rfl := kSt_open hr
  exact ⟨ad, e, hcell 0 _ rfl, by have := hcell 1 _ rfl; rw [← add_field _ _ 1 (by omega)]; exact this, by have := hcell 2 _ rfl; rw [← add_field _ _ 2 (by omega)]; exact this⟩
set_option maxRecDepth 100000 in
theorem idx_St (A : Option Addr) (c : Nat) (xs : List St) (g : Nat) (caps : Array Value) (p : St → Bool) (w : World) (hr : kSt.C w A xs.length xs) (hl : xs.length ≤ c) (hm : xs.length ≤ 9223372036854775807)
    (heg : ∀ (args : Array Value) (W : World), (callFunc g args).run Tryd.prog W = .ok (.enter g args) W)
    (hcall : ∀ W x, x ∈ xs → Below w.heap.size w W → Calls Tryd.prog g (#[.agg #[.int .i64 x.lo, .int .i64 x.size, .int .i64 x.sp]] ++ caps) W fun e W' => e = .returned (.bool (p x)) ∧ Below W.heap.size W W') :
    Calls Tryd.prog 141 #[.slice A xs.length c, .func (.func g) #[] caps] w fun e w' => ∃ r : Int, e = .returned (.int .i64 r) ∧ decide (0 ≤ r) = xs.any p ∧ Below w.heap.size w w' := by
  have HR := Aside0.mk hr
  have HCALL := Aside0.mk hcall
  clear hr hcall
  go_enter Tryd.func141, Tryd.ntmps141
  go_wp2
  go_loopw [5, 8, 16] (fun _ i _ wr => ∃ k : Nat, k ≤ xs.length ∧ i = .int .i64 k ∧ Aside0 ((xs.take k).any p = false) ∧ Aside0 (Below w.heap.size w wr)) (fun _ i _ _ => xs.length - (intOf i).toNat)
  case atStart => exact ⟨0, Nat.zero_le _, rfl, ⟨by simp⟩, ⟨Below.refl _ _⟩⟩
  case round =>
    obtain ⟨k, hk, rfl, HN, HB⟩ := hrel
    by_cases hlt : k < xs.length
    · obtain ⟨ad, rfl, hc0, hc1, hc2⟩ := at_St (Kd.C_below HR.out HB.out) (k : Int) (by omega) (by omega)
      simp only [Int.toNat_natCast] at hc0 hc1 hc2
      have hx : xs[k]? = some (st xs k) := by simp [st, List.getElem?_eq_getElem hlt]
      have hmem : st xs k ∈ xs := List.mem_of_getElem? hx
      obtain ⟨x, hxx⟩ : ∃ x, x = st xs k := ⟨_, rfl⟩
      rw [← hxx] at hc0 hc1 hc2 hmem hx
      clear hxx
      have HT := Aside0.mk (p := (xs.take (k + 1)).any p = ((xs.take k).any p || p x)) (by rw [take_get hx, List.any_append]; simp)
      have HAny := Aside0.mk (p := p x = true → xs.any p = true) (fun h => List.any_eq_true.2 ⟨_, hmem, h⟩)
      have HC := Aside0.mk (HCALL.out wr x hmem HB.out)
      clear hx hmem
      cases hp : p x
      · have HP := Aside0.mk hp
        clear hp
        go_wp2_with (refine HC.out.mono ?_; rw [HP.out]; rintro e w' ⟨rfl, hb⟩; have HB2 := Aside0.mk (below_then HB.out HB.out.size hb); clear hb)
        go_roundw
        case rel => exact ⟨k + 1, by omega, by go_num, ⟨by rw [HT.out, HN.out, HP.out]; rfl⟩, HB2⟩
        case measure => simp [intOf]; omega
      · have HP := Aside0.mk hp
        clear hp
        go_wp2_with (refine HC.out.mono ?_; rw [HP.out]; rintro e w' ⟨rfl, hb⟩; have HB2 := Aside0.mk (below_then HB.out HB.out.size hb); clear hb)
        go_ret
        exact ⟨k, rfl, by rw [HAny.out HP.out]; simp, HB2.out⟩
    · go_wp2_with fail
      go_ret
      exact ⟨-1, rfl, by have := HN.out; rw [List.take_of_length_le (by omega)] at this; rw [this]; rfl, HB.out⟩
theorem cont_St (A : Option Addr) (c : Nat) (xs : List St) (g : Nat) (caps : Array Value) (p : St → Bool) (w : World) (hr : kSt.C w A xs.length xs) (hl : xs.length ≤ c) (hm : xs.length ≤ 9223372036854775807)
    (heg : ∀ (args : Array Value) (W : World), (callFunc g args).run Tryd.prog W = .ok (.enter g args) W)
    (hcall : ∀ W x, x ∈ xs → Below w.heap.size w W → Calls Tryd.prog g (#[.agg #[.int .i64 x.lo, .int .i64 x.size, .int .i64 x.sp]] ++ caps) W fun e W' => e = .returned (.bool (p x)) ∧ Below W.heap.size W W') :
    Calls Tryd.prog 106 #[.slice A xs.length c, .func (.func g) #[] caps] w fun e w' => e = .returned (.bool (xs.any p)) ∧ Below w.heap.size w w' := by
  have HI := Aside0.mk (idx_St A c xs g caps p w hr hl hm heg hcall)
  clear hr hcall heg
  go_enter Tryd.func106, Tryd.ntmps106
  go_wp2_with (go_at_call 141; refine HI.out.mono ?_; rintro e w' ⟨r, rfl, hd, hb⟩; have HD := Aside0.mk hd; clear hd; have HB := Aside0.mk hb; clear hb)
  go_ret
  exact ⟨by rw [← HD.out]; rfl, HB.out⟩
/-- A function's answer, told of a box that holds the arena's pointer. -/
theorem may1_st (a b : Nat) (ws : List Int) (s : St) (q : Nat) (w : World) (h : IsArena w a b ws) (hs : s.wf) (hq : w.heap[q]? = some (.cells #[.pointer (some ⟨a, 0, none⟩)] 45 (0, 0))) :
    Calls Tryd.prog 114 #[.agg #[.int .i64 s.lo, .int .i64 s.size, .int .i64 s.sp], .pointer (some ⟨q, 0, none⟩)] w fun e w' => e = .returned (.bool (!mayS ws.length s)) ∧ Below w.heap.size w w' := by
  have HB := Aside0.mk (BlkW.start w #[.int .i64 s.lo, .int .i64 s.size, .int .i64 s.sp] 44)
  have c0 : (w.alloc (.cells #[.int .i64 s.lo, .int .i64 s.size, .int .i64 s.sp] 44)).cell? ⟨q, 0, none⟩ = some (.pointer (some ⟨a, 0, none⟩)) := (blk_cell (blk_alloc hq _) 0).trans rfl
  have HM := Aside0.mk (may_st a b ws s _ (h.below HB.out.below) hs)
  generalize mayS ws.length s = r at *
  clear h hs hq
  go_enter Tryd.func114, Tryd.ntmps114
  go_wp2_with (go_at_call 53; refine HM.out.mono ?_; rintro e w1 ⟨rfl, hb⟩; have HB2 := Aside0.mk (HB.out.step hb); clear hb)
  go_ret
  exact ⟨rfl, HB2.out.below⟩
theorem MaySt_calls (a b : Nat) (ws : List Int) (A : Option Addr) (c : Nat) (xs : List St) (w : World) (h : IsArena w a b ws) (hr : kSt.C w A xs.length xs) (hl : xs.length ≤ c) (hx : ∀ s ∈ xs, s.wf) :
    Calls Tryd.prog 63 #[.pointer (some ⟨a, 0, none⟩), .slice A xs.length c] w fun e w' => e = .returned (.bool (!(xs.any fun s => !mayS ws.length s))) ∧ Below w.heap.size w w' := by
  have HB := Aside0.mk (BlkW.start w #[.pointer (some ⟨a, 0, none⟩)] 45)
  have HC := Aside0.mk (cont_St A c xs 114 #[.pointer (some ⟨w.heap.size, 0, none⟩)] (fun s => !mayS ws.length s) _ (Kd.C_below hr HB.out.below) hl hr.2.1 (enters_of Tryd.func114 (by kernel_rfl) rfl)
    (fun W s hs hb => may1_st a b ws s w.heap.size W (h.below (HB.out.step hb).below) (hx s hs) (HB.out.step hb).blk))
  generalize (xs.any fun s => !mayS ws.length s) = r at *
  clear h hr hl hx
  go_enter Tryd.func63, Tryd.ntmps63
  have hmf : ∀ (fn : Fn) (first cap : Array Value) (w : World), (Instr.makeFunc fn first cap).run Tryd.prog w = .ok (.func fn first cap) w := fun _ _ _ _ => rfl
  go_wp2_with (go_at_call 106; refine HC.out.mono ?_; rintro e w1 ⟨rfl, hb⟩; have HB2 := Aside0.mk (HB.out.step hb); clear hb)
  go_ret
  exact ⟨rfl, HB2.out.below⟩
end Go.Proofs.YtfaghjadjpiaiaaDoor.Sh
namespace Go.Proofs.YtfaghjadjpiaiaaDoor.Sh
open Go.RowKit Go.Shelf Go.Proofs.YtfaghjadjpiaiaaDoorW.PrintWords Go.Proofs.YtfaghjadjpiaiaaDoorW.PrintLast Go.Proofs.YtfaghjadjpiaiaaDoorW.PrintMore
set_option linter.unusedVariables false
set_option linter.unusedSimpArgs false
def plainB (n : Int) : Bool := decide (0 ≤ n) && decide (n ≤ 1099511627776)
theorem wplain1_calls (n : Int) (w : World) : Calls Tryd.prog 118 #[.int .i64 n] w fun e w' => e = .returned (.bool (!plainB n)) ∧ w = w' := by
  have e : (!plainB n) = (decide (n < 0) || decide (1099511627776 < n)) := by
    rw [Bool.eq_iff_iff]
    simp [plainB]
  rw [e]
  clear e
  go_enter Tryd.func118, Tryd.ntmps118
  go_wp2
  all_goals go_ret
  all_goals exact ⟨rfl, rfl⟩
theorem mplain1_calls (n : Int) (w : World) : Calls Tryd.prog 140 #[.int .i64 n] w fun e w' => e = .returned (.bool (!plainB n)) ∧ w = w' := by
  have e : (!plainB n) = (decide (n < 0) || decide (1099511627776 < n)) := by
    rw [Bool.eq_iff_iff]
    simp [plainB]
  rw [e]
  clear e
  go_enter Tryd.func140, Tryd.ntmps140
  go_wp2
  all_goals go_ret
  all_goals exact ⟨rfl, rfl⟩
theorem C_lit (k : IntKind) (w : World) (xs : List Int) (t : TypeId) (hm : xs.length ≤ 9223372036854775807) : (Kd.int k).C (w.alloc (.cells (nums k xs).toArray t)) (some ⟨w.heap.size, 0, none⟩) xs.length xs := by
  have h := C_blk (heap_alloc_new w (.cells (nums k xs).toArray t)) hm 0 xs.length (by omega)
  simpa using h
def plainS (s : St) : Bool := plainB s.lo && (plainB s.size && plainB s.sp)
theorem wplain_calls (s : St) (w : World) :
    Calls Tryd.prog 66 #[.agg #[.int .i64 s.lo, .int .i64 s.size, .int .i64 s.sp]] w fun e w' => e = .returned (.bool (plainS s)) ∧ Below w.heap.size w w' := by
  have HB := Aside0.mk (BlkW.start w #[.int .i64 s.lo, .int .i64 s.size, .int .i64 s.sp] 44)
  have HB2 := Aside0.mk (HB.out.step (below_alloc (Below.refl _ _) (.cells #[.int .i64 s.lo, .int .i64 s.size, .int .i64 s.sp] 3)))
  have hC := C_lit .i64 (w.alloc (.cells #[.int .i64 s.lo, .int .i64 s.size, .int .i64 s.sp] 44)) [s.lo, s.size, s.sp] 3 (by simp)
  rw [show (w.alloc (.cells #[.int .i64 s.lo, .int .i64 s.size, .int .i64 s.sp] 44)).heap.size = w.heap.size + 1 by simp] at hC
  have HC := Aside0.mk (cont_int _ 3 [s.lo, s.size, s.sp] 118 #[] (fun n => !plainB n) _ hC (Nat.le_refl _) (by simp) (enters_of Tryd.func118 (by kernel_rfl) rfl) (fun W x _ _ => quietB (wplain1_calls x W)))
  have e : plainS s = !([s.lo, s.size, s.sp].any fun n => !plainB n) := by simp [plainS]
  rw [e]
  generalize ([s.lo, s.size, s.sp].any fun n => !plainB n) = r at *
  clear hC e
  go_enter Tryd.func66, Tryd.ntmps66
  go_wp2_with (go_at_call 117; refine HC.out.mono ?_; rintro e w1 ⟨rfl, hb⟩; have HB3 := Aside0.mk (HB2.out.step hb); clear hb)
  go_ret
  exact ⟨rfl, HB3.out.below⟩
theorem plainB_iff {n : Int} : plainB n = true ↔ 0 ≤ n ∧ n ≤ 1099511627776 := by unfold plainB; simp
def usedS (s : St) : Int := if plainS s = true then max 0 (s.lo + s.size - s.sp) else 0
set_option maxRecDepth 100000 in
theorem Used_calls (s : St) (w : World) :
    Calls Tryd.prog 24 #[.agg #[.int .i64 s.lo, .int .i64 s.size, .int .i64 s.sp]] w fun e w' => e = .returned (.int .i64 (usedS s)) ∧ Below w.heap.size w w' := by
  have HB := Aside0.mk (BlkW.start w #[.int .i64 s.lo, .int .i64 s.size, .int .i64 s.sp] 44)
  have HP := Aside0.mk (wplain_calls s (w.alloc (.cells #[.int .i64 s.lo, .int .i64 s.size, .int .i64 s.sp] 44)))
  by_cases hp : plainS s = true
  · rw [hp] at HP
    have e : usedS s = max 0 (s.lo + s.size - s.sp) := if_pos hp
    rw [e]
    have hp2 := hp
    unfold plainS at hp2
    simp only [Bool.and_eq_true, plainB_iff] at hp2
    obtain ⟨⟨a0, a1⟩, ⟨b0, b1⟩, c0, c1⟩ := hp2
    obtain ⟨m, hm⟩ : ∃ m, m = max 0 (s.lo + s.size - s.sp) := ⟨_, rfl⟩
    rw [← hm]
    have HM := Aside0.mk hm
    clear hp e hm
    go_enter Tryd.func24, Tryd.ntmps24
    go_wp2_with (go_at_call 66; refine HP.out.mono ?_; rintro e w1 ⟨rfl, hb⟩; have HB3 := Aside0.mk (HB.out.step hb); have z0 := (blk_cell HB3.out.blk 0).trans rfl; have z1 := (blk_cell HB3.out.blk 1).trans rfl; have z2 := (blk_cell HB3.out.blk 2).trans rfl; clear hb)
    all_goals
      go_ret
      refine ⟨?_, HB3.out.below⟩
      rw [HM.out]
      show Ending.returned (.int .i64 _) = _
      congr 2
      omega
  · have hp' : plainS s = false := by simpa using hp
    rw [hp'] at HP
    have e : usedS s = 0 := if_neg hp
    rw [e]
    clear hp hp' e
    go_enter Tryd.func24, Tryd.ntmps24
    go_wp2_with (go_at_call 66; refine HP.out.mono ?_; rintro e w1 ⟨rfl, hb⟩; have HB3 := Aside0.mk (HB.out.step hb); clear hb)
    go_ret
    exact ⟨rfl, HB3.out.below⟩
/-! ### Package move -/
theorem mplain_calls (A : Option Addr) (c : Nat) (xs : List Int) (w : World) (hr : (Kd.int .i64).C w A xs.length xs) (hl : xs.length ≤ c) :
    Calls Tryd.prog 105 #[.slice A xs.length c] w fun e w' => e = .returned (.bool (xs.all plainB)) ∧ Below w.heap.size w w' := by
  have HC := Aside0.mk (cont_int A c xs 140 #[] (fun n => !plainB n) w hr hl hr.2.1 (enters_of Tryd.func140 (by kernel_rfl) rfl) (fun W x _ _ => quietB (mplain1_calls x W)))
  have e : xs.all plainB = !(xs.any fun n => !plainB n) := by rw [List.not_any_eq_all_not]; simp
  rw [e]
  generalize (xs.any fun n => !plainB n) = r at *
  clear hr hl e
  go_enter Tryd.func105, Tryd.ntmps105
  go_wp2_with (go_at_call 117; refine HC.out.mono ?_; rintro e w1 ⟨rfl, hb⟩; have HB := Aside0.mk hb; clear hb)
  go_ret
  exact ⟨rfl, HB.out⟩
/-- A stack's numbers lie in an arena. -/
def St.small (s : St) : Prop := 0 ≤ s.lo ∧ s.lo ≤ 65536 ∧ 0 ≤ s.size ∧ s.size ≤ 65536 ∧ 0 ≤ s.sp ∧ s.sp ≤ 131072
theorem By_calls (s : St) (lo size : Int) (w : World) (hs : s.small) (h1 : 0 ≤ lo ∧ lo ≤ 65536) (h2 : 0 ≤ size ∧ size ≤ 65536) :
    Calls Tryd.prog 49 #[.agg #[.int .i64 s.lo, .int .i64 s.size, .int .i64 s.sp], .int .i64 lo, .int .i64 size] w fun e w' => e = .returned (.int .i64 (lo + size - s.lo - s.size)) ∧ Below w.heap.size w w' := by
  obtain ⟨a0, a1, b0, b1, c0, c1⟩ := hs
  have HB := Aside0.mk (BlkW.start w #[.int .i64 s.lo, .int .i64 s.size, .int .i64 s.sp] 44)
  have HB2 := Aside0.mk (HB.out.step (below_alloc (Below.refl _ _) (.cells #[.int .i64 s.lo, .int .i64 s.size, .int .i64 s.sp, .int .i64 lo, .int .i64 size] 3)))
  have hC := C_lit .i64 (w.alloc (.cells #[.int .i64 s.lo, .int .i64 s.size, .int .i64 s.sp] 44)) [s.lo, s.size, s.sp, lo, size] 3 (by simp)
  rw [show (w.alloc (.cells #[.int .i64 s.lo, .int .i64 s.size, .int .i64 s.sp] 44)).heap.size = w.heap.size + 1 by simp] at hC
  have HC := Aside0.mk (mplain_calls _ 5 [s.lo, s.size, s.sp, lo, size] _ hC (Nat.le_refl _))
  have e : [s.lo, s.size, s.sp, lo, size].all plainB = true := by
    simp only [List.all_cons, List.all_nil, Bool.and_true, Bool.and_eq_true, plainB_iff]
    omega
  rw [e] at HC
  clear hC e
  go_enter Tryd.func49, Tryd.ntmps49
  go_wp2_with (go_at_call 105; refine HC.out.mono ?_; rintro e w1 ⟨rfl, hb⟩; have HB3 := Aside0.mk (HB2.out.step hb); have z0 := (blk_cell HB3.out.blk 0).trans rfl; have z1 := (blk_cell HB3.out.blk 1).trans rfl; have z2 := (blk_cell HB3.out.blk 2).trans rfl; clear hb)
  go_ret
  exact ⟨rfl, HB3.out.below⟩
/-- Do two stacks share no word? -/
def apartB (s x : St) : Bool := !(decide (0 < s.size) && (decide (0 < x.size) && (decide (s.lo < x.lo + x.size) && decide (x.lo < s.lo + s.size))))
set_option maxRecDepth 100000 in
set_option maxHeartbeats 2000000 in
theorem fits1_calls (s x : St) (q : Nat) (w : World) (hs : s.small) (hx : x.small) (hq : w.heap[q]? = some (.cells #[.int .i64 s.lo, .int .i64 s.size, .int .i64 s.sp] 44 (0, 0))) :
    Calls Tryd.prog 107 #[.agg #[.int .i64 x.lo, .int .i64 x.size, .int .i64 x.sp], .pointer (some ⟨q, 0, none⟩)] w fun e w' => e = .returned (.bool (!apartB s x)) ∧ Below w.heap.size w w' := by
  obtain ⟨a0, a1, b0, b1, _, _⟩ := hs
  obtain ⟨c0, c1, d0, d1, _, _⟩ := hx
  have HB := Aside0.mk (BlkW.start w #[.int .i64 x.lo, .int .i64 x.size, .int .i64 x.sp] 44)
  have HB2 := Aside0.mk (HB.out.step (below_alloc (Below.refl _ _) (.cells #[.int .i64 s.lo, .int .i64 s.size, .int .i64 x.lo, .int .i64 x.size] 3)))
  have hC := C_lit .i64 (w.alloc (.cells #[.int .i64 x.lo, .int .i64 x.size, .int .i64 x.sp] 44)) [s.lo, s.size, x.lo, x.size] 3 (by simp)
  rw [show (w.alloc (.cells #[.int .i64 x.lo, .int .i64 x.size, .int .i64 x.sp] 44)).heap.size = w.heap.size + 1 by simp] at hC
  have HC := Aside0.mk (mplain_calls _ 4 [s.lo, s.size, x.lo, x.size] _ hC (Nat.le_refl _))
  have e : [s.lo, s.size, x.lo, x.size].all plainB = true := by
    simp only [List.all_cons, List.all_nil, Bool.and_true, Bool.and_eq_true, plainB_iff]
    omega
  rw [e] at HC
  have hq1 := blk_alloc hq (.cells #[.int .i64 x.lo, .int .i64 x.size, .int .i64 x.sp] 44)
  have y0 := (blk_cell hq1 0).trans rfl
  have y1 := (blk_cell hq1 1).trans rfl
  have HQ := Aside0.mk (blk_alloc hq1 (.cells #[.int .i64 s.lo, .int .i64 s.size, .int .i64 x.lo, .int .i64 x.size] 3))
  obtain ⟨r, hr⟩ : ∃ r, r = !apartB s x := ⟨_, rfl⟩
  rw [← hr]
  unfold apartB at hr
  rw [Bool.not_not] at hr
  have HR := Aside0.mk hr
  clear hC e hq hq1 hr
  by_cases h0 : 0 < s.size
  · by_cases h1 : 0 < x.size
    · by_cases h2 : s.lo < x.lo + x.size
      · go_enter Tryd.func107, Tryd.ntmps107
        go_wp2_with (go_at_call 105; refine HC.out.mono ?_; rintro e w1 ⟨rfl, hb⟩; have HB3 := Aside0.mk (HB2.out.step hb); have z0 := (blk_cell HB3.out.blk 0).trans rfl; have z1 := (blk_cell HB3.out.blk 1).trans rfl; have hq3 := blk_below HQ.out hb; have t0 := (blk_cell hq3 0).trans rfl; have t1 := (blk_cell hq3 1).trans rfl; clear hb hq3 y0 y1)
        go_ret
        exact ⟨by rw [HR.out, decide_eq_true h0, decide_eq_true h1, decide_eq_true h2]; rfl, HB3.out.below⟩
      · go_enter Tryd.func107, Tryd.ntmps107
        go_wp2_with (go_at_call 105; refine HC.out.mono ?_; rintro e w1 ⟨rfl, hb⟩; have HB3 := Aside0.mk (HB2.out.step hb); have z0 := (blk_cell HB3.out.blk 0).trans rfl; have z1 := (blk_cell HB3.out.blk 1).trans rfl; have hq3 := blk_below HQ.out hb; have t0 := (blk_cell hq3 0).trans rfl; have t1 := (blk_cell hq3 1).trans rfl; clear hb hq3 y0 y1)
        go_ret
        exact ⟨by rw [HR.out, decide_eq_true h0, decide_eq_true h1, decide_eq_false (show ¬ s.lo < x.lo + x.size by omega)]; rfl, HB3.out.below⟩
    · go_enter Tryd.func107, Tryd.ntmps107
      go_wp2_with (go_at_call 105; refine HC.out.mono ?_; rintro e w1 ⟨rfl, hb⟩; have HB3 := Aside0.mk (HB2.out.step hb); have z0 := (blk_cell HB3.out.blk 0).trans rfl; have z1 := (blk_cell HB3.out.blk 1).trans rfl; have hq3 := blk_below HQ.out hb; have t0 := (blk_cell hq3 0).trans rfl; have t1 := (blk_cell hq3 1).trans rfl; clear hb hq3 y0 y1)
      go_ret
      exact ⟨by rw [HR.out, decide_eq_true h0, decide_eq_false (show ¬ 0 < x.size by omega)]; rfl, HB3.out.below⟩
  · go_enter Tryd.func107, Tryd.ntmps107
    go_wp2_with (go_at_call 105; refine HC.out.mono ?_; rintro e w1 ⟨rfl, hb⟩; have HB3 := Aside0.mk (HB2.out.step hb); have z0 := (blk_cell HB3.out.blk 0).trans rfl; have z1 := (blk_cell HB3.out.blk 1).trans rfl; have hq3 := blk_below HQ.out hb; have t0 := (blk_cell hq3 0).trans rfl; have t1 := (blk_cell hq3 1).trans rfl; clear hb hq3 y0 y1)
    go_ret
    exact ⟨by rw [HR.out, decide_eq_false (show ¬ 0 < s.size by omega)]; rfl, HB3.out.below⟩
theorem Fits_calls (s : St) (A : Option Addr) (c : Nat) (xs : List St) (w : World) (hs : s.small) (hr : kSt.C w A xs.length xs) (hl : xs.length ≤ c) (hx : ∀ x ∈ xs, x.small) :
    Calls Tryd.prog 50 #[.agg #[.int .i64 s.lo, .int .i64 s.size, .int .i64 s.sp], .slice A xs.length c] w fun e w' => e = .returned (.bool (xs.all (apartB s))) ∧ Below w.heap.size w w' := by
  have HB := Aside0.mk (BlkW.start w #[.int .i64 s.lo, .int .i64 s.size, .int .i64 s.sp] 44)
  have HC := Aside0.mk (cont_St A c xs 107 #[.pointer (some ⟨w.heap.size, 0, none⟩)] (fun x => !apartB s x) _ (Kd.C_below hr HB.out.below) hl hr.2.1 (enters_of Tryd.func107 (by kernel_rfl) rfl)
    (fun W x hx' hb => fits1_calls s x w.heap.size W hs (hx x hx') (HB.out.step hb).blk))
  have e : xs.all (apartB s) = !(xs.any fun x => !apartB s x) := by rw [List.not_any_eq_all_not]; simp
  rw [e]
  generalize (xs.any fun x => !apartB s x) = r at *
  clear hr hl hx e hs
  go_enter Tryd.func50, Tryd.ntmps50
  have hmf : ∀ (fn : Fn) (first cap : Array Value) (w : World), (Instr.makeFunc fn first cap).run Tryd.prog w = .ok (.func fn first cap) w := fun _ _ _ _ => rfl
  go_wp2_with (go_at_call 106; refine HC.out.mono ?_; rintro e w1 ⟨rfl, hb⟩; have HB2 := Aside0.mk (HB.out.step hb); clear hb)
  go_ret
  exact ⟨rfl, HB2.out.below⟩
end Go.Proofs.YtfaghjadjpiaiaaDoor.Sh
namespace Go.Proofs.YtfaghjadjpiaiaaDoor.Sh
open Go.RowKit Go.Shelf Go.Proofs.YtfaghjadjpiaiaaDoorW.PrintWords Go.Proofs.YtfaghjadjpiaiaaDoorW.PrintLast Go.Proofs.YtfaghjadjpiaiaaDoorW.PrintMore
set_option linter.unusedVariables false
set_option linter.unusedSimpArgs false
/-- A frame in the arena. -/
structure Fm where
  at_ : Int
  fn : Int
  link : Int
def zFm : Fm := ⟨0, 0, 0⟩
def kFm : Kd Fm := Kd.iso (Kd.pair (Kd.int .i64) (Kd.pair (Kd.int .i64) (Kd.int .i64))) (fun x : Fm => (x.at_, x.fn, x.link))
theorem kFm_open {w : World} {x : Fm} {cs : List Value} (h : kFm.K w x cs) : cs = [.int .i64 x.at_, .int .i64 x.fn, .int .i64 x.link] := by
  obtain ⟨_, _, rfl, rfl, _, _, rfl, rfl, rfl⟩ := h
  rfl
theorem kFm_mk (w : World) (x : Fm) : kFm.K w x [.int .i64 x.at_, .int .i64 x.fn, .int .i64 x.link] := ⟨[.int .i64 x.at_], [.int .i64 x.fn, .int .i64 x.link], rfl, rfl, ⟨[.int .i64 x.fn], [.int .i64 x.link], rfl, rfl, rfl⟩⟩
def fm (l : List Fm) (i : Int) : Fm := l.getD i.toNat zFm
theorem at_Fm {w : World} {A : Option Addr} {n : Nat} {xs : List Fm} (h : Kd.C kFm w A n xs) (i : Int) (h0 : 0 ≤ i) (h1 : i < n) : ∃ ad, A = some ad ∧ w.cell? (ad.add (i.toNat * 3)) = some (.int .i64 (fm xs i).at_) ∧ w.cell? ⟨(ad.add (i.toNat * 3)).block, (ad.add (i.toNat * 3)).off + 1, none⟩ = some (.int .i64 (fm xs i).fn) ∧ w.cell? ⟨(ad.add (i.toNat * 3)).block, (ad.add (i.toNat * 3)).off + 2, none⟩ = some (.int .i64 (fm xs i).link) := by
  obtain ⟨ad, e, hc⟩ := h.2.2 (by omega)
  have hl : i.toNat < xs.length := by have := h.1; omega
  obtain ⟨c, hs, hr, hcell⟩ := hc i.toNat _ (List.getElem?_eq_getElem hl)
  have he : fm xs i = xs[i.toNat] := by simp [fm, List.getElem?_eq_getElem hl]
  rw [he]
  obtain rfl := kFm_open hr
  exact ⟨ad, e, hcell 0 _ rfl, by have := hcell 1 _ rfl; rw [← add_field _ _ 1 (by omega)]; exact this, by have := hcell 2 _ rfl; rw [← add_field _ _ 2 (by omega)]; exact this⟩
/-- A table that New has made. -/
structure TabFine (t : List Ent) : Prop where
  len : t.length ≤ 100
  all : AllE t
  size : ∀ f, -1 ≤ tSize t f ∧ tSize t f ≤ 1000
  ptrs : ∀ f, (tPtrs t f).length ≤ 1048576
theorem words_size {t : List Ent} (f : Int) : tWords t f = if tHas t f = true then tSize t f + 2 else -1 := by
  unfold tWords tSize
  split <;> rfl
theorem TabFine.words {t : List Ent} (h : TabFine t) (f : Int) : -1 ≤ tWords t f ∧ tWords t f ≤ 1002 := by
  rw [words_size]
  have := h.size f
  split <;> omega
theorem Twords_calls (a : Nat) (t : List Ent) (f : Int) (w : World) (h : IsTab w a t) (ht : TabFine t) :
    Calls Tryd.prog 71 #[.pointer (some ⟨a, 0, none⟩), .int .i64 f] w fun e w' => e = .returned (.int .i64 (tWords t f)) ∧ w = w' :=
  words_calls a t f w h (by have := (ht.size f).2; omega) (ht.size f).1
def endF (t : List Ent) (x : Fm) : Int := if tWords t x.fn < 0 then -1 else x.at_ + tWords t x.fn
theorem End_calls (a : Nat) (t : List Ent) (x : Fm) (w : World) (h : IsTab w a t) (ht : TabFine t) (hx : 0 ≤ x.at_ ∧ x.at_ ≤ 1099511627776) :
    Calls Tryd.prog 146 #[.pointer (some ⟨a, 0, none⟩), .agg #[.int .i64 x.at_, .int .i64 x.fn, .int .i64 x.link]] w fun e w' => e = .returned (.int .i64 (endF t x)) ∧ Below w.heap.size w w' := by
  have HB := Aside0.mk (BlkW.start w #[.int .i64 x.at_, .int .i64 x.fn, .int .i64 x.link] 61)
  have HW := Aside0.mk (Twords_calls a t x.fn _ (h.below HB.out.below) ht)
  have hw := ht.words x.fn
  unfold endF
  generalize tWords t x.fn = n at *
  clear h ht
  by_cases hn : n < 0
  · rw [if_pos hn]
    go_enter Tryd.func146, Tryd.ntmps146
    go_wp2_with (go_at_call 71; refine HW.out.mono ?_; rintro e w1 ⟨rfl, rfl⟩)
    go_ret
    exact ⟨rfl, HB.out.below⟩
  · rw [if_neg hn]
    go_enter Tryd.func146, Tryd.ntmps146
    go_wp2_with (go_at_call 71; refine HW.out.mono ?_; rintro e w1 ⟨rfl, rfl⟩)
    go_ret
    exact ⟨rfl, HB.out.below⟩
def slotE (t : List Ent) (f i : Int) : Int := if 0 ≤ i ∧ i < tSize t f then 0 else 2
def slotA (t : List Ent) (x : Fm) (i : Int) : Int := if 0 ≤ i ∧ i < tSize t x.fn then x.at_ + 2 + i else 0
theorem Slot_calls (a : Nat) (t : List Ent) (x : Fm) (i : Int) (w : World) (h : IsTab w a t) (ht : TabFine t) (hx : 0 ≤ x.at_ ∧ x.at_ ≤ 1099511627776) (hi : I64 i) :
    Calls Tryd.prog 116 #[.pointer (some ⟨a, 0, none⟩), .agg #[.int .i64 x.at_, .int .i64 x.fn, .int .i64 x.link], .int .i64 i] w fun e w' => e = .returned (.tuple #[.int .i64 (slotA t x i), .int .i64 (slotE t x.fn i)]) ∧ Below w.heap.size w w' := by
  have HB := Aside0.mk (BlkW.start w #[.int .i64 x.at_, .int .i64 x.fn, .int .i64 x.link] 61)
  have HW := Aside0.mk (size_calls a t x.fn _ (h.below HB.out.below))
  have hw := ht.size x.fn
  unfold I64 at hi
  by_cases hc : 0 ≤ i ∧ i < tSize t x.fn
  · have e1 : slotA t x i = x.at_ + 2 + i := if_pos hc
    have e2 : slotE t x.fn i = 0 := if_pos hc
    rw [e1, e2]
    obtain ⟨hc0, hc1⟩ := hc
    generalize tSize t x.fn = n at *
    clear h ht e1 e2
    go_enter Tryd.func116, Tryd.ntmps116
    go_wp2_with (go_at_call 72; refine HW.out.mono ?_; rintro e w1 ⟨rfl, rfl⟩)
    go_ret2
    exact ⟨rfl, HB.out.below⟩
  · have e1 : slotA t x i = 0 := if_neg hc
    have e2 : slotE t x.fn i = 2 := if_neg hc
    rw [e1, e2]
    generalize tSize t x.fn = n at *
    clear h ht e1 e2
    by_cases h0 : 0 ≤ i
    · have h1 : n ≤ i := by omega
      clear hc
      go_enter Tryd.func116, Tryd.ntmps116
      go_wp2_with (go_at_call 72; refine HW.out.mono ?_; rintro e w1 ⟨rfl, rfl⟩)
      go_ret2
      exact ⟨rfl, HB.out.below⟩
    · clear hc
      go_enter Tryd.func116, Tryd.ntmps116
      go_wp2_with (go_at_call 72; refine HW.out.mono ?_; rintro e w1 ⟨rfl, rfl⟩)
      go_ret2
      exact ⟨rfl, HB.out.below⟩
end Go.Proofs.YtfaghjadjpiaiaaDoor.Sh
namespace Go.Proofs.YtfaghjadjpiaiaaDoor.Sh
open Go.RowKit Go.Shelf Go.Proofs.YtfaghjadjpiaiaaDoorW.PrintWords Go.Proofs.YtfaghjadjpiaiaaDoorW.PrintLast Go.Proofs.YtfaghjadjpiaiaaDoorW.PrintMore
set_option linter.unusedVariables false
set_option linter.unusedSimpArgs false
theorem results_ct {P : Program} {fn : Func} {p u : Tmp} {ty : TypeId} (h : fn.results = #[.cell p ty, .tmp u]) (tmps : Array Value) (w : World) (g : Nat) (t : TypeId) (cs : Array Value) (fr : Nat × Nat) (d : TypeDesc)
    (hp : tmps.getD p undef = .pointer (some ⟨g, 0, none⟩)) (hg : w.heap[g]? = some (.cells cs t fr))
    (hu : P.underlying ty = some d) (hd : (match d with | .struct _ | .array _ _ => true | _ => false) = true) (hi : (P.info? ty).map (·.size) = some cs.size) :
    (results fn tmps).run P w = .ok (.tuple #[.agg cs, tmps.getD u undef]) w := by
  have hp' : tmps[p]?.getD undef = .pointer (some ⟨g, 0, none⟩) := by simpa using hp
  simp [results, h, hp', asAddr, run_loadVar_row w g t ty cs fr d hg hu hd hi]
theorem blk_set3 {w : World} {g t : Nat} {a0 a1 a2 : Value} (b0 b1 b2 : Value) (h : w.heap[g]? = some (.cells #[a0, a1, a2] t (0, 0))) :
    (((w.setCell ⟨g, 0, none⟩ b0).setCell ⟨g, 1, none⟩ b1).setCell ⟨g, 2, none⟩ b2).heap[g]? = some (.cells #[b0, b1, b2] t (0, 0)) := by
  have h0 := blk_set h 0 b0
  have h1 := blk_set h0 1 b1
  have h2 := blk_set h1 2 b2
  simpa using h2
theorem below_set3 {B g : Nat} {w W : World} (b0 b1 b2 : Value) (h : Below B w W) (hg : B ≤ g) : Below B w (((W.setCell ⟨g, 0, none⟩ b0).setCell ⟨g, 1, none⟩ b1).setCell ⟨g, 2, none⟩ b2) :=
  ((h.setCell hg _).setCell hg _).setCell hg _
def frL (ws : List Int) (at_ : Int) : Int := rd ws at_
def frN (ws : List Int) (at_ : Int) : Int := rd ws (at_ + 1)
def frOk (ws : List Int) (t : List Ent) (at_ : Int) : Bool := decide (1 ≤ frN ws at_) && (decide (frN ws at_ ≤ t.length) && (decide (frL ws at_ ≤ ws.length) && inB ws.length at_ (tWords t (frN ws at_ - 1))))
theorem frOk_iff {ws : List Int} {t : List Ent} {at_ : Int} : frOk ws t at_ = true ↔ 1 ≤ frN ws at_ ∧ frN ws at_ ≤ t.length ∧ frL ws at_ ≤ ws.length ∧ inB ws.length at_ (tWords t (frN ws at_ - 1)) = true := by
  unfold frOk
  simp
def readE (ws : List Int) (t : List Ent) (at_ : Int) : Int := if inB ws.length at_ 2 = true then (if frOk ws t at_ = true then 0 else 9) else 2
def readF (ws : List Int) (t : List Ent) (at_ : Int) : Fm := if inB ws.length at_ 2 = true ∧ frOk ws t at_ = true then ⟨at_, frN ws at_ - 1, frL ws at_ - 1⟩ else zFm
theorem cut_two {ws : List Int} {at_ : Int} (h : inB ws.length at_ 2 = true) : cutW ws at_ 2 = [frL ws at_, frN ws at_] := by
  obtain ⟨_, g1, g2, g3⟩ := inB_iff.1 h
  unfold cutW frL frN rd
  rw [show (at_ + 1).toNat = at_.toNat + 1 by omega]
  have h1 : at_.toNat < ws.length := by omega
  have h2 : at_.toNat + 1 < ws.length := by omega
  rw [List.drop_eq_getElem_cons h1, List.drop_eq_getElem_cons h2, List.getD_eq_getElem?_getD, List.getD_eq_getElem?_getD, List.getElem?_eq_getElem h1, List.getElem?_eq_getElem h2]
  rfl
theorem add_zero' (ad : Addr) : ad.add 0 = ad := by simp [Addr.add]
theorem two_cells {k : IntKind} {w : World} {A : Option Addr} {x y : Int} (h : (Kd.int k).C w A ([x, y] : List Int).length [x, y]) : ∃ ad, A = some ad ∧ w.cell? ad = some (.int k x) ∧ w.cell? ⟨ad.block, ad.off + 1, none⟩ = some (.int k y) := by
  obtain ⟨ad, rfl, h0⟩ := Kd.at_int h 0 (by decide) (by simp)
  obtain ⟨ad1, h1, h2⟩ := Kd.at_int h 1 (by decide) (by simp)
  injection h1 with h1
  subst h1
  refine ⟨ad, rfl, ?_, ?_⟩
  · have e : ad.add (0 : Int).toNat = ad := add_zero' ad
    rw [e] at h0
    exact h0
  · have e : ad.add (1 : Int).toNat = ⟨ad.block, ad.off + 1, none⟩ := by
      have := add_field ad 0 1 (by decide)
      rw [add_zero'] at this
      exact this
    rw [e] at h2
    exact h2
def ReadPost (x : Fm) (er : Int) (w : World) (e : Ending) (w' : World) : Prop := e = .returned (.tuple #[.agg #[.int .i64 x.at_, .int .i64 x.fn, .int .i64 x.link], .int .i64 er]) ∧ Below w.heap.size w w'
/-- How Read ends: its box written. -/
theorem read_ends (w W : World) (tmps : Array Value) (x : Fm) (er : Int) (a0 a1 a2 : Value) (hb : Below w.heap.size w W) (hblk : W.heap[w.heap.size]? = some (.cells #[a0, a1, a2] 61 (0, 0)))
    (h6 : tmps.getD 6 undef = .pointer (some ⟨w.heap.size, 0, none⟩)) (h7 : tmps.getD 7 undef = .int .i64 er) :
    ∃ v, (results Tryd.f145 tmps).run Tryd.prog (((W.setCell ⟨w.heap.size, 0, none⟩ (.int .i64 x.at_)).setCell ⟨w.heap.size, 1, none⟩ (.int .i64 x.fn)).setCell ⟨w.heap.size, 2, none⟩ (.int .i64 x.link)) = .ok v (((W.setCell ⟨w.heap.size, 0, none⟩ (.int .i64 x.at_)).setCell ⟨w.heap.size, 1, none⟩ (.int .i64 x.fn)).setCell ⟨w.heap.size, 2, none⟩ (.int .i64 x.link)) ∧
      ReadPost x er w (.returned v) (((W.setCell ⟨w.heap.size, 0, none⟩ (.int .i64 x.at_)).setCell ⟨w.heap.size, 1, none⟩ (.int .i64 x.fn)).setCell ⟨w.heap.size, 2, none⟩ (.int .i64 x.link)) := by
  have h3 := blk_set3 (.int .i64 x.at_) (.int .i64 x.fn) (.int .i64 x.link) hblk
  have hr := results_ct Tryd.results145 tmps _ w.heap.size 61 _ (0, 0) _ h6 h3 Tryd.underlying61 rfl (by kernel_rfl)
  rw [h7] at hr
  exact ⟨_, hr, rfl, below_set3 _ _ _ hb (Nat.le_refl _)⟩
set_option maxRecDepth 100000 in
set_option maxHeartbeats 4000000 in
theorem Read_calls (a b : Nat) (ws : List Int) (g : Nat) (t : List Ent) (at_ : Int) (w : World) (h : IsArena w a b ws) (hT : IsTab w g t) (ht : TabFine t) (hat : I64 at_) :
    Calls Tryd.prog 145 #[.pointer (some ⟨a, 0, none⟩), .pointer (some ⟨g, 0, none⟩), .int .i64 at_] w (ReadPost (readF ws t at_) (readE ws t at_) w) := by
  have HB := Aside0.mk (BlkW.start w #[.int .i64 0, .int .i64 0, .int .i64 0] 61)
  have HRow := Row_calls a b ws at_ 2 _ (h.below HB.out.below) hat ⟨by decide, by decide⟩
  have hl := h.len
  by_cases hi : inB ws.length at_ 2 = true
  rotate_left
  · have e1 : readF ws t at_ = zFm := if_neg (fun hh => hi hh.1)
    have e2 : readE ws t at_ = 2 := if_neg hi
    rw [e1, e2]
    rw [show rowL ws at_ 2 = [] from if_neg hi, show rowE ws at_ 2 = 2 from if_neg hi] at HRow
    have HRow := Aside0.mk HRow
    clear h hT ht hat e1 e2 hi
    generalize hP : ReadPost zFm 2 w = Post
    have HPost := Aside0.mk hP
    clear hP
    go_enter Tryd.func145, Tryd.ntmps145
    go_wp2_with (go_at_call 20; refine HRow.out.mono ?_; rintro e w1 ⟨A, c, rfl, _, _, hb⟩; have HB1 := Aside0.mk (HB.out.step hb); have z0 := (blk_cell HB1.out.blk 0).trans rfl; have z1 := (blk_cell HB1.out.blk 1).trans rfl; have z2 := (blk_cell HB1.out.blk 2).trans rfl; have y0 := blk_frozen HB1.out.blk 0; have y1 := blk_frozen HB1.out.blk 1; have y2 := blk_frozen HB1.out.blk 2; clear hb)
    rw [← HPost.out]
    exact ⟨rfl, read_ends w w1 _ zFm 2 _ _ _ HB1.out.below HB1.out.blk rfl rfl⟩
  rw [show rowL ws at_ 2 = [frL ws at_, frN ws at_] from (if_pos hi).trans (cut_two hi), show rowE ws at_ 2 = 0 from if_pos hi] at HRow
  have HRow := Aside0.mk HRow
  have HLen := Aside0.mk (fun (W : World) (hb : Below w.heap.size w W) => len_calls g t W (hT.below hb))
  have HWds := Aside0.mk (fun (W : World) (hb : Below w.heap.size w W) => Words_calls a b ws W (h.below hb))
  have HTw := Aside0.mk (fun (W : World) (hb : Below w.heap.size w W) => Twords_calls g t (frN ws at_ - 1) W (hT.below hb) ht)
  have hwb := ht.words (frN ws at_ - 1)
  have HIn := Aside0.mk (fun (W : World) (hb : Below w.heap.size w W) => In_calls a b ws at_ (tWords t (frN ws at_ - 1)) W (h.below hb) hat (by constructor <;> omega))
  have hlen := ht.len
  have hat2 := inB_iff.1 hi
  have hL : U64 (frL ws at_) := h.all _ (rd_mem (by omega) (by omega))
  have hF : U64 (frN ws at_) := h.all _ (rd_mem (by omega) (by omega))
  unfold U64 at hL hF
  by_cases hok : frOk ws t at_ = true
  · have e1 : readF ws t at_ = ⟨at_, frN ws at_ - 1, frL ws at_ - 1⟩ := if_pos ⟨hi, hok⟩
    have e2 : readE ws t at_ = 0 := (if_pos hi).trans (if_pos hok)
    rw [e1, e2]
    obtain ⟨o1, o2, o3, o4⟩ := frOk_iff.1 hok
    rw [o4] at HIn
    generalize frN ws at_ = F at *
    generalize frL ws at_ = L at *
    clear h hT ht hat e1 e2 hi hok o4
    generalize hP : ReadPost ⟨at_, F - 1, L - 1⟩ 0 w = Post
    have HPost := Aside0.mk hP
    clear hP
    go_enter Tryd.func145, Tryd.ntmps145
    go_wp2_with (go_at_call 20; refine HRow.out.mono ?_; rintro e w1 ⟨A, c, rfl, hC, _, hb⟩; obtain ⟨ad, rfl, k0, k1⟩ := two_cells hC; have HB1 := Aside0.mk (HB.out.step hb); have z0 := (blk_cell HB1.out.blk 0).trans rfl; have z1 := (blk_cell HB1.out.blk 1).trans rfl; have z2 := (blk_cell HB1.out.blk 2).trans rfl; have y0 := blk_frozen HB1.out.blk 0; have y1 := blk_frozen HB1.out.blk 1; have y2 := blk_frozen HB1.out.blk 2; clear hb hC)
    go_region
    have HBD := Aside0.mk (HB1.out.step (below_drew (Below.refl _ _)))
    go_wp2_with first
      | (go_at_call 119; refine (HLen.out _ HBD.out.below).mono ?_; rintro e w2 ⟨rfl, rfl⟩)
      | (go_at_call 144; refine (HWds.out _ HBD.out.below).mono ?_; rintro e w2 ⟨rfl, rfl⟩)
      | (go_at_call 71; refine (HTw.out _ HBD.out.below).mono ?_; rintro e w2 ⟨rfl, rfl⟩)
      | (go_at_call 109; refine (HIn.out _ HBD.out.below).mono ?_; rintro e w2 ⟨rfl, rfl⟩)
    rw [← HPost.out]
    exact ⟨rfl, read_ends w w1.drew _ ⟨at_, F - 1, L - 1⟩ 0 _ _ _ HBD.out.below HBD.out.blk rfl rfl⟩
  · have e1 : readF ws t at_ = zFm := if_neg (fun hh => hok hh.2)
    have e2 : readE ws t at_ = 9 := (if_pos hi).trans (if_neg hok)
    rw [e1, e2]
    have hno : ¬ (1 ≤ frN ws at_ ∧ frN ws at_ ≤ t.length ∧ frL ws at_ ≤ ws.length ∧ inB ws.length at_ (tWords t (frN ws at_ - 1)) = true) := fun hh => hok (frOk_iff.2 hh)
    generalize frN ws at_ = F at *
    generalize frL ws at_ = L at *
    clear h hT ht hat e1 e2 hi hok
    generalize hP : ReadPost zFm 9 w = Post
    have HPost := Aside0.mk hP
    clear hP
    by_cases o1 : 1 ≤ F
    rotate_left
    · clear hno
      go_enter Tryd.func145, Tryd.ntmps145
      go_wp2_with (go_at_call 20; refine HRow.out.mono ?_; rintro e w1 ⟨A, c, rfl, hC, _, hb⟩; obtain ⟨ad, rfl, k0, k1⟩ := two_cells hC; have HB1 := Aside0.mk (HB.out.step hb); have z0 := (blk_cell HB1.out.blk 0).trans rfl; have z1 := (blk_cell HB1.out.blk 1).trans rfl; have z2 := (blk_cell HB1.out.blk 2).trans rfl; have y0 := blk_frozen HB1.out.blk 0; have y1 := blk_frozen HB1.out.blk 1; have y2 := blk_frozen HB1.out.blk 2; clear hb hC)
      go_region
      have HBD := Aside0.mk (HB1.out.step (below_drew (Below.refl _ _)))
      go_wp2_with first
        | (go_at_call 119; refine (HLen.out _ HBD.out.below).mono ?_; rintro e w2 ⟨rfl, rfl⟩)
        | (go_at_call 144; refine (HWds.out _ HBD.out.below).mono ?_; rintro e w2 ⟨rfl, rfl⟩)
        | (go_at_call 71; refine (HTw.out _ HBD.out.below).mono ?_; rintro e w2 ⟨rfl, rfl⟩)
        | (go_at_call 109; refine (HIn.out _ HBD.out.below).mono ?_; rintro e w2 ⟨rfl, rfl⟩)
      rw [← HPost.out]
      exact ⟨rfl, read_ends w w1.drew _ zFm 9 _ _ _ HBD.out.below HBD.out.blk rfl rfl⟩
    by_cases o2 : F ≤ t.length
    rotate_left
    · clear hno
      go_enter Tryd.func145, Tryd.ntmps145
      go_wp2_with (go_at_call 20; refine HRow.out.mono ?_; rintro e w1 ⟨A, c, rfl, hC, _, hb⟩; obtain ⟨ad, rfl, k0, k1⟩ := two_cells hC; have HB1 := Aside0.mk (HB.out.step hb); have z0 := (blk_cell HB1.out.blk 0).trans rfl; have z1 := (blk_cell HB1.out.blk 1).trans rfl; have z2 := (blk_cell HB1.out.blk 2).trans rfl; have y0 := blk_frozen HB1.out.blk 0; have y1 := blk_frozen HB1.out.blk 1; have y2 := blk_frozen HB1.out.blk 2; clear hb hC)
      go_region
      have HBD := Aside0.mk (HB1.out.step (below_drew (Below.refl _ _)))
      go_wp2_with first
        | (go_at_call 119; refine (HLen.out _ HBD.out.below).mono ?_; rintro e w2 ⟨rfl, rfl⟩)
        | (go_at_call 144; refine (HWds.out _ HBD.out.below).mono ?_; rintro e w2 ⟨rfl, rfl⟩)
        | (go_at_call 71; refine (HTw.out _ HBD.out.below).mono ?_; rintro e w2 ⟨rfl, rfl⟩)
        | (go_at_call 109; refine (HIn.out _ HBD.out.below).mono ?_; rintro e w2 ⟨rfl, rfl⟩)
      rw [← HPost.out]
      exact ⟨rfl, read_ends w w1.drew _ zFm 9 _ _ _ HBD.out.below HBD.out.blk rfl rfl⟩
    by_cases o3 : L ≤ ws.length
    rotate_left
    · clear hno
      go_enter Tryd.func145, Tryd.ntmps145
      go_wp2_with (go_at_call 20; refine HRow.out.mono ?_; rintro e w1 ⟨A, c, rfl, hC, _, hb⟩; obtain ⟨ad, rfl, k0, k1⟩ := two_cells hC; have HB1 := Aside0.mk (HB.out.step hb); have z0 := (blk_cell HB1.out.blk 0).trans rfl; have z1 := (blk_cell HB1.out.blk 1).trans rfl; have z2 := (blk_cell HB1.out.blk 2).trans rfl; have y0 := blk_frozen HB1.out.blk 0; have y1 := blk_frozen HB1.out.blk 1; have y2 := blk_frozen HB1.out.blk 2; clear hb hC)
      go_region
      have HBD := Aside0.mk (HB1.out.step (below_drew (Below.refl _ _)))
      go_wp2_with first
        | (go_at_call 119; refine (HLen.out _ HBD.out.below).mono ?_; rintro e w2 ⟨rfl, rfl⟩)
        | (go_at_call 144; refine (HWds.out _ HBD.out.below).mono ?_; rintro e w2 ⟨rfl, rfl⟩)
        | (go_at_call 71; refine (HTw.out _ HBD.out.below).mono ?_; rintro e w2 ⟨rfl, rfl⟩)
        | (go_at_call 109; refine (HIn.out _ HBD.out.below).mono ?_; rintro e w2 ⟨rfl, rfl⟩)
      rw [← HPost.out]
      exact ⟨rfl, read_ends w w1.drew _ zFm 9 _ _ _ HBD.out.below HBD.out.blk rfl rfl⟩
    have o4 : inB ws.length at_ (tWords t (F - 1)) = false := by
      rw [← Bool.not_eq_true]
      exact fun hh => hno ⟨o1, o2, o3, hh⟩
    rw [o4] at HIn
    clear hno o4
    go_enter Tryd.func145, Tryd.ntmps145
    go_wp2_with (go_at_call 20; refine HRow.out.mono ?_; rintro e w1 ⟨A, c, rfl, hC, _, hb⟩; obtain ⟨ad, rfl, k0, k1⟩ := two_cells hC; have HB1 := Aside0.mk (HB.out.step hb); have z0 := (blk_cell HB1.out.blk 0).trans rfl; have z1 := (blk_cell HB1.out.blk 1).trans rfl; have z2 := (blk_cell HB1.out.blk 2).trans rfl; have y0 := blk_frozen HB1.out.blk 0; have y1 := blk_frozen HB1.out.blk 1; have y2 := blk_frozen HB1.out.blk 2; clear hb hC)
    go_region
    have HBD := Aside0.mk (HB1.out.step (below_drew (Below.refl _ _)))
    go_wp2_with first
      | (go_at_call 119; refine (HLen.out _ HBD.out.below).mono ?_; rintro e w2 ⟨rfl, rfl⟩)
      | (go_at_call 144; refine (HWds.out _ HBD.out.below).mono ?_; rintro e w2 ⟨rfl, rfl⟩)
      | (go_at_call 71; refine (HTw.out _ HBD.out.below).mono ?_; rintro e w2 ⟨rfl, rfl⟩)
      | (go_at_call 109; refine (HIn.out _ HBD.out.below).mono ?_; rintro e w2 ⟨rfl, rfl⟩)
    rw [← HPost.out]
    exact ⟨rfl, read_ends w w1.drew _ zFm 9 _ _ _ HBD.out.below HBD.out.blk rfl rfl⟩
end Go.Proofs.YtfaghjadjpiaiaaDoor.Sh
namespace Go.Proofs.YtfaghjadjpiaiaaDoor.Sh
open Go.RowKit Go.Shelf Go.Proofs.YtfaghjadjpiaiaaDoorW.PrintWords Go.Proofs.YtfaghjadjpiaiaaDoorW.PrintLast Go.Proofs.YtfaghjadjpiaiaaDoorW.PrintMore
set_option linter.unusedVariables false
set_option linter.unusedSimpArgs false
def Lost : List PanicEntry := [{ v := .iface 164 (.agg #[]), recovered := false }]
theorem BlkW.then {w W : World} (h : Below w.heap.size w W) (cs : Array Value) (t : TypeId) : BlkW w W.heap.size cs t (W.alloc (.cells cs t)) := ⟨below_alloc' h cs t, heap_alloc_new W _⟩
  where below_alloc' (h : Below w.heap.size w W) (cs : Array Value) (t : TypeId) : Below w.heap.size w (W.alloc (.cells cs t)) := h.alloc h.size _
/-- Is there a frame, as a stack's next? -/
def nextB (ws : List Int) (t : List Ent) (hi at_ : Int) : Bool := decide (readE ws t at_ = 0) && (decide (endF t (readF ws t at_) ≤ hi) && ((readF ws t at_).link == (if endF t (readF ws t at_) = hi then -1 else endF t (readF ws t at_))))
theorem readF_at {ws : List Int} {t : List Ent} {at_ : Int} (h : readE ws t at_ = 0) : readF ws t at_ = ⟨at_, frN ws at_ - 1, frL ws at_ - 1⟩ ∧ inB ws.length at_ 2 = true ∧ frOk ws t at_ = true := by
  unfold readE at h
  by_cases h1 : inB ws.length at_ 2 = true
  · rw [if_pos h1] at h
    by_cases h2 : frOk ws t at_ = true
    · exact ⟨if_pos ⟨h1, h2⟩, h1, h2⟩
    · rw [if_neg h2] at h; cases h
  · rw [if_neg h1] at h; cases h
theorem readF_no {ws : List Int} {t : List Ent} {at_ : Int} (h : readE ws t at_ ≠ 0) : readF ws t at_ = zFm := by
  unfold readE at h
  refine if_neg (fun hh => ?_)
  rw [if_pos hh.1, if_pos hh.2] at h
  exact h rfl
theorem readF_small {ws : List Int} {t : List Ent} {at_ : Int} (hl : ws.length ≤ 65536) : 0 ≤ (readF ws t at_).at_ ∧ (readF ws t at_).at_ ≤ 65536 := by
  by_cases h : readE ws t at_ = 0
  · obtain ⟨e, h1, _⟩ := readF_at h
    obtain ⟨g0, g1, g2, g3⟩ := inB_iff.1 h1
    rw [e]
    exact ⟨g1, by show at_ ≤ _; omega⟩
  · rw [readF_no h]
    exact ⟨by decide, by decide⟩
theorem next_ends (w W : World) (tmps : Array Value) (x : Fm) (en : Int) (a0 a1 a2 : Value) (hb : Below w.heap.size w W) (hblk : W.heap[w.heap.size + 1]? = some (.cells #[a0, a1, a2] 61 (0, 0)))
    (h6 : tmps.getD 4 undef = .pointer (some ⟨w.heap.size + 1, 0, none⟩)) (h7 : tmps.getD 5 undef = .int .i64 en) :
    ∃ v, (results Tryd.f111 tmps).run Tryd.prog (((W.setCell ⟨w.heap.size + 1, 0, none⟩ (.int .i64 x.at_)).setCell ⟨w.heap.size + 1, 1, none⟩ (.int .i64 x.fn)).setCell ⟨w.heap.size + 1, 2, none⟩ (.int .i64 x.link)) = .ok v (((W.setCell ⟨w.heap.size + 1, 0, none⟩ (.int .i64 x.at_)).setCell ⟨w.heap.size + 1, 1, none⟩ (.int .i64 x.fn)).setCell ⟨w.heap.size + 1, 2, none⟩ (.int .i64 x.link)) ∧
      ReadPost x en w (.returned v) (((W.setCell ⟨w.heap.size + 1, 0, none⟩ (.int .i64 x.at_)).setCell ⟨w.heap.size + 1, 1, none⟩ (.int .i64 x.fn)).setCell ⟨w.heap.size + 1, 2, none⟩ (.int .i64 x.link)) := by
  have h3 := blk_set3 (.int .i64 x.at_) (.int .i64 x.fn) (.int .i64 x.link) hblk
  have hr := results_ct Tryd.results111 tmps _ (w.heap.size + 1) 61 _ (0, 0) _ h6 h3 Tryd.underlying61 rfl (by kernel_rfl)
  rw [h7] at hr
  exact ⟨_, hr, rfl, below_set3 _ _ _ hb (Nat.le_succ _)⟩
def NextPost (ws : List Int) (t : List Ent) (hi at_ : Int) (w : World) (e : Ending) (w' : World) : Prop :=
  if nextB ws t hi at_ = true then ReadPost (readF ws t at_) (endF t (readF ws t at_)) w e w' else e = .panicked Lost ∧ Below w.heap.size w w'
def WALK (a g : Nat) (s : St) : Value := .agg #[.pointer (some ⟨a, 0, none⟩), .pointer (some ⟨g, 0, none⟩), .int .i64 s.lo, .int .i64 s.size, .int .i64 s.sp]
set_option maxRecDepth 100000 in
set_option maxHeartbeats 4000000 in
theorem next_calls (a b : Nat) (ws : List Int) (g : Nat) (t : List Ent) (s : St) (at_ : Int) (w : World) (h : IsArena w a b ws) (hT : IsTab w g t) (ht : TabFine t) (hs : s.small) (hat : I64 at_) :
    Calls Tryd.prog 111 #[.agg #[.pointer (some ⟨a, 0, none⟩), .pointer (some ⟨g, 0, none⟩), .int .i64 s.lo, .int .i64 s.size, .int .i64 s.sp], .int .i64 at_] w (NextPost ws t (s.lo + s.size) at_ w) := by
  obtain ⟨s0, s1, s2, s3, _, _⟩ := hs
  have HB := Aside0.mk (BlkW.start w #[.pointer (some ⟨a, 0, none⟩), .pointer (some ⟨g, 0, none⟩), .int .i64 s.lo, .int .i64 s.size, .int .i64 s.sp] 110)
  have hbr := BlkW.then HB.out.below #[.int .i64 0, .int .i64 0, .int .i64 0] 61
  rw [show (w.alloc (.cells #[.pointer (some ⟨a, 0, none⟩), .pointer (some ⟨g, 0, none⟩), .int .i64 s.lo, .int .i64 s.size, .int .i64 s.sp] 110)).heap.size = w.heap.size + 1 by simp] at hbr
  have HBR := Aside0.mk hbr
  have HB1 := Aside0.mk (HB.out.step (below_alloc (Below.refl _ _) (.cells #[.int .i64 0, .int .i64 0, .int .i64 0] 61)))
  have HRd := Read_calls a b ws g t at_ _ (h.below HBR.out.below) (hT.below HBR.out.below) ht hat
  have hx := readF_small (t := t) (at_ := at_) h.len
  have HEn := Aside0.mk (fun (W : World) (hb : Below w.heap.size w W) => End_calls g t (readF ws t at_) W (hT.below hb) ht (by omega))
  unfold NextPost
  obtain ⟨nb, hnb⟩ : ∃ nb, nb = nextB ws t (s.lo + s.size) at_ := ⟨_, rfl⟩
  rw [← hnb]
  unfold nextB at hnb
  have hen : -1 ≤ endF t (readF ws t at_) ∧ endF t (readF ws t at_) ≤ 70000 := by
    unfold endF
    have := ht.words (readF ws t at_).fn
    split <;> omega
  have hlk : I64 (readF ws t at_).link := by
    by_cases hh : readE ws t at_ = 0
    · obtain ⟨e, _, h2⟩ := readF_at hh
      have h3 := frOk_iff.1 h2
      have hl := h.len
      rw [e]
      have hu : U64 (frL ws at_) := h.all _ (rd_mem (by have := inB_iff.1 (readF_at hh).2.1; omega) (by have := inB_iff.1 (readF_at hh).2.1; omega))
      unfold U64 at hu
      constructor
      · show _ ≤ frL ws at_ - 1; omega
      · show frL ws at_ - 1 ≤ _; omega
    · rw [readF_no hh]; exact ⟨by decide, by decide⟩
  unfold I64 at hlk
  generalize readF ws t at_ = x at *
  generalize readE ws t at_ = er at *
  generalize endF t x = en at *
  obtain ⟨hi, hhi⟩ : ∃ hi, hi = s.lo + s.size := ⟨_, rfl⟩
  have hhe := hhi
  rw [← hhi] at hnb
  have HRd := Aside0.mk HRd
  have HHi := Aside0.mk hhe
  clear h hT ht hat hhi hhe
  generalize hP : (fun (e : Ending) (w' : World) => if nb = true then ReadPost x en w e w' else e = .panicked Lost ∧ Below w.heap.size w w') = Post
  have HPost := Aside0.mk hP
  clear hP hbr
  by_cases c1 : er = 0
  rotate_left
  · have hne : (er != 0) = true := bne_iff_ne.2 c1
    rw [decide_eq_false c1] at hnb
    have HNb := Aside0.mk hnb
    clear c1 hnb
    go_enter Tryd.func111, Tryd.ntmps111
    go_wp2_with first
      | (go_at_call 145
         refine HRd.out.mono ?_
         rintro e w1 ⟨rfl, hb⟩
         have HB2 := Aside0.mk (HB1.out.step (below_then (Below.refl _ _) (Nat.le_refl _) hb))
         have hbx := below_alloc (Below.refl _ w1) (.cells #[.int .i64 x.at_, .int .i64 x.fn, .int .i64 x.link] 61)
         have HB3 := Aside0.mk (HB2.out.step hbx)
         have z0 := (blk_cell HB3.out.blk 0).trans rfl
         have z1 := (blk_cell HB3.out.blk 1).trans rfl
         have z2 := (blk_cell HB3.out.blk 2).trans rfl
         have z3 := (blk_cell HB3.out.blk 3).trans rfl
         clear hb hbx)
      | (go_at_call 146
         refine (HEn.out _ HB3.out.below).mono ?_
         rintro e w2 ⟨rfl, hb⟩
         have HB4 := Aside0.mk (HB3.out.step hb)
         clear hb)
    rw [← HPost.out, HNb.out]
    exact ⟨rfl, rfl, HB4.out.below⟩
  · subst c1
    rw [decide_eq_true rfl, Bool.true_and] at hnb
    by_cases c2 : en ≤ s.lo + s.size
    rotate_left
    · rw [decide_eq_false (by rw [HHi.out]; exact c2)] at hnb
      have HNb := Aside0.mk hnb
      clear hnb
      go_enter Tryd.func111, Tryd.ntmps111
      go_wp2_with first
        | (go_at_call 145
           refine HRd.out.mono ?_
           rintro e w1 ⟨rfl, hb⟩
           have hb' := below_then (Below.refl _ _) (Nat.le_refl _) hb
           have HB2 := Aside0.mk (HB1.out.step hb')
           have HR2 := Aside0.mk (HBR.out.step hb')
           have hbx := below_alloc (Below.refl _ w1) (.cells #[.int .i64 x.at_, .int .i64 x.fn, .int .i64 x.link] 61)
           have HX3 := Aside0.mk (BlkW.then HB2.out.below #[.int .i64 x.at_, .int .i64 x.fn, .int .i64 x.link] 61)
           have HB3 := Aside0.mk (HB2.out.step hbx)
           have HR3 := Aside0.mk (HR2.out.step hbx)
           have z0 := (blk_cell HB3.out.blk 0).trans rfl
           have z1 := (blk_cell HB3.out.blk 1).trans rfl
           clear hb hb' hbx)
        | (go_at_call 146
           refine (HEn.out _ HB3.out.below).mono ?_
           rintro e w2 ⟨rfl, hb⟩
           have HB4 := Aside0.mk (HB3.out.step hb)
           have HR4 := Aside0.mk (HR3.out.step hb)
           have HX4 := Aside0.mk (HX3.out.step hb)
           have z2 := (blk_cell HB4.out.blk 2).trans rfl
           have z3 := (blk_cell HB4.out.blk 3).trans rfl
           have x0 := (blk_cell HX4.out.blk 0).trans rfl
           have x1 := (blk_cell HX4.out.blk 1).trans rfl
           have x2 := (blk_cell HX4.out.blk 2).trans rfl
           have r0 := (blk_cell HR4.out.blk 0).trans rfl
           have r1 := (blk_cell HR4.out.blk 1).trans rfl
           have r2 := (blk_cell HR4.out.blk 2).trans rfl
           have y0 := blk_frozen HR4.out.blk 0
           have y1 := blk_frozen HR4.out.blk 1
           have y2 := blk_frozen HR4.out.blk 2
           clear hb z0 z1)
      rw [← HPost.out, HNb.out]
      exact ⟨rfl, rfl, HB4.out.below⟩
    rw [decide_eq_true (by rw [HHi.out]; exact c2), Bool.true_and] at hnb
    by_cases c3 : en = s.lo + s.size
    · have c4 : (en == s.lo + s.size) = true := beq_iff_eq.2 c3
      rw [if_pos (by rw [HHi.out]; exact c3)] at hnb
      by_cases c5 : x.link = -1
      · have c6 : (x.link != -1) = false := by rw [c5]; rfl
        rw [beq_iff_eq.2 c5] at hnb
        have HNb := Aside0.mk hnb
        clear hnb c3 c5
        go_enter Tryd.func111, Tryd.ntmps111
        go_wp2_with first
          | (go_at_call 145
             refine HRd.out.mono ?_
             rintro e w1 ⟨rfl, hb⟩
             have hb' := below_then (Below.refl _ _) (Nat.le_refl _) hb
             have HB2 := Aside0.mk (HB1.out.step hb')
             have HR2 := Aside0.mk (HBR.out.step hb')
             have hbx := below_alloc (Below.refl _ w1) (.cells #[.int .i64 x.at_, .int .i64 x.fn, .int .i64 x.link] 61)
             have HX3 := Aside0.mk (BlkW.then HB2.out.below #[.int .i64 x.at_, .int .i64 x.fn, .int .i64 x.link] 61)
             have HB3 := Aside0.mk (HB2.out.step hbx)
             have HR3 := Aside0.mk (HR2.out.step hbx)
             have z0 := (blk_cell HB3.out.blk 0).trans rfl
             have z1 := (blk_cell HB3.out.blk 1).trans rfl
             clear hb hb' hbx)
          | (go_at_call 146
             refine (HEn.out _ HB3.out.below).mono ?_
             rintro e w2 ⟨rfl, hb⟩
             have HB4 := Aside0.mk (HB3.out.step hb)
             have HR4 := Aside0.mk (HR3.out.step hb)
             have HX4 := Aside0.mk (HX3.out.step hb)
             have z2 := (blk_cell HB4.out.blk 2).trans rfl
             have z3 := (blk_cell HB4.out.blk 3).trans rfl
             have x0 := (blk_cell HX4.out.blk 0).trans rfl
             have x1 := (blk_cell HX4.out.blk 1).trans rfl
             have x2 := (blk_cell HX4.out.blk 2).trans rfl
             have r0 := (blk_cell HR4.out.blk 0).trans rfl
             have r1 := (blk_cell HR4.out.blk 1).trans rfl
             have r2 := (blk_cell HR4.out.blk 2).trans rfl
             have y0 := blk_frozen HR4.out.blk 0
             have y1 := blk_frozen HR4.out.blk 1
             have y2 := blk_frozen HR4.out.blk 2
             clear hb z0 z1)
        rw [← HPost.out, HNb.out]
        exact ⟨rfl, next_ends w w2 _ x en _ _ _ HR4.out.below HR4.out.blk rfl rfl⟩
      · have c6 : (x.link != -1) = true := bne_iff_ne.2 c5
        rw [beq_eq_false_iff_ne.2 c5] at hnb
        have HNb := Aside0.mk hnb
        clear hnb c3 c5
        go_enter Tryd.func111, Tryd.ntmps111
        go_wp2_with first
          | (go_at_call 145
             refine HRd.out.mono ?_
             rintro e w1 ⟨rfl, hb⟩
             have hb' := below_then (Below.refl _ _) (Nat.le_refl _) hb
             have HB2 := Aside0.mk (HB1.out.step hb')
             have HR2 := Aside0.mk (HBR.out.step hb')
             have hbx := below_alloc (Below.refl _ w1) (.cells #[.int .i64 x.at_, .int .i64 x.fn, .int .i64 x.link] 61)
             have HX3 := Aside0.mk (BlkW.then HB2.out.below #[.int .i64 x.at_, .int .i64 x.fn, .int .i64 x.link] 61)
             have HB3 := Aside0.mk (HB2.out.step hbx)
             have HR3 := Aside0.mk (HR2.out.step hbx)
             have z0 := (blk_cell HB3.out.blk 0).trans rfl
             have z1 := (blk_cell HB3.out.blk 1).trans rfl
             clear hb hb' hbx)
          | (go_at_call 146
             refine (HEn.out _ HB3.out.below).mono ?_
             rintro e w2 ⟨rfl, hb⟩
             have HB4 := Aside0.mk (HB3.out.step hb)
             have HR4 := Aside0.mk (HR3.out.step hb)
             have HX4 := Aside0.mk (HX3.out.step hb)
             have z2 := (blk_cell HB4.out.blk 2).trans rfl
             have z3 := (blk_cell HB4.out.blk 3).trans rfl
             have x0 := (blk_cell HX4.out.blk 0).trans rfl
             have x1 := (blk_cell HX4.out.blk 1).trans rfl
             have x2 := (blk_cell HX4.out.blk 2).trans rfl
             have r0 := (blk_cell HR4.out.blk 0).trans rfl
             have r1 := (blk_cell HR4.out.blk 1).trans rfl
             have r2 := (blk_cell HR4.out.blk 2).trans rfl
             have y0 := blk_frozen HR4.out.blk 0
             have y1 := blk_frozen HR4.out.blk 1
             have y2 := blk_frozen HR4.out.blk 2
             clear hb z0 z1)
        rw [← HPost.out, HNb.out]
        exact ⟨rfl, rfl, HB4.out.below⟩
    · have c4 : (en == s.lo + s.size) = false := beq_eq_false_iff_ne.2 c3
      rw [if_neg (by rw [HHi.out]; exact c3)] at hnb
      by_cases c5 : x.link = en
      · have c6 : (x.link != en) = false := by rw [c5]; simp
        rw [beq_iff_eq.2 c5] at hnb
        have HNb := Aside0.mk hnb
        clear hnb c3 c5
        go_enter Tryd.func111, Tryd.ntmps111
        go_wp2_with first
          | (go_at_call 145
             refine HRd.out.mono ?_
             rintro e w1 ⟨rfl, hb⟩
             have hb' := below_then (Below.refl _ _) (Nat.le_refl _) hb
             have HB2 := Aside0.mk (HB1.out.step hb')
             have HR2 := Aside0.mk (HBR.out.step hb')
             have hbx := below_alloc (Below.refl _ w1) (.cells #[.int .i64 x.at_, .int .i64 x.fn, .int .i64 x.link] 61)
             have HX3 := Aside0.mk (BlkW.then HB2.out.below #[.int .i64 x.at_, .int .i64 x.fn, .int .i64 x.link] 61)
             have HB3 := Aside0.mk (HB2.out.step hbx)
             have HR3 := Aside0.mk (HR2.out.step hbx)
             have z0 := (blk_cell HB3.out.blk 0).trans rfl
             have z1 := (blk_cell HB3.out.blk 1).trans rfl
             clear hb hb' hbx)
          | (go_at_call 146
             refine (HEn.out _ HB3.out.below).mono ?_
             rintro e w2 ⟨rfl, hb⟩
             have HB4 := Aside0.mk (HB3.out.step hb)
             have HR4 := Aside0.mk (HR3.out.step hb)
             have HX4 := Aside0.mk (HX3.out.step hb)
             have z2 := (blk_cell HB4.out.blk 2).trans rfl
             have z3 := (blk_cell HB4.out.blk 3).trans rfl
             have x0 := (blk_cell HX4.out.blk 0).trans rfl
             have x1 := (blk_cell HX4.out.blk 1).trans rfl
             have x2 := (blk_cell HX4.out.blk 2).trans rfl
             have r0 := (blk_cell HR4.out.blk 0).trans rfl
             have r1 := (blk_cell HR4.out.blk 1).trans rfl
             have r2 := (blk_cell HR4.out.blk 2).trans rfl
             have y0 := blk_frozen HR4.out.blk 0
             have y1 := blk_frozen HR4.out.blk 1
             have y2 := blk_frozen HR4.out.blk 2
             clear hb z0 z1)
        rw [← HPost.out, HNb.out]
        exact ⟨rfl, next_ends w w2 _ x en _ _ _ HR4.out.below HR4.out.blk rfl rfl⟩
      · have c6 : (x.link != en) = true := bne_iff_ne.2 c5
        rw [beq_eq_false_iff_ne.2 c5] at hnb
        have HNb := Aside0.mk hnb
        clear hnb c3 c5
        go_enter Tryd.func111, Tryd.ntmps111
        go_wp2_with first
          | (go_at_call 145
             refine HRd.out.mono ?_
             rintro e w1 ⟨rfl, hb⟩
             have hb' := below_then (Below.refl _ _) (Nat.le_refl _) hb
             have HB2 := Aside0.mk (HB1.out.step hb')
             have HR2 := Aside0.mk (HBR.out.step hb')
             have hbx := below_alloc (Below.refl _ w1) (.cells #[.int .i64 x.at_, .int .i64 x.fn, .int .i64 x.link] 61)
             have HX3 := Aside0.mk (BlkW.then HB2.out.below #[.int .i64 x.at_, .int .i64 x.fn, .int .i64 x.link] 61)
             have HB3 := Aside0.mk (HB2.out.step hbx)
             have HR3 := Aside0.mk (HR2.out.step hbx)
             have z0 := (blk_cell HB3.out.blk 0).trans rfl
             have z1 := (blk_cell HB3.out.blk 1).trans rfl
             clear hb hb' hbx)
          | (go_at_call 146
             refine (HEn.out _ HB3.out.below).mono ?_
             rintro e w2 ⟨rfl, hb⟩
             have HB4 := Aside0.mk (HB3.out.step hb)
             have HR4 := Aside0.mk (HR3.out.step hb)
             have HX4 := Aside0.mk (HX3.out.step hb)
             have z2 := (blk_cell HB4.out.blk 2).trans rfl
             have z3 := (blk_cell HB4.out.blk 3).trans rfl
             have x0 := (blk_cell HX4.out.blk 0).trans rfl
             have x1 := (blk_cell HX4.out.blk 1).trans rfl
             have x2 := (blk_cell HX4.out.blk 2).trans rfl
             have r0 := (blk_cell HR4.out.blk 0).trans rfl
             have r1 := (blk_cell HR4.out.blk 1).trans rfl
             have r2 := (blk_cell HR4.out.blk 2).trans rfl
             have y0 := blk_frozen HR4.out.blk 0
             have y1 := blk_frozen HR4.out.blk 1
             have y2 := blk_frozen HR4.out.blk 2
             clear hb z0 z1)
        rw [← HPost.out, HNb.out]
        exact ⟨rfl, rfl, HB4.out.below⟩
end Go.Proofs.YtfaghjadjpiaiaaDoor.Sh
