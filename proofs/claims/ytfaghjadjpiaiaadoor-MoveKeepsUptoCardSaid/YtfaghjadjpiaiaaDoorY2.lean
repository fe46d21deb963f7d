/- Contracts of package arena: Words, In, part. Contracts of package arena: caught, Load. Contracts of package arena: Store. Contracts of package arena: Move, Row. Contracts of package arena: New, Zero; of the law's laid. Words for rows of frames; contracts of fns.Table's methods, of slots.May, of package model's small functions. Contracts of num.Is, stacks.Sizes, fns.Table's Words and Ptrs, walk.may. Contracts of package walk: may, May. -/
import Derived.Test.YtfaghjadjpiaiaaDoorY1
import Derived.Laws.CopyOwn
import Derived.Lib.SliceRun
import Derived.Laws.OwnMore
namespace Go.Proofs.YtfaghjadjpiaiaaDoor.Sh
open Go.RowKit Go.Shelf Go.Proofs.YtfaghjadjpiaiaaDoorW.PrintWords Go.Proofs.YtfaghjadjpiaiaaDoorW.PrintLast Go.Proofs.YtfaghjadjpiaiaaDoorW.PrintMore
set_option linter.unusedVariables false
set_option linter.unusedSimpArgs false
/-- An arena in memory: its struct's block, its words' block. -/
structure IsArena (w : World) (a b : Nat) (ws : List Int) : Prop where
  ptr : w.heap[a]? = some (.cells #[.slice (some ⟨b, 0, none⟩) ws.length ws.length] 162 (0, 0))
  row : w.heap[b]? = some (.cells (nums .u64 ws).toArray 24 (0, 0))
  len : ws.length ≤ 65536
  all : AllU ws
theorem IsArena.below {w w1 : World} {a b : Nat} {ws : List Int} (h : IsArena w a b ws) (hb : Below w.heap.size w w1) : IsArena w1 a b ws :=
  ⟨blk_below h.ptr hb, blk_below h.row hb, h.len, h.all⟩
theorem IsArena.cell {w : World} {a b : Nat} {ws : List Int} (h : IsArena w a b ws) (i : Int) (h0 : 0 ≤ i) (h1 : i < ws.length) : w.cell? ⟨b, i.toNat, none⟩ = some (.int .u64 (rd ws i)) := by
  have hl : i.toNat < ws.length := by omega
  rw [blk_cell h.row]
  simp [nums, rd, List.getElem?_eq_getElem hl]
theorem C_blk {k : IntKind} {w : World} {b : Nat} {t : TypeId} {xs : List Int} (h : w.heap[b]? = some (.cells (nums k xs).toArray t (0, 0))) (hm : xs.length ≤ 9223372036854775807) (lo n : Nat) (hn : lo + n ≤ xs.length) :
    (Kd.int k).C w (some ⟨b, lo, none⟩) n ((xs.drop lo).take n) := by
  refine ⟨by simp; omega, by omega, fun _ => ⟨_, rfl, fun j p hj => ?_⟩⟩
  have hjn : j < n := by
    rcases Nat.lt_or_ge j n with h1 | h1
    · exact h1
    · rw [List.getElem?_take_eq_none h1] at hj
      cases hj
  refine ⟨[.int k p], rfl, rfl, fun i u hu => ?_⟩
  match i, hu with
  | 0, hu =>
    simp at hu
    subst hu
    have e : (⟨b, lo, none⟩ : Addr).add (j * 1 + 0) = ⟨b, lo + j, none⟩ := by
      unfold Addr.add
      split <;> simp_all
    show w.cell? ((⟨b, lo, none⟩ : Addr).add (j * 1 + 0)) = _
    rw [e, blk_cell h]
    rw [List.getElem?_take_of_lt hjn, List.getElem?_drop] at hj
    simp [nums, hj]
def inB (N at_ n : Int) : Bool := decide (0 ≤ n) && (decide (0 ≤ at_) && (decide (at_ ≤ N) && decide (n ≤ N - at_)))
theorem inB_iff {N at_ n : Int} : inB N at_ n = true ↔ 0 ≤ n ∧ 0 ≤ at_ ∧ at_ ≤ N ∧ n ≤ N - at_ := by
  unfold inB
  simp
theorem Words_calls (a b : Nat) (ws : List Int) (w : World) (h : IsArena w a b ws) :
    Calls Tryd.prog 144 #[.pointer (some ⟨a, 0, none⟩)] w fun e w' => e = .returned (.int .i64 ws.length) ∧ w = w' := by
  have hc : w.cell? ⟨a, 0, none⟩ = some (.slice (some ⟨b, 0, none⟩) ws.length ws.length) := (blk_cell h.ptr 0).trans rfl
  clear h
  go_enter Tryd.func144, Tryd.ntmps144
  go_wp2
  go_ret
  exact ⟨rfl, rfl⟩
theorem In_calls (a b : Nat) (ws : List Int) (at_ n : Int) (w : World) (h : IsArena w a b ws) (hat : I64 at_) (hn : I64 n) :
    Calls Tryd.prog 109 #[.pointer (some ⟨a, 0, none⟩), .int .i64 at_, .int .i64 n] w fun e w' => e = .returned (.bool (inB ws.length at_ n)) ∧ w = w' := by
  have HW := Aside0.mk (Words_calls a b ws w h)
  have hl := h.len
  unfold I64 at hat hn
  clear h
  generalize ws.length = N at *
  by_cases h0 : 0 ≤ n
  · by_cases h1 : 0 ≤ at_
    · by_cases h2 : at_ ≤ (N : Int)
      · by_cases h3 : n ≤ (N : Int) - at_
        · have e : inB N at_ n = true := inB_iff.2 ⟨h0, h1, h2, h3⟩
          rw [e]
          clear e
          go_enter Tryd.func109, Tryd.ntmps109
          go_wp2_with (go_at_call 144; refine HW.out.mono ?_; rintro e w1 ⟨rfl, rfl⟩)
          go_ret
          exact ⟨rfl, rfl⟩
        · have e : inB N at_ n = false := by unfold inB; simp [h3]
          rw [e]
          clear e
          go_enter Tryd.func109, Tryd.ntmps109
          go_wp2_with (go_at_call 144; refine HW.out.mono ?_; rintro e w1 ⟨rfl, rfl⟩)
          go_ret
          exact ⟨by show Ending.returned (.bool (decide (n ≤ (N : Int) - at_))) = _; rw [decide_eq_false (by omega)], rfl⟩
      · have e : inB N at_ n = false := by unfold inB; simp [h2]
        rw [e]
        clear e
        go_enter Tryd.func109, Tryd.ntmps109
        go_wp2_with (go_at_call 144; refine HW.out.mono ?_; rintro e w1 ⟨rfl, rfl⟩)
        go_ret
        exact ⟨rfl, rfl⟩
    · have e : inB N at_ n = false := by unfold inB; simp [h1]
      rw [e]
      clear e
      go_enter Tryd.func109, Tryd.ntmps109
      go_wp2_with (go_at_call 144; refine HW.out.mono ?_; rintro e w1 ⟨rfl, rfl⟩)
      go_ret
      exact ⟨rfl, rfl⟩
  · have e : inB N at_ n = false := by unfold inB; simp [h0]
    rw [e]
    clear e
    go_enter Tryd.func109, Tryd.ntmps109
    go_wp2_with (go_at_call 144; refine HW.out.mono ?_; rintro e w1 ⟨rfl, rfl⟩)
    go_ret
    exact ⟨rfl, rfl⟩
def Outside : List PanicEntry := [{ v := .iface 171 (.agg #[]), recovered := false }]
set_option maxRecDepth 100000 in
theorem part_no (a b : Nat) (ws : List Int) (at_ n : Int) (w : World) (h : IsArena w a b ws) (hat : I64 at_) (hn : I64 n) (hi : inB ws.length at_ n = false) :
    Calls Tryd.prog 60 #[.pointer (some ⟨a, 0, none⟩), .int .i64 at_, .int .i64 n] w fun e w' => e = .panicked Outside ∧ w = w' := by
  have HI := Aside0.mk (In_calls a b ws at_ n w h hat hn)
  rw [hi] at HI
  clear h hi hat hn
  go_enter Tryd.func60, Tryd.ntmps60
  go_wp2_with (go_at_call 109; refine HI.out.mono ?_; rintro e w1 ⟨rfl, rfl⟩)
  exact ⟨rfl, rfl, rfl⟩
set_option maxRecDepth 100000 in
theorem part_nil (a b : Nat) (ws : List Int) (at_ : Int) (w : World) (h : IsArena w a b ws) (hat : I64 at_) (hi : inB ws.length at_ 0 = true) :
    Calls Tryd.prog 60 #[.pointer (some ⟨a, 0, none⟩), .int .i64 at_, .int .i64 0] w fun e w' => e = .returned (.slice none 0 0) ∧ w = w' := by
  have HI := Aside0.mk (In_calls a b ws at_ 0 w h hat (by constructor <;> omega))
  rw [hi] at HI
  clear h hi hat
  go_enter Tryd.func60, Tryd.ntmps60
  go_wp2_with (go_at_call 109; refine HI.out.mono ?_; rintro e w1 ⟨rfl, rfl⟩)
  go_ret
  exact ⟨rfl, rfl⟩
set_option maxRecDepth 100000 in
theorem part_ok (a b : Nat) (ws : List Int) (at_ n : Int) (w : World) (h : IsArena w a b ws) (hat : I64 at_) (hn : I64 n) (h1 : 1 ≤ n) (hi : inB ws.length at_ n = true) :
    Calls Tryd.prog 60 #[.pointer (some ⟨a, 0, none⟩), .int .i64 at_, .int .i64 n] w fun e w' => e = .returned (.slice (some ⟨b, at_.toNat, none⟩) n.toNat (ws.length - at_.toNat)) ∧ w = w' := by
  have HI := Aside0.mk (In_calls a b ws at_ n w h hat hn)
  rw [hi] at HI
  obtain ⟨_, g1, g2, g3⟩ := inB_iff.1 hi
  have hc : w.cell? ⟨a, 0, none⟩ = some (.slice (some ⟨b, 0, none⟩) ws.length ws.length) := (blk_cell h.ptr 0).trans rfl
  have hl := h.len
  obtain ⟨i0, hi0, hi1⟩ := Option.map_eq_some_iff.1 info24
  have hsz : i0.size = 1 := by injection hi1 with _ h2; injection h2
  have hsl : ∀ W : World, (Instr.slice 42 (.slice (some ⟨b, 0, none⟩) ws.length ws.length) (some (.int .i64 at_)) (some (.int .i64 (at_ + n))) none).run Tryd.prog W = .ok (.slice (some ⟨b, at_.toNat, none⟩) n.toNat (ws.length - at_.toNat)) W := by
    intro W
    rw [cut_mid 42 24 .i64 .i64 Tryd.underlying42 hi0 1 hsz (some ⟨b, 0, none⟩) ws.length ws.length at_ (at_ + n) g1 (by omega) (by omega) (Nat.le_refl _) W]
    rw [if_neg (show ¬ ws.length = at_.toNat by omega), Option.map_some, Nat.mul_one, add_plain, show (at_ + n).toNat - at_.toNat = n.toNat by omega]
  clear h hi hat hi0 hi1 hsz
  have hn0 : (n == 0) = false := by simp; omega
  go_enter Tryd.func60, Tryd.ntmps60
  go_wp2_with (go_at_call 109; refine HI.out.mono ?_; rintro e w1 ⟨rfl, rfl⟩)
  go_ret
  exact ⟨rfl, rfl⟩
end Go.Proofs.YtfaghjadjpiaiaaDoor.Sh
namespace Go.Proofs.YtfaghjadjpiaiaaDoor.Sh
open Go.RowKit Go.Shelf Go.Proofs.YtfaghjadjpiaiaaDoorW.PrintWords Go.Proofs.YtfaghjadjpiaiaaDoorW.PrintLast Go.Proofs.YtfaghjadjpiaiaaDoorW.PrintMore
set_option linter.unusedVariables false
set_option linter.unusedSimpArgs false
theorem ar_idle (p : Addr) (w : World) :
    CallsD Tryd.prog 58 #[.pointer (some p)] .returning w fun e u' w' => e = .returned (.tuple #[]) ∧ u' = .returning ∧ w = w' := by
  refine callsD_of_wpS Tryd.func58 rfl fun c₀ cs hu => ?_
  simp only [Tryd.ntmps58, List.size_toArray, List.length_cons, List.length_nil, Nat.reduceAdd, Nat.reduceSub, Array.replicate_succ, Array.replicate_zero, List.push_toArray, List.append_toArray, List.nil_append, List.cons_append]
  apply wpS_seq
  apply wpS_region
  simp [wpOpsS, go_sem, recoverD, hu, Exit.thenS]
  have HU := Aside0.mk hu
  clear hu
  refine wpS_of_wp ?_
  go_wp2
  cases c₀
  have h := HU.out
  simp only at h
  subst h
  simp [bodyPostS, results, Tryd.results58]
theorem assert_out : ∀ (w : World), (Instr.typeAssert (.iface 171 (.agg #[])) 20 171 true).run Tryd.prog w = .ok (.tuple #[.agg #[], .bool true]) w := fun _ => by kernel_rfl
set_option maxRecDepth 100000 in
theorem ar_out (p : Addr) (y : Int) (w : World) (hc : w.cell? p = some (.int .i64 y)) (hz : w.frozen? p = false) (hp : p.block < w.heap.size) :
    CallsD Tryd.prog 58 #[.pointer (some p)] (.panicking Outside) w fun e u' w' => e = .returned (.tuple #[]) ∧ u' = .panicking [{ v := .iface 171 (.agg #[]), recovered := true }] ∧ w' = (w.alloc (.cells #[] 171)).setCell p (.int .i64 2) := by
  have hta := assert_out
  have hc2 : (w.alloc (.cells #[] 171)).cell? p = some (.int .i64 y) := pw_cell_below (below_alloc (Below.refl _ _) _) hc
  have hz2 : (w.alloc (.cells #[] 171)).frozen? p = false := ((below_alloc (Below.refl _ _) (.cells #[] 171)).frozen hp).trans hz
  refine callsD_of_wpS Tryd.func58 rfl fun c₀ cs hu => ?_
  simp only [Tryd.ntmps58, List.size_toArray, List.length_cons, List.length_nil, Nat.reduceAdd, Nat.reduceSub, Array.replicate_succ, Array.replicate_zero, List.push_toArray, List.append_toArray, List.nil_append, List.cons_append]
  simp only [Outside] at hu
  apply wpS_seq
  apply wpS_region
  simp [wpOpsS, go_sem, recoverD, hu, Exit.thenS]
  clear hu
  refine wpS_of_wp ?_
  generalize hcss : ({ c₀ with mode := _ } :: cs : List Frame) = css
  have HCS := Aside0.mk hcss
  clear hcss
  go_wp2
  have h := HCS.out
  subst h
  simp [bodyPostS, results, Tryd.results58]
def arDefers (q : Nat) : List Deferred := [{ target := Target.fn (Fn.func 58) #[], args := #[.pointer (some ⟨q, 0, none⟩)] }]
theorem ar_no {fn : Func} {R : Ending → World → Prop} (tmps : Array Value) (q : Nat) (y : Int) (W : World) (v : Value) (hblk : W.heap[q]? = some (.cells #[.int .i64 y] 31 (0, 0)))
    (hres : ∀ W' : World, W'.cell? ⟨q, 0, none⟩ = some (.int .i64 2) → (results fn tmps).run Tryd.prog W' = .ok v W')
    (hR : R (.returned v) ((W.alloc (.cells #[] 171)).setCell ⟨q, 0, none⟩ (.int .i64 2))) :
    Leaves Tryd.prog fn tmps R (arDefers q) (.panicking Outside) W := by
  unfold arDefers
  refine leaves_cons (f := 58) (args := #[.pointer (some ⟨q, 0, none⟩)]) (by simp) (by simp [go_sem]) ?_
  refine (ar_out ⟨q, 0, none⟩ y W ((blk_cell hblk 0).trans rfl) (blk_frozen hblk 0) (blk_lt hblk)).mono ?_
  rintro e u' w'' ⟨rfl, rfl, rfl⟩
  have h2 : (W.alloc (.cells #[] 171)).heap[q]? = some (.cells #[.int .i64 y] 31 (0, 0)) := blk_alloc hblk _
  have h3 := blk_set h2 0 (.int .i64 2)
  exact ⟨v, hres _ ((blk_cell h3 0).trans rfl), hR⟩
theorem ar_ok {fn : Func} {R : Ending → World → Prop} (tmps : Array Value) (q : Nat) (y : Int) (W : World) (v : Value) (hblk : W.heap[q]? = some (.cells #[.int .i64 y] 31 (0, 0)))
    (hres : ∀ W' : World, W'.cell? ⟨q, 0, none⟩ = some (.int .i64 y) → (results fn tmps).run Tryd.prog W' = .ok v W')
    (hR : R (.returned v) W) :
    Leaves Tryd.prog fn tmps R (arDefers q) .returning W := by
  unfold arDefers
  refine leaves_cons (f := 58) (args := #[.pointer (some ⟨q, 0, none⟩)]) (by simp) (by simp [go_sem]) ?_
  refine (ar_idle ⟨q, 0, none⟩ W).mono ?_
  rintro e u' w'' ⟨rfl, rfl, rfl⟩
  exact ⟨v, hres _ ((blk_cell hblk 0).trans rfl), hR⟩
/-- A box that the call has made, and all that was there. -/
structure ABox (w : World) (v : Value) (t : TypeId) (W : World) : Prop where
  below : Below w.heap.size w W
  box : W.heap[w.heap.size]? = some (.cells #[v] t (0, 0))
theorem ABox.step {w : World} {v : Value} {t : TypeId} {W W1 : World} (h : ABox w v t W) (hb : Below W.heap.size W W1) : ABox w v t W1 :=
  ⟨below_then h.below h.below.size hb, (hb.block _ (blk_lt h.box)).trans h.box⟩
theorem ABox.start (w : World) (v : Value) (t : TypeId) : ABox w v t (w.alloc (.cells #[v] t)) := ⟨below_alloc (Below.refl _ _) _, heap_alloc_new w _⟩
theorem ABox.put {w : World} {v : Value} {t : TypeId} {W : World} (h : ABox w v t W) (u : Value) : ABox w u t (W.setCell ⟨w.heap.size, 0, none⟩ u) :=
  ⟨h.below.setCell (Nat.le_refl _) _, by simpa using blk_set h.box 0 u⟩
theorem ABox.lt {w : World} {v : Value} {t : TypeId} {W : World} (h : ABox w v t W) : w.heap.size < W.heap.size := blk_lt h.box
def aLoadE (ws : List Int) (at_ : Int) : Int := if 0 ≤ at_ ∧ at_ < ws.length then 0 else 2
def aLoadV (ws : List Int) (at_ : Int) : Int := if 0 ≤ at_ ∧ at_ < ws.length then rd ws at_ else 0
theorem ALoad_res (tmps : Array Value) (q : Nat) (x y : Int) (h4 : tmps[4]?.getD undef = .int .u64 y) (h5 : tmps[5]?.getD undef = .pointer (some ⟨q, 0, none⟩)) (W : World) (hc : W.cell? ⟨q, 0, none⟩ = some (.int .i64 x)) :
    (results Tryd.f27 tmps).run Tryd.prog W = .ok (.tuple #[.int .u64 y, .int .i64 x]) W := by
  unfold results
  rw [Tryd.results27]
  simp [go_sem, h4, h5, hc]
set_option maxRecDepth 100000 in
set_option maxHeartbeats 1000000 in
theorem ALoad_calls (a b : Nat) (ws : List Int) (at_ : Int) (w : World) (h : IsArena w a b ws) (hat : I64 at_) :
    Calls Tryd.prog 27 #[.pointer (some ⟨a, 0, none⟩), .int .i64 at_] w fun e w' => e = .returned (.tuple #[.int .u64 (aLoadV ws at_), .int .i64 (aLoadE ws at_)]) ∧ Below w.heap.size w w' := by
  have HB := Aside0.mk (ABox.start w (.int .i64 0) 31)
  have q0 := (blk_cell HB.out.box 0).trans rfl
  have q1 := blk_frozen HB.out.box 0
  have hA := h.below HB.out.below
  by_cases hi : 0 ≤ at_ ∧ at_ < ws.length
  · have e1 : aLoadV ws at_ = rd ws at_ := if_pos hi
    have e2 : aLoadE ws at_ = 0 := if_pos hi
    rw [e1, e2]
    have HP := Aside0.mk (part_ok a b ws at_ 1 _ hA hat ⟨by decide, by decide⟩ (by decide) (inB_iff.2 ⟨by omega, hi.1, by omega, by omega⟩))
    have hc := hA.cell at_ hi.1 hi.2
    clear h hA hat e1 e2 hi
    go_enter_defers Tryd.func27, Tryd.ntmps27
    go_wp2_with (go_at_call 60; refine HP.out.mono ?_; rintro e w1 ⟨rfl, rfl⟩)
    exact ar_ok _ _ 0 _ _ HB.out.box (fun W' hc' => ALoad_res _ _ 0 _ rfl rfl W' hc') ⟨rfl, HB.out.below⟩
  · have e1 : aLoadV ws at_ = 0 := if_neg hi
    have e2 : aLoadE ws at_ = 2 := if_neg hi
    rw [e1, e2]
    have hib : inB ws.length at_ 1 = false := by
      rw [← Bool.not_eq_true, inB_iff]
      omega
    have HP := Aside0.mk (part_no a b ws at_ 1 _ hA hat ⟨by decide, by decide⟩ hib)
    clear h hA hat e1 e2 hi hib
    go_enter_defers Tryd.func27, Tryd.ntmps27
    go_wp2_with (go_at_call 60; refine HP.out.mono ?_; rintro e w1 ⟨rfl, rfl⟩)
    exact ar_no _ _ 0 _ _ HB.out.box (fun W' hc' => ALoad_res _ _ 2 _ rfl rfl W' hc') ⟨rfl, ((HB.out.below.alloc HB.out.below.size _).setCell (Nat.le_refl _) _)⟩
end Go.Proofs.YtfaghjadjpiaiaaDoor.Sh
namespace Go.Proofs.YtfaghjadjpiaiaaDoor.Sh
open Go.RowKit Go.Shelf Go.Proofs.YtfaghjadjpiaiaaDoorW.PrintWords Go.Proofs.YtfaghjadjpiaiaaDoorW.PrintLast Go.Proofs.YtfaghjadjpiaiaaDoorW.PrintMore
set_option linter.unusedVariables false
set_option linter.unusedSimpArgs false
theorem sz24 : (Tryd.prog.info? 24).map (·.size) = some 1 := by kernel_rfl
theorem nums_splice (k : IntKind) (ws xs : List Int) (off : Nat) : ((nums k ws).toArray.toList.take off ++ (nums k xs ++ (nums k ws).toArray.toList.drop (off + (nums k xs).length))).toArray = (nums k (splice ws off xs)).toArray := by
  simp [nums, splice, List.map_take, List.map_drop]
theorem splice_all {ws xs : List Int} (off : Nat) (h : AllU ws) (hx : AllU xs) : AllU (splice ws off xs) := by
  intro y hy
  unfold splice at hy
  rcases List.mem_append.1 hy with hy | hy
  · exact h y (List.mem_of_mem_take hy)
  rcases List.mem_append.1 hy with hy | hy
  · exact hx y hy
  · exact h y (List.mem_of_mem_drop hy)
theorem one_nums (k : IntKind) (xs : List Int) : ∀ v ∈ nums k xs, v.oneCell' = true := by
  intro v hv
  obtain ⟨x, _, rfl⟩ := List.mem_map.1 hv
  rfl
theorem IsArena.ne {w : World} {a b : Nat} {ws : List Int} (h : IsArena w a b ws) : a ≠ b := by
  rintro rfl
  have := h.ptr.symm.trans h.row
  simp at this
theorem IsArena.setRow {W : World} {a b : Nat} {ws : List Int} (h : IsArena W a b ws) {ws' : List Int} (hl : ws'.length = ws.length) (hu : AllU ws') : IsArena (W.setRow b (nums .u64 ws').toArray) a b ws' :=
  ⟨by rw [setRow_other W b a _ h.ne, hl]; exact h.ptr, setRow_heap W b _ _ _ _ h.row, by rw [hl]; exact h.len, hu⟩
theorem grown_setRow (W : World) (b : Nat) (cs : Array Value) : W.grownBy (W.setRow b cs) (some b) :=
  ⟨rfl, rfl, rfl, by simp [World.setRow], fun i hi hne => setRow_other W b i cs (fun h => hne (by rw [h]))⟩
theorem IsArena.far {W : World} {a b : Nat} {ws : List Int} (h : IsArena W a b ws) {p : Addr} (ha : a ≠ p.block) (hb : b ≠ p.block) (u : Value) : IsArena (W.setCell p u) a b ws :=
  ⟨blk_far h.ptr ha u, blk_far h.row hb u, h.len, h.all⟩
theorem IsArena.lta {W : World} {a b : Nat} {ws : List Int} (h : IsArena W a b ws) : a < W.heap.size := blk_lt h.ptr
theorem IsArena.ltb {W : World} {a b : Nat} {ws : List Int} (h : IsArena W a b ws) : b < W.heap.size := blk_lt h.row
/-- A box that the call has made, and all that was there but for one row. -/
structure ABoxG (w : World) (b : Nat) (v : Value) (t : TypeId) (W : World) : Prop where
  grown : w.grownBy W (some b)
  box : W.heap[w.heap.size]? = some (.cells #[v] t (0, 0))
theorem ABox.grown {w : World} {v : Value} {t : TypeId} {W : World} (h : ABox w v t W) (b : Nat) : ABoxG w b v t W := ⟨grown_of_below h.below _, h.box⟩
theorem ABoxG.step {w : World} {b : Nat} {v : Value} {t : TypeId} {W W1 : World} (h : ABoxG w b v t W) (hb : b < w.heap.size) (hg : W.grownBy W1 (some b)) : ABoxG w b v t W1 :=
  ⟨World.grownBy.trans h.grown hg, blk_grown h.box hg (by intro hh; injection hh with hh; omega)⟩
theorem ABoxG.put {w : World} {b : Nat} {v : Value} {t : TypeId} {W : World} (h : ABoxG w b v t W) (u : Value) : ABoxG w b u t (W.setCell ⟨w.heap.size, 0, none⟩ u) := by
  refine ⟨⟨h.grown.os, h.grown.tape, h.grown.output, by simpa using h.grown.size, fun i hi hne => ?_⟩, by simpa using blk_set h.box 0 u⟩
  have h1 := h.grown.block i hi hne
  rw [← h1]
  have : i ≠ w.heap.size := by omega
  simp [World.setCell, Array.getElem?_modify, Ne.symm this]
def storeE (ws : List Int) (at_ : Int) (n : Nat) : Int := if inB ws.length at_ n = true then 0 else 2
def storeW (ws : List Int) (at_ : Int) (xs : List Int) : List Int := if inB ws.length at_ xs.length = true then splice ws at_.toNat xs else ws
theorem store_length (ws : List Int) (at_ : Int) (xs : List Int) : (storeW ws at_ xs).length = ws.length := by
  unfold storeW
  split
  · rename_i h
    have := inB_iff.1 h
    exact length_splice _ _ _ (by omega)
  · rfl
theorem err6_res {fn : Func} (h : fn.results = #[.cell 6 31]) (tmps : Array Value) (q : Nat) (x : Int) (h6 : tmps[6]?.getD undef = .pointer (some ⟨q, 0, none⟩)) (W : World) (hc : W.cell? ⟨q, 0, none⟩ = some (.int .i64 x)) :
    (results fn tmps).run Tryd.prog W = .ok (.int .i64 x) W := by
  unfold results
  rw [h]
  simp [go_sem, h6, hc]
theorem err8_res {fn : Func} (h : fn.results = #[.cell 8 31]) (tmps : Array Value) (q : Nat) (x : Int) (h6 : tmps[8]?.getD undef = .pointer (some ⟨q, 0, none⟩)) (W : World) (hc : W.cell? ⟨q, 0, none⟩ = some (.int .i64 x)) :
    (results fn tmps).run Tryd.prog W = .ok (.int .i64 x) W := by
  unfold results
  rw [h]
  simp [go_sem, h6, hc]
/-- What a call that writes words comes to. -/
def ArPost (a b : Nat) (ws' : List Int) (x : Int) (w : World) (e : Ending) (w' : World) : Prop := e = .returned (.int .i64 x) ∧ IsArena w' a b ws' ∧ w.grownBy w' (some b)
set_option maxRecDepth 100000 in
set_option maxHeartbeats 2000000 in
theorem Store_calls (a b : Nat) (ws : List Int) (at_ : Int) (A : Option Addr) (c : Nat) (xs : List Int) (w : World) (h : IsArena w a b ws) (hat : I64 at_) (hr : (Kd.int .u64).C w A xs.length xs) (hc : xs.length ≤ c) (hx : AllU xs) :
    Calls Tryd.prog 52 #[.pointer (some ⟨a, 0, none⟩), .int .i64 at_, .slice A xs.length c] w (ArPost a b (storeW ws at_ xs) (storeE ws at_ xs.length) w) := by
  have HB := Aside0.mk (ABox.start w (.int .i64 0) 31)
  have q0 := (blk_cell HB.out.box 0).trans rfl
  have q1 := blk_frozen HB.out.box 0
  have hA := h.below HB.out.below
  have hl := h.len
  have hm := hr.2.1
  have hba := h.lta
  have hbb := h.ltb
  by_cases hi : inB ws.length at_ xs.length = true
  · have e1 : storeW ws at_ xs = splice ws at_.toNat xs := if_pos hi
    have e2 : storeE ws at_ xs.length = 0 := if_pos hi
    rw [e1, e2]
    obtain ⟨_, g1, g2, g3⟩ := inB_iff.1 hi
    by_cases hn : xs.length = 0
    · obtain rfl : xs = [] := List.eq_nil_of_length_eq_zero hn
      have HP := Aside0.mk (part_nil a b ws at_ _ hA hat hi)
      have HA := Aside0.mk hA
      have es : splice ws at_.toNat [] = ws := by simp [splice]
      rw [es]
      clear h hA hat e1 e2 hi hr es
      go_enter_defers Tryd.func52, Tryd.ntmps52
      go_wp2_with first
        | (go_at_call 60; refine HP.out.mono ?_; rintro e w1 ⟨rfl, rfl⟩)
        | (with_reducible refine wpList_copy_nothing rfl (.tmp 11) (.tmp 12) 42 42 rfl 24 Tryd.underlying42 sz24 none A 0 0 0 c rfl rfl rfl ?_)
      have H1 := HB.out.grown b
      exact ar_ok _ _ 0 _ _ H1.box (fun W' hc' => err6_res Tryd.results52 _ _ 0 rfl W' hc') ⟨rfl, HA.out, H1.grown⟩
    · have HP := Aside0.mk (part_ok a b ws at_ xs.length _ hA hat (by constructor <;> omega) (by omega) hi)
      have hC := Kd.C_below hr HB.out.below
      obtain ⟨ad, rfl, hcell⟩ := hC.2.2 (by omega)
      have hsrc : ∀ j v, (nums .u64 xs)[j]? = some v → (w.alloc (.cells #[.int .i64 0] 31)).cell? (ad.add j) = some v := by
        intro j v hj
        unfold nums at hj
        rw [List.getElem?_map] at hj
        obtain ⟨x, hx, rfl⟩ := Option.map_eq_some_iff.1 hj
        obtain ⟨cs, _, hk, hcc⟩ := hcell j x hx
        obtain rfl : cs = [.int .u64 x] := hk
        have h2 : (w.alloc (.cells #[.int .i64 0] 31)).cell? (ad.add (j * 1 + 0)) = some (.int .u64 x) := hcc 0 _ rfl
        rwa [Nat.mul_one, Nat.add_zero] at h2
      have HSrc := Aside0.mk hsrc
      have HA := Aside0.mk hA
      have HX := Aside0.mk hx
      rw [Int.toNat_natCast] at HP
      clear h hA hat e1 e2 hi hr hC hcell hsrc hx
      go_enter_defers Tryd.func52, Tryd.ntmps52
      go_wp2_with first
        | (go_at_call 60; refine HP.out.mono ?_; rintro e w1 ⟨rfl, rfl⟩)
        | (with_reducible refine wpList_copy_own rfl (.tmp 11) (.tmp 12) 42 42 rfl 24 Tryd.underlying42 sz24 b at_.toNat xs.length (ws.length - at_.toNat) ad xs.length c rfl rfl (nums .u64 ws).toArray 24 HA.out.row (nums .u64 xs) (by simp [nums]) HSrc.out (by simp [nums]; omega) (one_nums _ _) ?_
           rw [nums_splice]
           have hA2 := HA.out.setRow (length_splice ws at_.toNat xs (by omega)) (splice_all at_.toNat HA.out.all HX.out)
           have hG2 := (HB.out.grown b).step hbb (grown_setRow _ b (nums .u64 (splice ws at_.toNat xs)).toArray)
           generalize World.setRow _ b _ = W2 at *
           have q2 := (blk_cell hG2.box 0).trans rfl
           have q3 := blk_frozen hG2.box 0
           have HA2 := Aside0.mk hA2
           have HG2 := Aside0.mk hG2
           clear hA2 hG2 q0 q1)
      have H1 := HG2.out.put (.int .i64 0)
      exact ar_ok _ _ 0 _ _ H1.box (fun W' hc' => err6_res Tryd.results52 _ _ 0 rfl W' hc') ⟨rfl, HA2.out.far (by simp; omega) (by simp; omega) _, H1.grown⟩
  · have e1 : storeW ws at_ xs = ws := if_neg hi
    have e2 : storeE ws at_ xs.length = 2 := if_neg hi
    rw [e1, e2]
    have HP := Aside0.mk (part_no a b ws at_ xs.length _ hA hat (by constructor <;> omega) (by simpa using hi))
    have HA := Aside0.mk hA
    clear h hA hat e1 e2 hi hr
    go_enter_defers Tryd.func52, Tryd.ntmps52
    go_wp2_with (go_at_call 60; refine HP.out.mono ?_; rintro e w1 ⟨rfl, rfl⟩)
    have hb2 := below_alloc (Below.refl _ (w.alloc (.cells #[.int .i64 0] 31))) (.cells #[] 171)
    have H1 := ((HB.out.step hb2).grown b).put (.int .i64 2)
    exact ar_no _ _ 0 _ _ HB.out.box (fun W' hc' => err6_res Tryd.results52 _ _ 2 rfl W' hc') ⟨rfl, (HA.out.below hb2).far (by simp; omega) (by simp; omega) _, H1.grown⟩
end Go.Proofs.YtfaghjadjpiaiaaDoor.Sh
namespace Go.Proofs.YtfaghjadjpiaiaaDoor.Sh
open Go.RowKit Go.Shelf Go.Proofs.YtfaghjadjpiaiaaDoorW.PrintWords Go.Proofs.YtfaghjadjpiaiaaDoorW.PrintLast Go.Proofs.YtfaghjadjpiaiaaDoorW.PrintMore
set_option linter.unusedVariables false
set_option linter.unusedSimpArgs false
/-- Words in a row. -/
def cutW (ws : List Int) (at_ n : Int) : List Int := (ws.drop at_.toNat).take n.toNat
theorem cutW_length {ws : List Int} {at_ n : Int} (h : inB ws.length at_ n = true) : ((cutW ws at_ n).length : Int) = n := by
  obtain ⟨g0, g1, g2, g3⟩ := inB_iff.1 h
  unfold cutW
  simp
  omega
theorem cutW_all {ws : List Int} (h : AllU ws) (at_ n : Int) : AllU (cutW ws at_ n) := fun x hx => h x (List.mem_of_mem_drop (List.mem_of_mem_take hx))
def moveB (ws : List Int) (to_ from_ n : Int) : Bool := inB ws.length from_ n && inB ws.length to_ n
def moveE (ws : List Int) (to_ from_ n : Int) : Int := if moveB ws to_ from_ n = true then 0 else 2
def moveW (ws : List Int) (to_ from_ n : Int) : List Int := if moveB ws to_ from_ n = true then splice ws to_.toNat (cutW ws from_ n) else ws
set_option maxRecDepth 100000 in
set_option maxHeartbeats 2000000 in
theorem Move_calls (a b : Nat) (ws : List Int) (to_ from_ n : Int) (w : World) (h : IsArena w a b ws) (ht : I64 to_) (hf : I64 from_) (hn : I64 n) :
    Calls Tryd.prog 64 #[.pointer (some ⟨a, 0, none⟩), .int .i64 to_, .int .i64 from_, .int .i64 n] w (ArPost a b (moveW ws to_ from_ n) (moveE ws to_ from_ n) w) := by
  have HB := Aside0.mk (ABox.start w (.int .i64 0) 31)
  have q0 := (blk_cell HB.out.box 0).trans rfl
  have q1 := blk_frozen HB.out.box 0
  have hA := h.below HB.out.below
  have hl := h.len
  have hba := h.lta
  have hbb := h.ltb
  have hb2 := below_alloc (Below.refl _ (w.alloc (.cells #[.int .i64 0] 31))) (.cells #[] 171)
  by_cases hi : inB ws.length from_ n = true
  rotate_left
  · have e0 : moveB ws to_ from_ n = false := by unfold moveB; simp [hi]
    have e1 : moveW ws to_ from_ n = ws := if_neg (by rw [e0]; decide)
    have e2 : moveE ws to_ from_ n = 2 := if_neg (by rw [e0]; decide)
    rw [e1, e2]
    have HP := Aside0.mk (part_no a b ws from_ n _ hA hf hn (by simpa using hi))
    have HA := Aside0.mk hA
    have HB2 := Aside0.mk hb2
    clear h hA ht hf hn e0 e1 e2 hi hb2
    go_enter_defers Tryd.func64, Tryd.ntmps64
    go_wp2_with (go_at_call 60; refine HP.out.mono ?_; rintro e w1 ⟨rfl, rfl⟩)
    have H1 := ((HB.out.step HB2.out).grown b).put (.int .i64 2)
    exact ar_no _ _ 0 _ _ HB.out.box (fun W' hc' => err8_res Tryd.results64 _ _ 2 rfl W' hc') ⟨rfl, (HA.out.below HB2.out).far (by simp; omega) (by simp; omega) _, H1.grown⟩
  by_cases hj : inB ws.length to_ n = true
  rotate_left
  · have e0 : moveB ws to_ from_ n = false := by unfold moveB; simp [hj]
    have e1 : moveW ws to_ from_ n = ws := if_neg (by rw [e0]; decide)
    have e2 : moveE ws to_ from_ n = 2 := if_neg (by rw [e0]; decide)
    rw [e1, e2]
    have HP2 := Aside0.mk (part_no a b ws to_ n _ hA ht hn (by simpa using hj))
    obtain ⟨g0, g1, g2, g3⟩ := inB_iff.1 hi
    have HP : Aside0 (∃ v, Calls Tryd.prog 60 #[.pointer (some ⟨a, 0, none⟩), .int .i64 from_, .int .i64 n] (w.alloc (.cells #[.int .i64 0] 31)) fun e w' => e = .returned v ∧ (w.alloc (.cells #[.int .i64 0] 31)) = w') := by
      refine ⟨?_⟩
      by_cases h0 : n = 0
      · subst h0
        exact ⟨_, part_nil a b ws from_ _ hA hf hi⟩
      · exact ⟨_, part_ok a b ws from_ n _ hA hf hn (by omega) hi⟩
    obtain ⟨v, hv⟩ := HP.out
    have HV := Aside0.mk hv
    have HA := Aside0.mk hA
    have HB2 := Aside0.mk hb2
    clear h hA ht hf hn e0 e1 e2 hi hj hb2 HP hv
    go_enter_defers Tryd.func64, Tryd.ntmps64
    go_wp2_with first
      | (go_at_call 60; with_reducible refine HP2.out.mono ?_; rintro e w1 ⟨rfl, rfl⟩)
      | (go_at_call 60; with_reducible refine HV.out.mono ?_; rintro e w1 ⟨rfl, rfl⟩)
    have H1 := ((HB.out.step HB2.out).grown b).put (.int .i64 2)
    exact ar_no _ _ 0 _ _ HB.out.box (fun W' hc' => err8_res Tryd.results64 _ _ 2 rfl W' hc') ⟨rfl, (HA.out.below HB2.out).far (by simp; omega) (by simp; omega) _, H1.grown⟩
  have e0 : moveB ws to_ from_ n = true := by unfold moveB; rw [hi, hj]; rfl
  have e1 : moveW ws to_ from_ n = splice ws to_.toNat (cutW ws from_ n) := if_pos e0
  have e2 : moveE ws to_ from_ n = 0 := if_pos e0
  rw [e1, e2]
  obtain ⟨g0, g1, g2, g3⟩ := inB_iff.1 hi
  obtain ⟨_, k1, k2, k3⟩ := inB_iff.1 hj
  by_cases h0 : n = 0
  · subst h0
    have HP := Aside0.mk (fun (x : Int) (hx : I64 x) (hb : inB ws.length x 0 = true) => part_nil a b ws x _ hA hx hb)
    have HP1 := Aside0.mk (HP.out from_ hf hi)
    have HP2 := Aside0.mk (HP.out to_ ht hj)
    have es : splice ws to_.toNat (cutW ws from_ 0) = ws := by simp [splice, cutW]
    rw [es]
    have HA := Aside0.mk hA
    clear h hA ht hf hn e0 e1 e2 hi hj hb2 HP es
    go_enter_defers Tryd.func64, Tryd.ntmps64
    go_wp2_with first
      | (go_at_call 60; with_reducible refine HP1.out.mono ?_; rintro e w1 ⟨rfl, rfl⟩)
      | (go_at_call 60; with_reducible refine HP2.out.mono ?_; rintro e w1 ⟨rfl, rfl⟩)
      | (with_reducible refine wpList_copy_nothing rfl (.tmp 17) (.tmp 18) 42 42 rfl 24 Tryd.underlying42 sz24 none none 0 0 0 0 rfl rfl rfl ?_)
    have H1 := HB.out.grown b
    exact ar_ok _ _ 0 _ _ H1.box (fun W' hc' => err8_res Tryd.results64 _ _ 0 rfl W' hc') ⟨rfl, HA.out, H1.grown⟩
  · have HP1 := Aside0.mk (part_ok a b ws from_ n _ hA hf hn (by omega) hi)
    have HP2 := Aside0.mk (part_ok a b ws to_ n _ hA ht hn (by omega) hj)
    have hlc : (cutW ws from_ n).length = n.toNat := by
      have := cutW_length hi
      omega
    have hsrc : ∀ j v, (nums .u64 (cutW ws from_ n))[j]? = some v → (w.alloc (.cells #[.int .i64 0] 31)).cell? ((⟨b, from_.toNat, none⟩ : Addr).add j) = some v := by
      intro j v hj
      have hjn : j < n.toNat := by
        have := (List.getElem?_eq_some_iff.1 hj).1
        rw [nums_length, hlc] at this
        exact this
      have e : (⟨b, from_.toNat, none⟩ : Addr).add j = ⟨b, from_.toNat + j, none⟩ := by
        unfold Addr.add
        split <;> simp_all
      rw [e, blk_cell hA.row]
      unfold nums cutW at hj
      rw [List.getElem?_map, List.getElem?_take_of_lt hjn, List.getElem?_drop] at hj
      simpa [nums] using hj
    have HSrc := Aside0.mk hsrc
    have HA := Aside0.mk hA
    have HLc := Aside0.mk hlc
    clear h hA ht hf hn e0 e1 e2 hi hj hb2 hsrc hlc
    go_enter_defers Tryd.func64, Tryd.ntmps64
    go_wp2_with first
      | (go_at_call 60; with_reducible refine HP1.out.mono ?_; rintro e w1 ⟨rfl, rfl⟩)
      | (go_at_call 60; with_reducible refine HP2.out.mono ?_; rintro e w1 ⟨rfl, rfl⟩)
      | (with_reducible refine wpList_copy_own rfl (.tmp 17) (.tmp 18) 42 42 rfl 24 Tryd.underlying42 sz24 b to_.toNat n.toNat (ws.length - to_.toNat) ⟨b, from_.toNat, none⟩ n.toNat (ws.length - from_.toNat) rfl rfl (nums .u64 ws).toArray 24 HA.out.row (nums .u64 (cutW ws from_ n)) (by rw [nums_length, HLc.out]; simp) HSrc.out (by rw [nums_length, HLc.out]; simp [nums]; omega) (one_nums _ _) ?_
         rw [nums_splice]
         have hA2 := HA.out.setRow (length_splice ws to_.toNat (cutW ws from_ n) (by rw [HLc.out]; omega)) (splice_all to_.toNat HA.out.all (cutW_all HA.out.all from_ n))
         have hG2 := (HB.out.grown b).step hbb (grown_setRow _ b (nums .u64 (splice ws to_.toNat (cutW ws from_ n))).toArray)
         generalize World.setRow _ b _ = W2 at *
         have q2 := (blk_cell hG2.box 0).trans rfl
         have q3 := blk_frozen hG2.box 0
         have HA2 := Aside0.mk hA2
         have HG2 := Aside0.mk hG2
         clear hA2 hG2 q0 q1)
    have H1 := HG2.out.put (.int .i64 0)
    exact ar_ok _ _ 0 _ _ H1.box (fun W' hc' => err8_res Tryd.results64 _ _ 0 rfl W' hc') ⟨rfl, HA2.out.far (by simp; omega) (by simp; omega) _, H1.grown⟩
/-- What a call that answers words comes to. -/
def RowPost (l : List Int) (x : Int) (w : World) (e : Ending) (w' : World) : Prop := ∃ A c, e = .returned (.tuple #[.slice A l.length c, .int .i64 x]) ∧ (Kd.int .u64).C w' A l.length l ∧ l.length ≤ c ∧ Below w.heap.size w w'
def rowE (ws : List Int) (at_ n : Int) : Int := if inB ws.length at_ n = true then 0 else 2
def rowL (ws : List Int) (at_ n : Int) : List Int := if inB ws.length at_ n = true then cutW ws at_ n else []
theorem Row_res (tmps : Array Value) (q : Nat) (x : Int) (v : Value) (h6 : tmps[6]?.getD undef = v) (h7 : tmps[7]?.getD undef = .pointer (some ⟨q, 0, none⟩)) (W : World) (hc : W.cell? ⟨q, 0, none⟩ = some (.int .i64 x)) :
    (results Tryd.f20 tmps).run Tryd.prog W = .ok (.tuple #[v, .int .i64 x]) W := by
  unfold results
  rw [Tryd.results20]
  simp [go_sem, h6, h7, hc]
theorem C_own {w : World} {base : Nat} {e : TypeId} {k : IntKind} {v : Value} {xs : List Int} (h : w.ownsRow base e 1 v xs.length (nums k xs)) : ∃ A c, v = .slice A xs.length c ∧ xs.length ≤ c ∧ (Kd.int k).C w A xs.length xs := by
  obtain ⟨A, c, rfl, hc, h1, h2, h3⟩ := own_reads_of_le (enc := Value.int k) (d := (0 : Int)) (xs := xs) h
  refine ⟨A, c, rfl, hc, h1, h2, fun hn => ?_⟩
  obtain ⟨ad, e, hr⟩ := h3 (by omega)
  refine ⟨ad, e, fun j p hj => ⟨[.int k p], rfl, rfl, fun i u hu => ?_⟩⟩
  match i, hu with
  | 0, hu =>
    simp at hu
    subst hu
    have hlt := (List.getElem?_eq_some_iff.1 hj).1
    have h := hr j (by omega)
    rw [List.getD_eq_getElem?_getD, hj] at h
    show w.cell? (ad.add (j * 1 + 0)) = _
    rw [Nat.mul_one, Nat.add_zero]
    exact h
theorem grown_setCell (W : World) (g i : Nat) (v : Value) : W.grownBy (W.setCell ⟨g, i, none⟩ v) (some g) :=
  ⟨rfl, rfl, rfl, by simp, fun k hk hne => by
    have : k ≠ g := fun h => hne (by rw [h])
    simp [World.setCell, Array.getElem?_modify, Ne.symm this]⟩
set_option maxRecDepth 100000 in
set_option maxHeartbeats 2000000 in
theorem Row_calls (a b : Nat) (ws : List Int) (at_ n : Int) (w : World) (h : IsArena w a b ws) (hat : I64 at_) (hn : I64 n) :
    Calls Tryd.prog 20 #[.pointer (some ⟨a, 0, none⟩), .int .i64 at_, .int .i64 n] w (RowPost (rowL ws at_ n) (rowE ws at_ n) w) := by
  have HB := Aside0.mk (ABox.start w (.int .i64 0) 31)
  have q0 := (blk_cell HB.out.box 0).trans rfl
  have q1 := blk_frozen HB.out.box 0
  have hA := h.below HB.out.below
  have hl := h.len
  by_cases hi : inB ws.length at_ n = true
  · have e1 : rowL ws at_ n = cutW ws at_ n := if_pos hi
    have e2 : rowE ws at_ n = 0 := if_pos hi
    rw [e1, e2]
    obtain ⟨g0, g1, g2, g3⟩ := inB_iff.1 hi
    have hlc : (cutW ws at_ n).length = n.toNat := by
      have := cutW_length hi
      omega
    have HP : Aside0 (∃ A c, (Kd.int .u64).C (w.alloc (.cells #[.int .i64 0] 31)) A (cutW ws at_ n).length (cutW ws at_ n) ∧ (cutW ws at_ n).length ≤ c ∧ Calls Tryd.prog 60 #[.pointer (some ⟨a, 0, none⟩), .int .i64 at_, .int .i64 n] (w.alloc (.cells #[.int .i64 0] 31)) fun e w' => e = .returned (.slice A (cutW ws at_ n).length c) ∧ (w.alloc (.cells #[.int .i64 0] 31)) = w') := by
      refine ⟨?_⟩
      by_cases h0 : n = 0
      · subst h0
        have e : cutW ws at_ 0 = [] := by simp [cutW]
        rw [e]
        exact ⟨none, 0, Kd.C_nil _ _, Nat.le_refl _, part_nil a b ws at_ _ hA hat hi⟩
      · rw [hlc]
        exact ⟨some ⟨b, at_.toNat, none⟩, ws.length - at_.toNat, C_blk hA.row (by omega) at_.toNat n.toNat (by omega), by omega, part_ok a b ws at_ n _ hA hat hn (by omega) hi⟩
    obtain ⟨A, c, hC, hcl, hv⟩ := HP.out
    have HV := Aside0.mk hv
    have HCl := Aside0.mk (cloneU_calls A c (cutW ws at_ n) _ hC hcl (by omega))
    generalize cutW ws at_ n = L at *
    clear h hA hat e1 e2 hi HP hC hcl hv hlc
    go_enter_defers Tryd.func20, Tryd.ntmps20
    go_wp2_with first
      | (go_at_call 60; with_reducible refine HV.out.mono ?_; rintro e w1 ⟨rfl, rfl⟩)
      | (go_at_call 59
         refine HCl.out.mono ?_
         rintro e w2 ⟨v, rfl, ho, hb⟩
         have HB2 := Aside0.mk (HB.out.step hb)
         have q2 := (blk_cell HB2.out.box 0).trans rfl
         have q3 := blk_frozen HB2.out.box 0
         have HO := Aside0.mk ho
         clear hb ho q0 q1)
    have H1 := HB2.out.put (.int .i64 0)
    have ho2 := own_other HO.out (grown_setCell w2 w.heap.size 0 (.int .i64 0)) (Or.inr (fun hh => by have := own_base HO.out _ hh; simp at this; omega))
    obtain ⟨A2, c2, rfl, hc2, hC2⟩ := C_own ho2
    exact ar_ok _ _ 0 _ _ H1.box (fun W' hc' => Row_res _ _ 0 _ rfl rfl W' hc') ⟨A2, c2, rfl, hC2, hc2, H1.below⟩
  · have e1 : rowL ws at_ n = [] := if_neg hi
    have e2 : rowE ws at_ n = 2 := if_neg hi
    rw [e1, e2]
    have HP := Aside0.mk (part_no a b ws at_ n _ hA hat hn (by simpa using hi))
    clear h hA hat hn e1 e2 hi
    go_enter_defers Tryd.func20, Tryd.ntmps20
    go_wp2_with (go_at_call 60; refine HP.out.mono ?_; rintro e w1 ⟨rfl, rfl⟩)
    exact ar_no _ _ 0 _ _ HB.out.box (fun W' hc' => Row_res _ _ 2 _ rfl rfl W' hc') ⟨none, 0, rfl, Kd.C_nil _ _, Nat.le_refl _, ((HB.out.below.alloc HB.out.below.size _).setCell (Nat.le_refl _) _)⟩
end Go.Proofs.YtfaghjadjpiaiaaDoor.Sh
namespace Go.Proofs.YtfaghjadjpiaiaaDoor.Sh
open Go.RowKit Go.Shelf Go.Proofs.YtfaghjadjpiaiaaDoorW.PrintWords Go.Proofs.YtfaghjadjpiaiaaDoorW.PrintLast Go.Proofs.YtfaghjadjpiaiaaDoorW.PrintMore
set_option linter.unusedVariables false
set_option linter.unusedSimpArgs false
theorem made_nums (n : Nat) : madeCells #[Value.int .u64 0] n = (nums .u64 (List.replicate n 0)).toArray := by
  apply Array.ext'
  rw [toList_madeCells_one]
  simp [nums]
theorem zeros_all (n : Nat) : AllU (List.replicate n 0) := fun x hx => by
  rw [List.eq_of_mem_replicate hx]
  exact ⟨by decide, by decide⟩
set_option maxRecDepth 100000 in
theorem New_calls (p : Int) (w : World) (h0 : 4 ≤ p) (h1 : p ≤ 1024) :
    Calls Tryd.prog 51 #[.int .i64 p] w fun e w' => e = .returned (.tuple #[.pointer (some ⟨w.heap.size + 1, 0, none⟩), .int .i64 0]) ∧ IsArena w' (w.heap.size + 1) w.heap.size (List.replicate (p.toNat * 64) 0) ∧ Below w.heap.size w w' := by
  have hmk : ∀ W : World, (Instr.makeSlice 42 (.int .i64 (p * 64)) (.int .i64 (p * 64))).run Tryd.prog W = .ok (.slice (some ⟨W.heap.size, 0, none⟩) (p.toNat * 64) (p.toNat * 64)) (W.alloc (.cells (nums .u64 (List.replicate (p.toNat * 64) 0)).toArray 24)) := by
    intro W
    rw [print_make_int 42 24 (.int .u64 0) 8 Tryd.underlying42 info24 rfl (by decide) (p * 64) (by omega) (by omega) W, show (p * 64).toNat = p.toNat * 64 by omega, made_nums]
  have hlen : p.toNat * 64 ≤ 65536 := by omega
  go_enter Tryd.func51, Tryd.ntmps51
  go_wp2
  go_ret2
  have h1 := heap_alloc_new w (.cells (nums .u64 (List.replicate (p.toNat * 64) 0)).toArray 24)
  have h2 := heap_alloc_new (w.alloc (.cells (nums .u64 (List.replicate (p.toNat * 64) 0)).toArray 24)) (.cells #[.slice (some ⟨w.heap.size, 0, none⟩) (p.toNat * 64) (p.toNat * 64)] 162)
  refine ⟨by simp, ⟨?_, blk_alloc h1 _, by simpa using hlen, zeros_all _⟩, below_alloc (below_alloc (Below.refl _ _) _) _⟩
  rw [List.length_replicate]
  simpa using h2
theorem splice_get {α : Type} (L cs : List α) (o i : Nat) (h : o + cs.length ≤ L.length) : (splice L o cs)[i]? = if o ≤ i ∧ i < o + cs.length then cs[i - o]? else L[i]? := by
  unfold splice
  by_cases h1 : i < o
  · rw [if_neg (by omega), List.getElem?_append_left (by simp; omega), List.getElem?_take_of_lt h1]
  · rw [List.getElem?_append_right (by simp; omega)]
    have e : i - (L.take o).length = i - o := by simp; omega
    rw [e]
    by_cases h2 : i < o + cs.length
    · rw [if_pos (by omega), List.getElem?_append_left (by omega)]
    · rw [if_neg (by omega), List.getElem?_append_right (by omega), List.getElem?_drop]
      congr 1
      omega
theorem blk_setCells {g : Nat} {t : TypeId} : ∀ (vs : List Value) (o : Nat) (L : List Value) (w : World), o + vs.length ≤ L.length → w.heap[g]? = some (.cells L.toArray t (0, 0)) → (w.setCells g o vs).heap[g]? = some (.cells (splice L o vs).toArray t (0, 0))
  | [], o, L, w, h, hb => by simpa [splice, World.setCells] using hb
  | v :: r, o, L, w, h, hb => by
    have h1 := blk_set hb o v
    have h2 : (w.setCell ⟨g, o, none⟩ v).heap[g]? = some (.cells (L.set o v).toArray t (0, 0)) := by
      rw [h1]
      simp
    rw [World.setCells, blk_setCells r (o + 1) (L.set o v) _ (by simp at h ⊢; omega) h2]
    congr 3
    simp only [List.length_cons] at h
    apply List.ext_getElem?
    intro i
    rw [splice_get _ _ _ _ (by simp; omega), splice_get _ _ _ _ (by simp; omega)]
    simp only [List.length_cons]
    by_cases h3 : i = o
    · subst h3
      rw [if_neg (by omega), if_pos (by omega)]
      simp [show i < L.length by omega]
    · by_cases h4 : o + 1 ≤ i ∧ i < o + 1 + r.length
      · rw [if_pos h4, if_pos (by omega), show i - o = (i - (o + 1)) + 1 by omega]
        simp
      · rw [if_neg h4, if_neg (by omega), List.getElem?_set_ne (Ne.symm h3)]
theorem grown_setCells (g : Nat) : ∀ (vs : List Value) (o : Nat) (W : World), W.grownBy (W.setCells g o vs) (some g)
  | [], o, W => World.grownBy.refl _ _
  | v :: r, o, W => World.grownBy.trans (grown_setCell W g o v) (grown_setCells g r (o + 1) _)
def zeroW (ws : List Int) (at_ n : Int) : List Int := if inB ws.length at_ n = true then splice ws at_.toNat (List.replicate n.toNat 0) else ws
set_option maxRecDepth 100000 in
set_option maxHeartbeats 2000000 in
theorem Zero_calls (a b : Nat) (ws : List Int) (at_ n : Int) (w : World) (h : IsArena w a b ws) (hat : I64 at_) (hn : I64 n) :
    Calls Tryd.prog 29 #[.pointer (some ⟨a, 0, none⟩), .int .i64 at_, .int .i64 n] w (ArPost a b (zeroW ws at_ n) (rowE ws at_ n) w) := by
  have HB := Aside0.mk (ABox.start w (.int .i64 0) 31)
  have q0 := (blk_cell HB.out.box 0).trans rfl
  have q1 := blk_frozen HB.out.box 0
  have hA := h.below HB.out.below
  have hl := h.len
  have hba := h.lta
  have hbb := h.ltb
  by_cases hi : inB ws.length at_ n = true
  · have e1 : zeroW ws at_ n = splice ws at_.toNat (List.replicate n.toNat 0) := if_pos hi
    have e2 : rowE ws at_ n = 0 := if_pos hi
    rw [e1, e2]
    obtain ⟨g0, g1, g2, g3⟩ := inB_iff.1 hi
    by_cases h0 : n = 0
    · subst h0
      have HP := Aside0.mk (part_nil a b ws at_ _ hA hat hi)
      have es : splice ws at_.toNat (List.replicate (0 : Int).toNat 0) = ws := by simp [splice]
      rw [es]
      have HA := Aside0.mk hA
      have hcl : ∀ W : World, (Builtin.clear_ #[42] 0 #[.slice none 0 0]).run Tryd.prog W = .ok (.tuple #[]) W := fun W => by
        simp [Builtin.clear_, run_underlying Tryd.underlying42]
      clear h hA hat e1 e2 hi es hn
      go_enter_defers Tryd.func29, Tryd.ntmps29
      go_wp2_with (go_at_call 60; refine HP.out.mono ?_; rintro e w1 ⟨rfl, rfl⟩)
      have H1 := HB.out.grown b
      exact ar_ok _ _ 0 _ _ H1.box (fun W' hc' => err6_res Tryd.results29 _ _ 0 rfl W' hc') ⟨rfl, HA.out, H1.grown⟩
    · have HP := Aside0.mk (part_ok a b ws at_ n _ hA hat hn (by omega) hi)
      obtain ⟨W2, hW2⟩ : ∃ W2, W2 = (w.alloc (.cells #[.int .i64 0] 31)).setCells b at_.toNat (List.replicate n.toNat (.int .u64 0)) := ⟨_, rfl⟩
      have hcl : ∀ ty, (Builtin.clear_ #[42] ty #[.slice (some ⟨b, at_.toNat, none⟩) n.toNat (ws.length - at_.toNat)]).run Tryd.prog (w.alloc (.cells #[.int .i64 0] 31)) = .ok (.tuple #[]) W2 := by
        intro ty
        rw [hW2]
        refine Lib.run_clear_slice _ _ 24 ty (.int .u64 0) Tryd.underlying42 (fun w => by kernel_rfl) rfl rfl b at_.toNat n.toNat _ (by omega) (fun j hj => ?_) (fun j hj => blk_frozen hA.row _)
        rw [blk_cell hA.row]
        simp [nums]
        omega
      have hb2 := blk_setCells (List.replicate n.toNat (Value.int .u64 0)) at_.toNat (nums .u64 ws) _ (by simp [nums]; omega) hA.row
      rw [← hW2] at hb2
      have hg2 := grown_setCells b (List.replicate n.toNat (Value.int .u64 0)) at_.toNat (w.alloc (.cells #[.int .i64 0] 31))
      rw [← hW2] at hg2
      have hsp : splice (nums .u64 ws) at_.toNat (List.replicate n.toNat (Value.int .u64 0)) = nums .u64 (splice ws at_.toNat (List.replicate n.toNat 0)) := by
        simp [nums, splice]
      rw [hsp] at hb2
      have hls : (splice ws at_.toNat (List.replicate n.toNat 0)).length = ws.length := length_splice _ _ _ (by simp; omega)
      have hA2 : IsArena W2 a b (splice ws at_.toNat (List.replicate n.toNat 0)) :=
        ⟨by rw [hls]; exact blk_grown hA.ptr hg2 (fun hh => hA.ne (by injection hh)), hb2, by rw [hls]; exact hl, splice_all _ hA.all (zeros_all _)⟩
      have hG2 := (HB.out.grown b).step hbb hg2
      have q2 := (blk_cell hG2.box 0).trans rfl
      have q3 := blk_frozen hG2.box 0
      have HA2 := Aside0.mk hA2
      have HG2 := Aside0.mk hG2
      have hcl0 := hcl 0
      clear h hA hat hn e1 e2 hi hcl hW2 hb2 hg2 hsp hls hA2 hG2 q0 q1
      go_enter_defers Tryd.func29, Tryd.ntmps29
      go_wp2_with (go_at_call 60; refine HP.out.mono ?_; rintro e w1 ⟨rfl, rfl⟩)
      have H1 := HG2.out.put (.int .i64 0)
      exact ar_ok _ _ 0 _ _ H1.box (fun W' hc' => err6_res Tryd.results29 _ _ 0 rfl W' hc') ⟨rfl, HA2.out.far (by simp; omega) (by simp; omega) _, H1.grown⟩
  · have e1 : zeroW ws at_ n = ws := if_neg hi
    have e2 : rowE ws at_ n = 2 := if_neg hi
    rw [e1, e2]
    have HP := Aside0.mk (part_no a b ws at_ n _ hA hat hn (by simpa using hi))
    have HA := Aside0.mk hA
    clear h hA hat hn e1 e2 hi
    go_enter_defers Tryd.func29, Tryd.ntmps29
    go_wp2_with (go_at_call 60; refine HP.out.mono ?_; rintro e w1 ⟨rfl, rfl⟩)
    have hb2 := below_alloc (Below.refl _ (w.alloc (.cells #[.int .i64 0] 31))) (.cells #[] 171)
    have H1 := ((HB.out.step hb2).grown b).put (.int .i64 2)
    exact ar_no _ _ 0 _ _ HB.out.box (fun W' hc' => err6_res Tryd.results29 _ _ 2 rfl W' hc') ⟨rfl, (HA.out.below hb2).far (by simp; omega) (by simp; omega) _, H1.grown⟩
end Go.Proofs.YtfaghjadjpiaiaaDoor.Sh
namespace Go.Proofs.YtfaghjadjpiaiaaDoor.Sh
open Go.RowKit Go.Shelf Go.Proofs.YtfaghjadjpiaiaaDoorW.PrintWords Go.Proofs.YtfaghjadjpiaiaaDoorW.PrintLast Go.Proofs.YtfaghjadjpiaiaaDoorW.PrintMore
set_option linter.unusedVariables false
set_option linter.unusedSimpArgs false
/-! ### Tables -/
def zEnt : Ent := ⟨0, [], []⟩
def tHas (t : List Ent) (f : Int) : Bool := decide (0 ≤ f) && decide (f < t.length)
def ent (t : List Ent) (f : Int) : Ent := t.getD f.toNat zEnt
def tSize (t : List Ent) (f : Int) : Int := if tHas t f = true then (ent t f).size else -1
def tPtr (t : List Ent) (f s : Int) : Bool := tHas t f && bitOf (ent t f).bits s
theorem kEnt_open {w : World} {x : Ent} {cs : List Value} (h : kEnt.K w x cs) : ∃ A1 c1 A2 c2, cs = [.int .i64 x.size, .slice A1 x.bits.length c1, .slice A2 x.ptrs.length c2] ∧ x.bits.length ≤ c1 ∧ x.ptrs.length ≤ c2 ∧ (Kd.int .u64).C w A1 x.bits.length x.bits ∧ (Kd.int .i64).C w A2 x.ptrs.length x.ptrs := by
  obtain ⟨_, _, rfl, rfl, _, _, rfl, ⟨A1, c1, rfl, l1, g1⟩, ⟨A2, c2, rfl, l2, g2⟩⟩ := h
  exact ⟨A1, c1, A2, c2, rfl, l1, l2, g1, g2⟩
theorem at_Ent {w : World} {A : Option Addr} {n : Nat} {xs : List Ent} (h : Kd.C kEnt w A n xs) (i : Int) (h0 : 0 ≤ i) (h1 : i < n) : ∃ ad A1 c1 A2 c2, A = some ad ∧ w.cell? (ad.add (i.toNat * 3)) = some (.int .i64 (ent xs i).size) ∧ w.cell? ⟨(ad.add (i.toNat * 3)).block, (ad.add (i.toNat * 3)).off + 1, none⟩ = some (.slice A1 (ent xs i).bits.length c1) ∧ w.cell? ⟨(ad.add (i.toNat * 3)).block, (ad.add (i.toNat * 3)).off + 2, none⟩ = some (.slice A2 (ent xs i).ptrs.length c2) ∧ (ent xs i).bits.length ≤ c1 ∧ (ent xs i).ptrs.length ≤ c2 ∧ (Kd.int .u64).C w A1 (ent xs i).bits.length (ent xs i).bits ∧ (Kd.int .i64).C w A2 (ent xs i).ptrs.length (ent xs i).ptrs := by
  obtain ⟨ad, e, hc⟩ := h.2.2 (by omega)
  have hl : i.toNat < xs.length := by have := h.1; omega
  obtain ⟨c, hs, hr, hcell⟩ := hc i.toNat _ (List.getElem?_eq_getElem hl)
  have he : ent xs i = xs[i.toNat] := by simp [ent, List.getElem?_eq_getElem hl]
  rw [he]
  obtain ⟨A1, c1, A2, c2, rfl, l1, l2, g1, g2⟩ := kEnt_open hr
  exact ⟨ad, A1, c1, A2, c2, e, hcell 0 _ rfl, by have := hcell 1 _ rfl; rw [← add_field _ _ 1 (by omega)]; exact this, by have := hcell 2 _ rfl; rw [← add_field _ _ 2 (by omega)]; exact this, l1, l2, g1, g2⟩
theorem size_calls (a : Nat) (t : List Ent) (f : Int) (w : World) (h : IsTab w a t) :
    Calls Tryd.prog 72 #[.pointer (some ⟨a, 0, none⟩), .int .i64 f] w fun e w' => e = .returned (.int .i64 (tSize t f)) ∧ w = w' := by
  have HH := Aside0.mk (has_calls a t f w h)
  by_cases hh : tHas t f = true
  · have hh' : (decide (0 ≤ f) && decide (f < t.length)) = true := hh
    rw [hh'] at HH
    simp only [Bool.and_eq_true, decide_eq_true_eq] at hh'
    obtain ⟨A, c, h1, h2, h3⟩ := h
    have hc : w.cell? ⟨a, 0, none⟩ = some (.slice A t.length c) := (blk_cell h1 0).trans rfl
    obtain ⟨ad, A1, c1, A2, c2, rfl, g0, g1, g2, _⟩ := at_Ent h3 f hh'.1 hh'.2
    have HS := Aside0.mk (show tSize t f = (ent t f).size by rw [tSize, if_pos hh])
    have hf0 := hh'.1
    have hf1 := hh'.2
    clear hh hh' h1 h3
    go_enter Tryd.func72, Tryd.ntmps72
    go_wp2_with (go_at_call 67; refine HH.out.mono ?_; rintro e w1 ⟨rfl, rfl⟩)
    go_ret
    exact ⟨by rw [HS.out]; rfl, rfl⟩
  · have hh' : (decide (0 ≤ f) && decide (f < t.length)) = false := by simpa [tHas] using hh
    rw [hh'] at HH
    have HS := Aside0.mk (show tSize t f = -1 by rw [tSize, if_neg hh])
    clear hh hh'
    go_enter Tryd.func72, Tryd.ntmps72
    go_wp2_with (go_at_call 67; refine HH.out.mono ?_; rintro e w1 ⟨rfl, rfl⟩)
    go_ret
    exact ⟨by rw [HS.out]; rfl, rfl⟩
def AllE (t : List Ent) : Prop := ∀ e ∈ t, AllU e.bits
theorem ent_mem {t : List Ent} {f : Int} (h0 : 0 ≤ f) (h1 : f < t.length) : ent t f ∈ t := by
  have hl : f.toNat < t.length := by omega
  have he : ent t f = t[f.toNat] := by simp [ent, List.getElem?_eq_getElem hl]
  rw [he]; exact List.getElem_mem _
theorem C_one (k : IntKind) (w : World) (x : Int) (t : TypeId) : (Kd.int k).C (w.alloc (.cells #[.int k x] t)) (some ⟨w.heap.size, 0, none⟩) ([x] : List Int).length [x] := by
  refine ⟨rfl, by simp, fun _ => ⟨_, rfl, fun j p hj => ?_⟩⟩
  match j, hj with
  | 0, hj =>
    simp at hj
    subst hj
    refine ⟨[.int k x], rfl, rfl, fun i u hu => ?_⟩
    match i, hu with
    | 0, hu =>
      simp at hu
      subst hu
      exact (blk_cell (heap_alloc_new w _) 0).trans rfl
set_option maxRecDepth 100000 in
theorem ptr_calls (a : Nat) (t : List Ent) (f s : Int) (w : World) (h : IsTab w a t) (hA : AllE t) (hs : I64 s) :
    Calls Tryd.prog 89 #[.pointer (some ⟨a, 0, none⟩), .int .i64 f, .int .i64 s] w fun e w' => e = .returned (.bool (tPtr t f s)) ∧ Below w.heap.size w w' := by
  have HH := Aside0.mk (has_calls a t f w h)
  by_cases hh : tHas t f = true
  · have hh' : (decide (0 ≤ f) && decide (f < t.length)) = true := hh
    rw [hh'] at HH
    simp only [Bool.and_eq_true, decide_eq_true_eq] at hh'
    obtain ⟨A, c, h1, h2, h3⟩ := h
    have hc : w.cell? ⟨a, 0, none⟩ = some (.slice A t.length c) := (blk_cell h1 0).trans rfl
    obtain ⟨ad, A1, c1, A2, c2, rfl, g0, g1, g2, hl1, hl2, hC1, _⟩ := at_Ent h3 f hh'.1 hh'.2
    have hU := hA _ (ent_mem hh'.1 hh'.2)
    have HS := Aside0.mk (show tPtr t f s = bitOf (ent t f).bits s by rw [tPtr, hh, Bool.true_and])
    have hf0 := hh'.1
    have hf1 := hh'.2
    have hb : Below w.heap.size w (w.alloc (.cells #[.int .i64 s] 3)) := below_alloc (Below.refl _ _) _
    have HHas := Aside0.mk (Has_calls A1 c1 (ent t f).bits (some ⟨w.heap.size, 0, none⟩) 1 [s] (w.alloc (.cells #[.int .i64 s] 3)) (Kd.C_below hC1 hb) hl1 hU (C_one .i64 w s _) (Nat.le_refl _) (by intro x hx; rw [List.mem_singleton.1 hx]; exact hs) (by simp))
    have HB := Aside0.mk hb
    clear hh hh' h1 h3 hC1 hl1 hl2 hA hU hb hs
    go_enter Tryd.func89, Tryd.ntmps89
    go_wp2_with (first | (go_at_call 67; refine HH.out.mono ?_; rintro e w1 ⟨rfl, rfl⟩) | (go_at_call 134; refine HHas.out.mono ?_; rintro e w1 ⟨rfl, hb1⟩; have HB1 := Aside0.mk (below_then HB.out HB.out.size hb1); clear hb1))
    go_ret
    exact ⟨by rw [HS.out]; simp, HB1.out⟩
  · have hh' : (decide (0 ≤ f) && decide (f < t.length)) = false := by simpa [tHas] using hh
    rw [hh'] at HH
    have HS := Aside0.mk (show tPtr t f s = false by rw [tPtr]; simp [hh])
    clear hh hh'
    go_enter Tryd.func89, Tryd.ntmps89
    go_wp2_with (go_at_call 67; refine HH.out.mono ?_; rintro e w1 ⟨rfl, rfl⟩)
    go_ret
    exact ⟨by rw [HS.out]; rfl, Below.refl _ _⟩
end Go.Proofs.YtfaghjadjpiaiaaDoor.Sh
namespace Go.Proofs.YtfaghjadjpiaiaaDoor.Sh
open Go.RowKit Go.Shelf Go.Proofs.YtfaghjadjpiaiaaDoorW.PrintWords Go.Proofs.YtfaghjadjpiaiaaDoorW.PrintLast Go.Proofs.YtfaghjadjpiaiaaDoorW.PrintMore
set_option linter.unusedVariables false
set_option linter.unusedSimpArgs false
def powB (n : Int) : Bool := decide (0 < n) && (bits BinOp.and IntKind.i64 n (n - 1) == 0)
theorem is_calls (n : Int) (w : World) (hn : I64 n) : Calls Tryd.prog 162 #[.int .i64 n] w fun e w' => e = .returned (.bool (powB n)) ∧ w = w' := by
  unfold I64 at hn
  by_cases h0 : 0 < n
  · go_enter Tryd.func162, Tryd.ntmps162
    go_wp2
    go_ret
    exact ⟨by unfold powB; rw [decide_eq_true h0]; rfl, rfl⟩
  · go_enter Tryd.func162, Tryd.ntmps162
    go_wp2
    go_ret
    exact ⟨by unfold powB; rw [decide_eq_false (by omega)]; rfl, rfl⟩
theorem is1_calls (n : Int) (w : World) (hn : I64 n) : Calls Tryd.prog 161 #[.int .i64 n] w fun e w' => e = .returned (.bool (!powB n)) ∧ w = w' := by
  have HI := Aside0.mk (is_calls n w hn)
  generalize powB n = b at *
  clear hn
  go_enter Tryd.func161, Tryd.ntmps161
  go_wp2_with (go_at_call 162; refine HI.out.mono ?_; rintro e w1 ⟨rfl, rfl⟩)
  go_ret
  exact ⟨rfl, rfl⟩
theorem quietB {g : Nat} {args : Array Value} {w : World} {v : Value} (h : Calls Tryd.prog g args w fun e w' => e = .returned v ∧ w = w') : Calls Tryd.prog g args w fun e w' => e = .returned v ∧ Below w.heap.size w w' :=
  h.mono fun e w' ⟨h1, h2⟩ => ⟨h1, by rw [← h2]; exact Below.refl _ _⟩
theorem Is_calls (A : Option Addr) (c : Nat) (xs : List Int) (w : World) (hr : (Kd.int .i64).C w A xs.length xs) (hl : xs.length ≤ c) (hx : AllI xs) :
    Calls Tryd.prog 142 #[.slice A xs.length c] w fun e w' => e = .returned (.bool (!(xs.any fun n => !powB n))) ∧ Below w.heap.size w w' := by
  have HC := Aside0.mk (cont_int A c xs 161 #[] (fun n => !powB n) w hr hl hr.2.1 (enters_of Tryd.func161 (by kernel_rfl) rfl) (fun W x hx' _ => quietB (is1_calls x W (hx x hx'))))
  generalize (xs.any fun n => !powB n) = b at *
  clear hr hl hx
  go_enter Tryd.func142, Tryd.ntmps142
  go_wp2_with (go_at_call 117; refine HC.out.mono ?_; rintro e w1 ⟨rfl, hb⟩; have HB := Aside0.mk hb; clear hb)
  go_ret
  exact ⟨rfl, HB.out⟩
theorem sizes1_calls (n : Int) (w : World) : Calls Tryd.prog 143 #[.int .i64 n] w fun e w' => e = .returned (.bool (decide (n < 16))) ∧ w = w' := by
  go_enter Tryd.func143, Tryd.ntmps143
  go_wp2
  go_ret
  exact ⟨rfl, rfl⟩
def sizeB (n : Int) : Bool := powB n && decide (16 ≤ n)
theorem Sizes_calls (A : Option Addr) (c : Nat) (n : Int) (w : World) (hr : (Kd.int .i64).C w A ([n] : List Int).length [n]) (hl : 1 ≤ c) (hn : I64 n) :
    Calls Tryd.prog 108 #[.slice A 1 c] w fun e w' => e = .returned (.bool (sizeB n)) ∧ Below w.heap.size w w' := by
  have hx : AllI [n] := fun x hx => by rw [List.mem_singleton.1 hx]; exact hn
  have HI := Aside0.mk (Is_calls A c [n] w hr hl hx)
  have HC := Aside0.mk (fun (W : World) (hb : Below w.heap.size w W) => cont_int A c [n] 143 #[] (fun n => decide (n < 16)) W (Kd.C_below hr hb) hl hr.2.1 (enters_of Tryd.func143 (by kernel_rfl) rfl) (fun W' x _ _ => quietB (sizes1_calls x W')))
  simp only [List.any_cons, List.any_nil, Bool.or_false, Bool.not_not, List.length_singleton] at HI HC
  clear hr hl hx
  unfold sizeB
  cases hp : powB n
  · rw [hp] at HI
    clear hp HC
    go_enter Tryd.func108, Tryd.ntmps108
    go_wp2_with (go_at_call 142; refine HI.out.mono ?_; rintro e w1 ⟨rfl, hb⟩; have HB := Aside0.mk hb; clear hb)
    go_ret
    exact ⟨rfl, HB.out⟩
  · rw [hp] at HI
    clear hp
    have e : (true && decide (16 ≤ n)) = !decide (n < 16) := by
      by_cases h : n < 16
      · rw [decide_eq_true h, decide_eq_false (by omega)]; rfl
      · rw [decide_eq_false h, decide_eq_true (by omega)]; rfl
    rw [e]
    generalize decide (n < 16) = q at *
    clear e
    go_enter Tryd.func108, Tryd.ntmps108
    go_wp2_with first
      | (go_at_call 142; refine HI.out.mono ?_; rintro e w1 ⟨rfl, hb⟩; have HB := Aside0.mk hb; clear hb)
      | (go_at_call 117; refine (HC.out _ HB.out).mono ?_; rintro e w2 ⟨rfl, hb⟩; have HB2 := Aside0.mk (below_then HB.out HB.out.size hb); clear hb)
    go_ret
    exact ⟨rfl, HB2.out⟩
/-! ### A table's words, pointer slots -/
def tWords (t : List Ent) (f : Int) : Int := if tHas t f = true then (ent t f).size + 2 else -1
theorem words_calls (a : Nat) (t : List Ent) (f : Int) (w : World) (h : IsTab w a t) (hs : tSize t f ≤ 1000000) (hs0 : -1 ≤ tSize t f) :
    Calls Tryd.prog 71 #[.pointer (some ⟨a, 0, none⟩), .int .i64 f] w fun e w' => e = .returned (.int .i64 (tWords t f)) ∧ w = w' := by
  have HH := Aside0.mk (has_calls a t f w h)
  by_cases hh : tHas t f = true
  · have hh' : (decide (0 ≤ f) && decide (f < t.length)) = true := hh
    rw [hh'] at HH
    simp only [Bool.and_eq_true, decide_eq_true_eq] at hh'
    obtain ⟨A, c, h1, h2, h3⟩ := h
    have hc : w.cell? ⟨a, 0, none⟩ = some (.slice A t.length c) := (blk_cell h1 0).trans rfl
    obtain ⟨ad, A1, c1, A2, c2, rfl, g0, g1, g2, _⟩ := at_Ent h3 f hh'.1 hh'.2
    rw [tSize, if_pos hh] at hs hs0
    have HS := Aside0.mk (show tWords t f = (ent t f).size + 2 by rw [tWords, if_pos hh])
    have hf0 := hh'.1
    have hf1 := hh'.2
    clear hh hh' h1 h3
    go_enter Tryd.func71, Tryd.ntmps71
    go_wp2_with (go_at_call 67; refine HH.out.mono ?_; rintro e w1 ⟨rfl, rfl⟩)
    go_ret
    exact ⟨by rw [HS.out]; rfl, rfl⟩
  · have hh' : (decide (0 ≤ f) && decide (f < t.length)) = false := by simpa [tHas] using hh
    rw [hh'] at HH
    have HS := Aside0.mk (show tWords t f = -1 by rw [tWords, if_neg hh])
    clear hh hh' hs hs0
    go_enter Tryd.func71, Tryd.ntmps71
    go_wp2_with (go_at_call 67; refine HH.out.mono ?_; rintro e w1 ⟨rfl, rfl⟩)
    go_ret
    exact ⟨by rw [HS.out]; rfl, rfl⟩
theorem cloneI_calls (A : Option Addr) (c : Nat) (b : List Int) (w : World) (hr : (Kd.int .i64).C w A b.length b) (hl : b.length ≤ c) (hb : b.length ≤ 1048576) :
    Calls Tryd.prog 68 #[.slice A b.length c] w fun e w' => ∃ v, e = .returned v ∧ w'.ownsRow w.heap.size 3 1 v b.length (nums .i64 b) ∧ Below w.heap.size w w' := by
  have qT : ∀ (w : World) (a : Option Addr) (n c n' c' : Nat), (binOp .eql 27 (.slice a n c) (.slice none n' c')).run Tryd.prog w = .ok (.bool a.isNone) w := fun w a n c n' c' => Lib.run_eql_slice_nil w _ _ a n c n' c' Tryd.underlying27
  have HR := Aside0.mk hr
  clear hr
  cases A with
  | none =>
    have hz : b = [] := by
      cases b with
      | nil => rfl
      | cons x r => obtain ⟨ad, h, _⟩ := HR.out.2.2 (by simp); cases h
    subst hz
    go_enter Tryd.func68, Tryd.ntmps68
    go_wp2
    go_ret
    exact ⟨_, rfl, own_nil _ _ _ _, Below.refl _ _⟩
  | some ad =>
    go_enter Tryd.func68, Tryd.ntmps68
    have HO : Aside0 ((Kd.int .i64).R 3 (w.alloc (.cells #[] 3)) w.heap.size (fun _ => True) (.slice (some ⟨w.heap.size, 0, none⟩) 0 0) []) := ⟨Kd.R_of_own (enc := Value.int .i64) (World.ownsRow_made w #[] 0 (Nat.le_refl _) (by unfold maxLen; omega) rfl) (fun _ _ => trivial)⟩
    have HB0 : Aside0 (Below w.heap.size w (w.alloc (.cells #[] 3))) := ⟨below_alloc (Below.refl _ _) _⟩
    have HR1 := Aside0.mk (Kd.C_below HR.out HB0.out)
    go_wp2_with (at_builtin; refine Kd.R_append_rows (Kd.int .i64) (w0 := w) w.heap.size rfl (.tmp 5) (.tmp 6) 27 3 (.int .i64 0) 8 rfl Tryd.underlying27 info3 rfl (by decide) (by omega) (.slice (some ⟨w.heap.size, 0, none⟩) 0 0) [] b (some ad) b.length c (fun _ => True) (fun _ => False) rfl rfl HO.out HR1.out (fun _ _ h => h) (fun _ h => h.elim) (fun _ _ => trivial) HB0.out (by simp) (by simp; omega) ?_; intro v1 w1 hR hB _ _; have HR2 := Aside0.mk hR; have HB2 := Aside0.mk hB; clear hR hB)
    go_ret
    exact ⟨_, rfl, by have := own_of_R HR2.out; simpa using this, HB2.out⟩
def tPtrs (t : List Ent) (f : Int) : List Int := if tHas t f = true then (ent t f).ptrs else []
theorem ptrs_calls (a : Nat) (t : List Ent) (f : Int) (w : World) (h : IsTab w a t) (hs : (tPtrs t f).length ≤ 1048576) :
    Calls Tryd.prog 26 #[.pointer (some ⟨a, 0, none⟩), .int .i64 f] w fun e w' => ∃ A c, e = .returned (.slice A (tPtrs t f).length c) ∧ (Kd.int .i64).C w' A (tPtrs t f).length (tPtrs t f) ∧ (tPtrs t f).length ≤ c ∧ Below w.heap.size w w' := by
  have HH := Aside0.mk (has_calls a t f w h)
  by_cases hh : tHas t f = true
  · have hh' : (decide (0 ≤ f) && decide (f < t.length)) = true := hh
    rw [hh'] at HH
    simp only [Bool.and_eq_true, decide_eq_true_eq] at hh'
    obtain ⟨A, c, h1, h2, h3⟩ := h
    have hc : w.cell? ⟨a, 0, none⟩ = some (.slice A t.length c) := (blk_cell h1 0).trans rfl
    obtain ⟨ad, A1, c1, A2, c2, rfl, g0, g1, g2, l1, l2, k1, k2⟩ := at_Ent h3 f hh'.1 hh'.2
    have hS : tPtrs t f = (ent t f).ptrs := by rw [tPtrs, if_pos hh]
    rw [hS] at hs ⊢
    have HCl := Aside0.mk (cloneI_calls A2 c2 (ent t f).ptrs w k2 l2 hs)
    have hf0 := hh'.1
    have hf1 := hh'.2
    clear hh hh' h1 h3 hS
    go_enter Tryd.func26, Tryd.ntmps26
    go_wp2_with first
      | (go_at_call 67; refine HH.out.mono ?_; rintro e w1 ⟨rfl, rfl⟩)
      | (go_at_call 68; refine HCl.out.mono ?_; rintro e w1 ⟨v, rfl, ho, hb⟩; have HO := Aside0.mk ho; have HB := Aside0.mk hb; clear ho hb)
    go_ret
    obtain ⟨A3, c3, rfl, m1, m2⟩ := C_own HO.out
    exact ⟨A3, c3, rfl, m2, m1, HB.out⟩
  · have hh' : (decide (0 ≤ f) && decide (f < t.length)) = false := by simpa [tHas] using hh
    rw [hh'] at HH
    have hS : tPtrs t f = [] := by rw [tPtrs, if_neg hh]
    rw [hS] at hs ⊢
    clear hh hh' hs
    go_enter Tryd.func26, Tryd.ntmps26
    go_wp2_with (go_at_call 67; refine HH.out.mono ?_; rintro e w1 ⟨rfl, rfl⟩)
    go_ret
    exact ⟨none, 0, rfl, Kd.C_nil _ _, Nat.le_refl _, Below.refl _ _⟩
end Go.Proofs.YtfaghjadjpiaiaaDoor.Sh
namespace Go.Proofs.YtfaghjadjpiaiaaDoor.Sh
open Go.RowKit Go.Shelf Go.Proofs.YtfaghjadjpiaiaaDoorW.PrintWords Go.Proofs.YtfaghjadjpiaiaaDoorW.PrintLast Go.Proofs.YtfaghjadjpiaiaaDoorW.PrintMore
set_option linter.unusedVariables false
set_option linter.unusedSimpArgs false
/-- A stack. -/
structure St where
  lo : Int
  size : Int
  sp : Int
def St.wf (s : St) : Prop := I64 s.lo ∧ I64 s.size ∧ I64 s.sp
def kSt : Kd St := Kd.iso (Kd.pair (Kd.int .i64) (Kd.pair (Kd.int .i64) (Kd.int .i64))) (fun x : St => (x.lo, x.size, x.sp))
theorem kSt_open {w : World} {x : St} {cs : List Value} (h : kSt.K w x cs) : cs = [.int .i64 x.lo, .int .i64 x.size, .int .i64 x.sp] := by
  obtain ⟨_, _, rfl, rfl, _, _, rfl, rfl, rfl⟩ := h
  rfl
theorem kSt_mk (w : World) (x : St) : kSt.K w x [.int .i64 x.lo, .int .i64 x.size, .int .i64 x.sp] := ⟨[.int .i64 x.lo], [.int .i64 x.size, .int .i64 x.sp], rfl, rfl, ⟨[.int .i64 x.size], [.int .i64 x.sp], rfl, rfl, rfl⟩⟩
/-- A block that the call has made, and all that was there. -/
structure BlkW (w : World) (n : Nat) (cs : Array Value) (t : TypeId) (W : World) : Prop where
  below : Below w.heap.size w W
  blk : W.heap[n]? = some (.cells cs t (0, 0))
theorem BlkW.step {w : World} {n : Nat} {cs : Array Value} {t : TypeId} {W W1 : World} (h : BlkW w n cs t W) (hb : Below W.heap.size W W1) : BlkW w n cs t W1 :=
  ⟨below_then h.below h.below.size hb, (hb.block _ (blk_lt h.blk)).trans h.blk⟩
theorem BlkW.start (w : World) (cs : Array Value) (t : TypeId) : BlkW w w.heap.size cs t (w.alloc (.cells cs t)) := ⟨below_alloc (Below.refl _ _) _, heap_alloc_new w _⟩
def mayS (N : Int) (s : St) : Bool := sizeB s.size && (inB N s.lo s.size && (decide (s.lo ≤ s.sp) && decide (s.sp ≤ s.lo + s.size)))
theorem mayS_iff {N : Int} {s : St} : mayS N s = true ↔ sizeB s.size = true ∧ inB N s.lo s.size = true ∧ s.lo ≤ s.sp ∧ s.sp ≤ s.lo + s.size := by
  unfold mayS
  simp
set_option maxRecDepth 100000 in
set_option maxHeartbeats 1000000 in
theorem may_st (a b : Nat) (ws : List Int) (s : St) (w : World) (h : IsArena w a b ws) (hs : s.wf) :
    Calls Tryd.prog 53 #[.pointer (some ⟨a, 0, none⟩), .agg #[.int .i64 s.lo, .int .i64 s.size, .int .i64 s.sp]] w fun e w' => e = .returned (.bool (mayS ws.length s)) ∧ Below w.heap.size w w' := by
  obtain ⟨lo, size, sp⟩ := s
  obtain ⟨i1, i2, i3⟩ := hs
  simp only at i1 i2 i3 ⊢
  have HB := Aside0.mk (BlkW.start w #[.int .i64 lo, .int .i64 size, .int .i64 sp] 44)
  have HB2 := Aside0.mk (HB.out.step (below_alloc (Below.refl _ _) (.cells #[.int .i64 size] 3)))
  have hC := C_one .i64 (w.alloc (.cells #[.int .i64 lo, .int .i64 size, .int .i64 sp] 44)) size 3
  rw [show (w.alloc (.cells #[.int .i64 lo, .int .i64 size, .int .i64 sp] 44)).heap.size = w.heap.size + 1 by simp] at hC
  have HSz := Aside0.mk (Sizes_calls _ 1 size _ hC (Nat.le_refl _) i2)
  clear hC
  have HIn := Aside0.mk (fun (W : World) (hb : Below w.heap.size w W) => In_calls a b ws lo size W (h.below hb) i1 i2)
  have hl := h.len
  unfold I64 at i1 i2 i3
  clear h
  by_cases h0 : sizeB size = true
  rotate_left
  · have e : mayS ws.length ⟨lo, size, sp⟩ = false := by unfold mayS; simp [h0]
    rw [e]
    rw [show sizeB size = false by simpa using h0] at HSz
    clear h0 e
    go_enter Tryd.func53, Tryd.ntmps53
    go_wp2_with (go_at_call 108; refine HSz.out.mono ?_; rintro e w1 ⟨rfl, hb⟩; have HB3 := Aside0.mk (HB2.out.step hb); clear hb)
    go_ret
    exact ⟨rfl, HB3.out.below⟩
  rw [h0] at HSz
  by_cases h1 : inB ws.length lo size = true
  rotate_left
  · have e : mayS ws.length ⟨lo, size, sp⟩ = false := by unfold mayS; simp [h1]
    rw [e]
    rw [show inB ws.length lo size = false by simpa using h1] at HIn
    clear h0 h1 e
    go_enter Tryd.func53, Tryd.ntmps53
    go_wp2_with first
      | (go_at_call 108; refine HSz.out.mono ?_; rintro e w1 ⟨rfl, hb⟩; have HB3 := Aside0.mk (HB2.out.step hb); have c0 := (blk_cell HB3.out.blk 0).trans rfl; have c1 := (blk_cell HB3.out.blk 1).trans rfl; have c2 := (blk_cell HB3.out.blk 2).trans rfl; clear hb)
      | (go_at_call 109; refine (HIn.out _ HB3.out.below).mono ?_; rintro e w2 ⟨rfl, rfl⟩)
    go_ret
    exact ⟨rfl, HB3.out.below⟩
  rw [h1] at HIn
  obtain ⟨g0, g1, g2, g3⟩ := inB_iff.1 h1
  have e : mayS ws.length ⟨lo, size, sp⟩ = (decide (lo ≤ sp) && decide (sp ≤ lo + size)) := by unfold mayS; simp [h0, h1]
  rw [e]
  clear h0 h1 e
  by_cases h2 : lo ≤ sp
  · go_enter Tryd.func53, Tryd.ntmps53
    go_wp2_with first
      | (go_at_call 108; refine HSz.out.mono ?_; rintro e w1 ⟨rfl, hb⟩; have HB3 := Aside0.mk (HB2.out.step hb); have c0 := (blk_cell HB3.out.blk 0).trans rfl; have c1 := (blk_cell HB3.out.blk 1).trans rfl; have c2 := (blk_cell HB3.out.blk 2).trans rfl; clear hb)
      | (go_at_call 109; refine (HIn.out _ HB3.out.below).mono ?_; rintro e w2 ⟨rfl, rfl⟩)
    go_ret
    exact ⟨by rw [decide_eq_true h2]; rfl, HB3.out.below⟩
  · go_enter Tryd.func53, Tryd.ntmps53
    go_wp2_with first
      | (go_at_call 108; refine HSz.out.mono ?_; rintro e w1 ⟨rfl, hb⟩; have HB3 := Aside0.mk (HB2.out.step hb); have c0 := (blk_cell HB3.out.blk 0).trans rfl; have c1 := (blk_cell HB3.out.blk 1).trans rfl; have c2 := (blk_cell HB3.out.blk 2).trans rfl; clear hb)
      | (go_at_call 109; refine (HIn.out _ HB3.out.below).mono ?_; rintro e w2 ⟨rfl, rfl⟩)
    go_ret
    exact ⟨by rw [decide_eq_false (by omega)]; rfl, HB3.out.below⟩
end Go.Proofs.YtfaghjadjpiaiaaDoor.Sh
