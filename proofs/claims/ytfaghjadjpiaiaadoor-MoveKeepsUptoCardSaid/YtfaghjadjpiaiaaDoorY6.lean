/- Contract of walk's walker.all. Contract of walk's walker.all, on. Contract of slices.Reverse over frames. Contract of walk.Frames. Contracts of package slots: size, Address, Find. Contract of slots.Find. What is handed to change: by Return. Words for what is handed to change: a slot that is written; a call that may panic. What is handed to change: by Set. Contract of model's refers. -/
import Derived.Test.YtfaghjadjpiaiaaDoorY3
import Derived.Test.YtfaghjadjpiaiaaDoorY5
namespace Go.Proofs.YtfaghjadjpiaiaaDoor.Sh
open Go.RowKit Go.Shelf Go.Proofs.YtfaghjadjpiaiaaDoorW.PrintWords Go.Proofs.YtfaghjadjpiaiaaDoorW.PrintLast Go.Proofs.YtfaghjadjpiaiaaDoorW.PrintMore
set_option linter.unusedVariables false
set_option linter.unusedSimpArgs false
theorem kFm_mkM (w : World) (base : Nat) (ok : Nat → Prop) (x : Fm) : kFm.M w base ok x [.int .i64 x.at_, .int .i64 x.fn, .int .i64 x.link] := ⟨[.int .i64 x.at_], [.int .i64 x.fn, .int .i64 x.link], rfl, rfl, ⟨[.int .i64 x.fn], [.int .i64 x.link], rfl, rfl, rfl⟩⟩
theorem info61 : (Tryd.prog.info? 61).map (fun i => (i.zero, i.size, i.bytes)) = some (some (.agg #[.int .i64 0, .int .i64 0, .int .i64 0]), 3, 24) := by kernel_rfl
/-- The frames from an address on, the last one first; none: there is no frame. -/
def walkL (ws : List Int) (t : List Ent) (hi at_ : Int) : Option (List Fm) :=
  if h : at_ < hi then
    if nextB ws t hi at_ = true then
      if h2 : at_ < endF t (readF ws t at_) then (walkL ws t hi (endF t (readF ws t at_))).map (readF ws t at_ :: ·) else none
    else none
  else some []
termination_by (hi - at_).toNat
decreasing_by omega
theorem next_end {ws : List Int} {t : List Ent} {hi at_ : Int} (ht : ∀ f, tHas t f = true → 0 ≤ tSize t f) (h : nextB ws t hi at_ = true) : at_ + 2 ≤ endF t (readF ws t at_) ∧ endF t (readF ws t at_) ≤ hi := by
  unfold nextB at h
  simp only [Bool.and_eq_true, decide_eq_true_eq] at h
  refine ⟨?_, h.2.1⟩
  obtain ⟨e, _, h2⟩ := readF_at h.1
  obtain ⟨o1, o2, _, _⟩ := frOk_iff.1 h2
  have hh : tHas t (frN ws at_ - 1) = true := by unfold tHas; simp; omega
  have hp := ht _ hh
  rw [e]
  unfold endF
  rw [words_size]
  simp only [hh, if_true]
  rw [if_neg (by omega)]
  show at_ + 2 ≤ at_ + (tSize t (frN ws at_ - 1) + 2)
  omega
theorem walkL_step {ws : List Int} {t : List Ent} {hi at_ : Int} (ht : ∀ f, tHas t f = true → 0 ≤ tSize t f) (h : at_ < hi) (hn : nextB ws t hi at_ = true) : walkL ws t hi at_ = (walkL ws t hi (endF t (readF ws t at_))).map (readF ws t at_ :: ·) := by
  have := (next_end ht hn).1
  rw [walkL, dif_pos h, if_pos hn, dif_pos (by omega)]
theorem walkL_no {ws : List Int} {t : List Ent} {hi at_ : Int} (h : at_ < hi) (hn : nextB ws t hi at_ = false) : walkL ws t hi at_ = none := by
  rw [walkL, dif_pos h, if_neg (by rw [hn]; decide)]
theorem walkL_end {ws : List Int} {t : List Ent} {hi at_ : Int} (h : ¬ at_ < hi) : walkL ws t hi at_ = some [] := by
  rw [walkL, dif_neg h]
/-- The boxes of all: the walker, the frames answered, the error. -/
structure AllW (w : World) (a g : Nat) (s : St) (v : Value) (x : Int) (W : World) : Prop where
  below : Below w.heap.size w W
  walker : W.heap[w.heap.size]? = some (.cells #[.pointer (some ⟨a, 0, none⟩), .pointer (some ⟨g, 0, none⟩), .int .i64 s.lo, .int .i64 s.size, .int .i64 s.sp] 110 (0, 0))
  out : W.heap[w.heap.size + 1]? = some (.cells #[v] 47 (0, 0))
  err : W.heap[w.heap.size + 2]? = some (.cells #[.int .i64 x] 31 (0, 0))
theorem AllW.start (w : World) (a g : Nat) (s : St) : AllW w a g s (.slice none 0 0) 0 (((w.alloc (.cells #[.pointer (some ⟨a, 0, none⟩), .pointer (some ⟨g, 0, none⟩), .int .i64 s.lo, .int .i64 s.size, .int .i64 s.sp] 110)).alloc (.cells #[.slice none 0 0] 47)).alloc (.cells #[.int .i64 0] 31)) where
  below := below_alloc (below_alloc (below_alloc (Below.refl _ _) _) _) _
  walker := (Below.heap_alloc _ _ _ (by simp; omega)).trans ((Below.heap_alloc _ _ _ (by simp)).trans (heap_alloc_new w _))
  out := (Below.heap_alloc _ _ _ (by simp)).trans (by have := heap_alloc_new (w.alloc (.cells #[.pointer (some ⟨a, 0, none⟩), .pointer (some ⟨g, 0, none⟩), .int .i64 s.lo, .int .i64 s.size, .int .i64 s.sp] 110)) (.cells #[.slice none 0 0] 47); simpa using this)
  err := by have := heap_alloc_new ((w.alloc (.cells #[.pointer (some ⟨a, 0, none⟩), .pointer (some ⟨g, 0, none⟩), .int .i64 s.lo, .int .i64 s.size, .int .i64 s.sp] 110)).alloc (.cells #[.slice none 0 0] 47)) (.cells #[.int .i64 0] 31); simpa using this
theorem AllW.step {w : World} {a g : Nat} {s : St} {v : Value} {x : Int} {W W1 : World} {B : Nat} (h : AllW w a g s v x W) (hb : Below B W W1) (hB : w.heap.size + 3 ≤ B) : AllW w a g s v x W1 where
  below := h.below.trans (hb.mono (by omega))
  walker := (hb.block _ (by omega)).trans h.walker
  out := (hb.block _ (by omega)).trans h.out
  err := (hb.block _ (by omega)).trans h.err
theorem AllW.size {w : World} {a g : Nat} {s : St} {v : Value} {x : Int} {W : World} (h : AllW w a g s v x W) : w.heap.size + 3 ≤ W.heap.size := blk_lt h.err
theorem AllW.putO {w : World} {a g : Nat} {s : St} {v : Value} {x : Int} {W : World} (h : AllW w a g s v x W) (u : Value) : AllW w a g s u x (W.setCell ⟨w.heap.size + 1, 0, none⟩ u) where
  below := h.below.setCell (Nat.le_succ _) _
  walker := blk_far h.walker (by simp) _
  out := by simpa using blk_set h.out 0 u
  err := blk_far h.err (by simp) _
theorem AllW.putE {w : World} {a g : Nat} {s : St} {v : Value} {x : Int} {W : World} (h : AllW w a g s v x W) (y : Int) : AllW w a g s v y (W.setCell ⟨w.heap.size + 2, 0, none⟩ (.int .i64 y)) where
  below := h.below.setCell (Nat.le_add_right _ 2) _
  walker := blk_far h.walker (by simp) _
  out := blk_far h.out (by simp) _
  err := by simpa using blk_set h.err 0 (.int .i64 y)
/-- What a call that answers frames comes to. -/
def FramesPost (o : Option (List Fm)) (w : World) (e : Ending) (w' : World) : Prop :=
  match o with
  | some l => ∃ v, e = .returned (.tuple #[v, .int .i64 0]) ∧ kFm.R 61 w' w.heap.size (fun _ => True) v l ∧ Below w.heap.size w w'
  | none => e = .returned (.tuple #[.slice none 0 0, .int .i64 9]) ∧ Below w.heap.size w w'
def allDefers (n : Nat) : List Deferred := [{ target := Target.fn (Fn.func 110) #[.pointer (some ⟨n + 1, 0, none⟩), .pointer (some ⟨n + 2, 0, none⟩)], args := #[] }]
theorem all1_idle (p q : Addr) (w : World) :
    CallsD Tryd.prog 110 #[.pointer (some p), .pointer (some q)] .returning w fun e u' w' => e = .returned (.tuple #[]) ∧ u' = .returning ∧ w = w' := by
  refine callsD_of_wpS Tryd.func110 rfl fun c₀ cs hu => ?_
  simp only [Tryd.ntmps110, List.size_toArray, List.length_cons, List.length_nil, Nat.reduceAdd, Nat.reduceSub, Array.replicate_succ, Array.replicate_zero, List.push_toArray, List.append_toArray, List.nil_append, List.cons_append]
  apply wpS_seq
  apply wpS_region
  simp [wpOpsS, go_sem, recoverD, hu, Exit.thenS]
  have HU := Aside0.mk hu
  clear hu
  refine wpS_of_wp ?_
  go_wp2
  cases c₀
  have h := HU.out
  simp only at h
  subst h
  simp [bodyPostS, results, Tryd.results110]
theorem assert_lost : ∀ (w : World), (Instr.typeAssert (.iface 164 (.agg #[])) 20 164 true).run Tryd.prog w = .ok (.tuple #[.agg #[], .bool true]) w := fun _ => by kernel_rfl
set_option maxRecDepth 100000 in
theorem all1_lost (w : World) (a g : Nat) (s : St) (v : Value) (x : Int) (W : World) (h : AllW w a g s v x W) :
    CallsD Tryd.prog 110 #[.pointer (some ⟨w.heap.size + 1, 0, none⟩), .pointer (some ⟨w.heap.size + 2, 0, none⟩)] (.panicking Lost) W fun e u' W' => e = .returned (.tuple #[]) ∧ u' = .panicking [{ v := .iface 164 (.agg #[]), recovered := true }] ∧ AllW w a g s (.slice none 0 0) 9 W' := by
  have hta := assert_lost
  have h2 := h.step (below_alloc (Below.refl _ _) (.cells #[] 164)) h.size
  have c1 := (blk_cell h2.out 0).trans rfl
  have c2 := (blk_cell h2.err 0).trans rfl
  have f1 := blk_frozen h2.out 0
  have f2 := blk_frozen h2.err 0
  have H2 := Aside0.mk ((h2.putO (.slice none 0 0)).putE 9)
  clear h h2
  refine callsD_of_wpS Tryd.func110 rfl fun c₀ cs hu => ?_
  simp only [Tryd.ntmps110, List.size_toArray, List.length_cons, List.length_nil, Nat.reduceAdd, Nat.reduceSub, Array.replicate_succ, Array.replicate_zero, List.push_toArray, List.append_toArray, List.nil_append, List.cons_append]
  simp only [Lost] at hu
  apply wpS_seq
  apply wpS_region
  simp [wpOpsS, go_sem, recoverD, hu, Exit.thenS]
  clear hu
  refine wpS_of_wp ?_
  generalize hcss : ({ c₀ with mode := _ } :: cs : List Frame) = css
  have HCS := Aside0.mk hcss
  clear hcss
  go_wp2
  have h := HCS.out
  subst h
  simp [bodyPostS, results, Tryd.results110]
  exact H2.out
theorem all_results (w : World) (a g : Nat) (s : St) (v : Value) (x : Int) (W : World) (h : AllW w a g s v x W) (tmps : Array Value) (h2 : tmps[2]?.getD undef = .pointer (some ⟨w.heap.size + 1, 0, none⟩)) (h3 : tmps[3]?.getD undef = .pointer (some ⟨w.heap.size + 2, 0, none⟩)) :
    (results Tryd.f54 tmps).run Tryd.prog W = .ok (.tuple #[v, .int .i64 x]) W := by
  have hu : W.cell? ⟨w.heap.size + 1, 0, none⟩ = some v := (blk_cell h.out 0).trans rfl
  have hv : W.cell? ⟨w.heap.size + 2, 0, none⟩ = some (.int .i64 x) := (blk_cell h.err 0).trans rfl
  unfold results
  rw [Tryd.results54]
  simp [go_sem, h2, h3, hu, hv]
theorem all_lost {ws : List Int} {t : List Ent} {hi sp : Int} (w : World) (a g : Nat) (s : St) (v : Value) (x : Int) (W : World) (h : AllW w a g s v x W) (tmps : Array Value) (h2 : tmps[2]?.getD undef = .pointer (some ⟨w.heap.size + 1, 0, none⟩)) (h3 : tmps[3]?.getD undef = .pointer (some ⟨w.heap.size + 2, 0, none⟩)) (ho : walkL ws t hi sp = none) :
    Leaves Tryd.prog Tryd.f54 tmps (FramesPost (walkL ws t hi sp) w) (allDefers w.heap.size) (.panicking Lost) W := by
  unfold allDefers
  refine leaves_cons (f := 110) (args := #[.pointer (some ⟨w.heap.size + 1, 0, none⟩), .pointer (some ⟨w.heap.size + 2, 0, none⟩)]) (by simp) (by simp [go_sem]) ?_
  refine (all1_lost w a g s v x W h).mono ?_
  rintro e u' w2 ⟨rfl, rfl, hA⟩
  show Leaves _ _ _ _ _ .returning _
  refine ⟨_, all_results w a g s _ 9 w2 hA tmps h2 h3, ?_⟩
  rw [ho]
  exact ⟨rfl, hA.below⟩
theorem all_fine {ws : List Int} {t : List Ent} {hi sp : Int} (w : World) (a g : Nat) (s : St) (v : Value) (W : World) (h : AllW w a g s v 0 W) (tmps : Array Value) (h2 : tmps[2]?.getD undef = .pointer (some ⟨w.heap.size + 1, 0, none⟩)) (h3 : tmps[3]?.getD undef = .pointer (some ⟨w.heap.size + 2, 0, none⟩)) (l : List Fm) (ho : walkL ws t hi sp = some l) (hR : kFm.R 61 W w.heap.size (fun _ => True) v l) :
    Leaves Tryd.prog Tryd.f54 tmps (FramesPost (walkL ws t hi sp) w) (allDefers w.heap.size) .returning W := by
  unfold allDefers
  refine leaves_cons (f := 110) (args := #[.pointer (some ⟨w.heap.size + 1, 0, none⟩), .pointer (some ⟨w.heap.size + 2, 0, none⟩)]) (by simp) (by simp [go_sem]) ?_
  refine (all1_idle _ _ W).mono ?_
  rintro e u' w2 ⟨rfl, rfl, rfl⟩
  show Leaves _ _ _ _ _ .returning _
  refine ⟨_, all_results w a g s v 0 W h tmps h2 h3, ?_⟩
  rw [ho]
  exact ⟨v, rfl, hR, h.below⟩
end Go.Proofs.YtfaghjadjpiaiaaDoor.Sh
namespace Go.Proofs.YtfaghjadjpiaiaaDoor.Sh
open Go.RowKit Go.Shelf Go.Proofs.YtfaghjadjpiaiaaDoorW.PrintWords Go.Proofs.YtfaghjadjpiaiaaDoorW.PrintLast Go.Proofs.YtfaghjadjpiaiaaDoorW.PrintMore
set_option linter.unusedVariables false
set_option linter.unusedSimpArgs false
theorem NextPost.ok {ws : List Int} {t : List Ent} {hi at_ : Int} {w w' : World} {e : Ending} (h : NextPost ws t hi at_ w e w') (hn : nextB ws t hi at_ = true) : ReadPost (readF ws t at_) (endF t (readF ws t at_)) w e w' := by
  unfold NextPost at h
  rwa [if_pos hn] at h
theorem NextPost.no {ws : List Int} {t : List Ent} {hi at_ : Int} {w w' : World} {e : Ending} (h : NextPost ws t hi at_ w e w') (hn : nextB ws t hi at_ = false) : e = .panicked Lost ∧ Below w.heap.size w w' := by
  unfold NextPost at h
  rwa [if_neg (by rw [hn]; decide)] at h
set_option maxRecDepth 100000 in
set_option maxHeartbeats 4000000 in
theorem all_calls (a b : Nat) (ws : List Int) (g : Nat) (t : List Ent) (s : St) (w : World) (h : IsArena w a b ws) (hT : IsTab w g t) (ht : TabFine t) (hp : ∀ f, tHas t f = true → 0 ≤ tSize t f) (hs : s.small) (hsp : s.sp ≤ s.lo + s.size) :
    Calls Tryd.prog 54 #[.agg #[.pointer (some ⟨a, 0, none⟩), .pointer (some ⟨g, 0, none⟩), .int .i64 s.lo, .int .i64 s.size, .int .i64 s.sp]] w (FramesPost (walkL ws t (s.lo + s.size) s.sp) w) := by
  have HS := Aside0.mk (AllW.start w a g s)
  have HNx := Aside0.mk (fun (W : World) (hb : Below w.heap.size w W) (p : Int) (hp : I64 p) => next_calls a b ws g t s p W (h.below hb) (hT.below hb) ht hs hp)
  have HP := Aside0.mk hp
  obtain ⟨s0, s1, s2, s3, s4, s5⟩ := hs
  have z0 := (blk_cell HS.out.walker 4).trans rfl
  clear h hT ht hp
  have hmf : ∀ (fn : Fn) (first cap : Array Value) (w : World), (Instr.makeFunc fn first cap).run Tryd.prog w = .ok (.func fn first cap) w := fun _ _ _ _ => rfl
  go_enter_defers Tryd.func54, Tryd.ntmps54
  go_wp2
  clear z0
  generalize (((w.alloc (.cells #[.pointer (some ⟨a, 0, none⟩), .pointer (some ⟨g, 0, none⟩), .int .i64 s.lo, .int .i64 s.size, .int .i64 s.sp] 110)).alloc (.cells #[.slice none 0 0] 47)).alloc (.cells #[.int .i64 0] 31)) = w0 at *
  go_loopw [4] (fun at_ wr => ∃ (p : Int) (acc : List Fm) (v : Value), at_ = .int .i64 p ∧ 0 ≤ p ∧ p ≤ s.lo + s.size ∧ (acc.length : Int) ≤ p ∧ Aside0 (AllW w a g s v 0 wr) ∧ Aside0 (kFm.R 61 wr (w.heap.size + 3) (fun _ => True) v acc) ∧ Aside0 (walkL ws t (s.lo + s.size) s.sp = (walkL ws t (s.lo + s.size) p).map (acc ++ ·))) (fun at_ _ => (s.lo + s.size - intOf at_).toNat)
  case atStart => exact ⟨s.sp, [], _, rfl, s4, hsp, by simpa using s4, HS, ⟨Kd.R_nil _ _ _ _ _⟩, ⟨by cases walkL ws t (s.lo + s.size) s.sp <;> simp⟩⟩
  case round =>
    obtain ⟨p, acc, v, rfl, p1, p2, p3, HA, HR, HL⟩ := hrel
    have y0 := (blk_cell HA.out.walker 0).trans rfl
    have y1 := (blk_cell HA.out.walker 1).trans rfl
    have y2 := (blk_cell HA.out.walker 2).trans rfl
    have y3 := (blk_cell HA.out.walker 3).trans rfl
    have y4 := (blk_cell HA.out.walker 4).trans rfl
    by_cases hlt : p < s.lo + s.size
    · have HN := HNx.out wr HA.out.below p (by constructor <;> omega)
      by_cases hn : nextB ws t (s.lo + s.size) p = true
      · have hw := next_end HP.out hn
        have HSt := Aside0.mk (walkL_step HP.out hlt hn)
        have HN := Aside0.mk (HN.mono fun e w' hh => hh.ok hn)
        generalize endF t (readF ws t p) = en at *
        generalize readF ws t p = x at *
        obtain ⟨hw1, hw2⟩ := hw
        clear hn
        go_wp2_with first
          | (go_at_call 111
             refine HN.out.mono ?_
             rintro e w1 ⟨rfl, hb⟩
             have HA1 := Aside0.mk (HA.out.step hb HA.out.size)
             have HR1 := Aside0.mk (Kd.R_below HR.out hb)
             have HA2 := Aside0.mk (HA1.out.step (below_alloc (Below.refl _ w1) (.cells #[.int .i64 x.at_, .int .i64 x.fn, .int .i64 x.link] 61)) HA1.out.size)
             have HR2 := Aside0.mk (Kd.R_below HR1.out (below_alloc (Below.refl _ w1) (.cells #[.int .i64 x.at_, .int .i64 x.fn, .int .i64 x.link] 61)))
             have o0 := (blk_cell HA2.out.out 0).trans rfl
             clear hb y0 y1 y2 y3 y4)
          | (at_builtin
             refine Kd.R_append kFm (w0 := w1.alloc (.cells #[.int .i64 x.at_, .int .i64 x.fn, .int .i64 x.link] 61)) (w.heap.size + 3) rfl (.tmp 26) (.tmp 28) 47 61 (.agg #[.int .i64 0, .int .i64 0, .int .i64 0]) 24 rfl Tryd.underlying47 info61 rfl (by decide) (by decide) v acc x _ (fun _ => True) (fun _ => False) rfl (by simp [Act.eval]) (kFm_mkM _ _ _ x) (fun _ h => h.elim) (fun _ _ => trivial) HR2.out (Below.refl _ _) HA2.out.size (by omega) ?_
             intro v1 w3 hR hB _ _
             obtain ⟨A3, c3, rfl⟩ := Kd.R_slice hR
             have HA3 := Aside0.mk (HA2.out.step hB (Nat.le_refl _))
             have HR3 := Aside0.mk hR
             have o1 := (blk_cell HA3.out.out 0).trans rfl
             have o2 := blk_frozen HA3.out.out 0
             clear hR hB o0)
        go_roundw
        case rel =>
          have h4 := (Kd.R_far (p := ⟨w.heap.size + 1, 0, none⟩) (Kd.R_mono (Kd.R_bound HR3.out) (ok' := fun k => k ≠ w.heap.size + 1) (fun k hk => by have := hk.2.1; omega)) (fun _ hk => hk) (.slice A3 (acc ++ [x]).length c3))
          simp only [List.length_append, List.length_singleton] at h4
          exact ⟨en, acc ++ [x], _, rfl, by omega, hw2, by simp; omega, ⟨HA3.out.putO _⟩, ⟨Kd.R_mono h4 (fun _ _ => trivial)⟩, ⟨by rw [HL.out, HSt.out]; cases walkL ws t (s.lo + s.size) en <;> simp⟩⟩
        case measure => simp [intOf]; omega
      · have hn' : nextB ws t (s.lo + s.size) p = false := by simpa using hn
        have HNo : Aside0 (walkL ws t (s.lo + s.size) s.sp = none) := ⟨by rw [HL.out, walkL_no hlt hn']; rfl⟩
        have HN := Aside0.mk (HN.mono fun e w' hh => hh.no hn')
        clear hn hn'
        go_wp2_with (go_at_call 111; refine HN.out.mono ?_; rintro e w1 ⟨rfl, hb⟩; have HA1 := Aside0.mk (HA.out.step hb HA.out.size); clear hb)
        exact all_lost w a g s v 0 w1 HA1.out _ rfl rfl HNo.out
    · obtain ⟨A3, c3, rfl⟩ := Kd.R_slice HR.out
      have HE : Aside0 (walkL ws t (s.lo + s.size) s.sp = some acc) := ⟨by rw [HL.out, walkL_end hlt]; simp⟩
      have o1 := (blk_cell HA.out.out 0).trans rfl
      have o2 := blk_frozen HA.out.out 0
      have o3 := (blk_cell HA.out.err 0).trans rfl
      have o4 := blk_frozen HA.out.err 0
      go_wp2
      have hF := (HA.out.putO (.slice A3 acc.length c3)).putE 0
      have hR1 := Kd.R_far (p := ⟨w.heap.size + 1, 0, none⟩) (Kd.R_mono (Kd.R_bound HR.out) (ok' := fun k => k ≠ w.heap.size + 1 ∧ k ≠ w.heap.size + 2) (fun k hk => by have := hk.2.1; omega)) (fun _ hk => hk.1) (.slice A3 acc.length c3)
      have hR2 := Kd.R_far (p := ⟨w.heap.size + 2, 0, none⟩) hR1 (fun _ hk => hk.2) (.int .i64 0)
      exact all_fine w a g s _ _ hF _ rfl rfl acc HE.out (Kd.R_mono (Kd.R_lower hR2 (Nat.le_add_right _ 3)) (fun _ _ => trivial))
end Go.Proofs.YtfaghjadjpiaiaaDoor.Sh
namespace Go.Proofs.YtfaghjadjpiaiaaDoor.Sh
open Go.RowKit Go.Shelf Go.Proofs.YtfaghjadjpiaiaaDoorW.PrintWords Go.Proofs.YtfaghjadjpiaiaaDoorW.PrintLast Go.Proofs.YtfaghjadjpiaiaaDoorW.PrintMore
set_option linter.unusedVariables false
set_option linter.unusedSimpArgs false
/-- A row of frames in a block known whole but for its spare cells. -/
structure FmBlk (w : World) (g : Nat) (l : List Fm) : Prop where
  ex : ∃ cur, w.heap[g]? = some (.cells cur 61 (0, 0)) ∧ ∀ (i : Nat) (x : Fm), l[i]? = some x → cur[i * 3]? = some (.int .i64 x.at_) ∧ cur[i * 3 + 1]? = some (.int .i64 x.fn) ∧ cur[i * 3 + 2]? = some (.int .i64 x.link)
theorem FmBlk.cells {w : World} {g : Nat} {l : List Fm} (h : FmBlk w g l) (i : Nat) (hi : i < l.length) : w.cell? ⟨g, i * 3, none⟩ = some (.int .i64 (fm l i).at_) ∧ w.cell? ⟨g, i * 3 + 1, none⟩ = some (.int .i64 (fm l i).fn) ∧ w.cell? ⟨g, i * 3 + 2, none⟩ = some (.int .i64 (fm l i).link) := by
  obtain ⟨cur, h1, h2⟩ := h.ex
  have hx : l[i]? = some (fm l i) := by simp [fm, List.getElem?_eq_getElem hi]
  obtain ⟨a, b, c⟩ := h2 i _ hx
  rw [blk_cell h1, blk_cell h1, blk_cell h1]
  exact ⟨a, b, c⟩
theorem FmBlk.free {w : World} {g : Nat} {l : List Fm} (h : FmBlk w g l) (i : Nat) : w.frozen? ⟨g, i, none⟩ = false := by
  obtain ⟨cur, h1, h2⟩ := h.ex
  exact blk_frozen h1 i
theorem FmBlk.put {w : World} {g : Nat} {l : List Fm} (h : FmBlk w g l) (i : Nat) (hi : i < l.length) (y : Fm) : FmBlk (((w.setCell ⟨g, i * 3, none⟩ (.int .i64 y.at_)).setCell ⟨g, i * 3 + 1, none⟩ (.int .i64 y.fn)).setCell ⟨g, i * 3 + 2, none⟩ (.int .i64 y.link)) g (l.set i y) := by
  obtain ⟨cur, h1, h2⟩ := h.ex
  have e1 := blk_set (blk_set (blk_set h1 (i * 3) (.int .i64 y.at_)) (i * 3 + 1) (.int .i64 y.fn)) (i * 3 + 2) (.int .i64 y.link)
  have hx : l[i]? = some (fm l i) := by simp [fm, List.getElem?_eq_getElem hi]
  obtain ⟨a, b, c⟩ := h2 i _ hx
  have l0 := (Array.getElem?_eq_some_iff.1 c).1
  refine ⟨_, e1, fun j x hj => ?_⟩
  by_cases hji : j = i
  · subst hji
    rw [List.getElem?_set_self hi] at hj
    injection hj with hj
    subst hj
    simp [Array.getElem?_setIfInBounds, show j * 3 < cur.size by omega, show j * 3 + 1 < cur.size by omega, l0]
  · rw [List.getElem?_set_ne (Ne.symm hji)] at hj
    obtain ⟨a', b', c'⟩ := h2 j x hj
    simp only [Array.getElem?_setIfInBounds_ne (show i * 3 + 2 ≠ j * 3 by omega), Array.getElem?_setIfInBounds_ne (show i * 3 + 1 ≠ j * 3 by omega), Array.getElem?_setIfInBounds_ne (show i * 3 ≠ j * 3 by omega), Array.getElem?_setIfInBounds_ne (show i * 3 + 2 ≠ j * 3 + 1 by omega), Array.getElem?_setIfInBounds_ne (show i * 3 + 1 ≠ j * 3 + 1 by omega), Array.getElem?_setIfInBounds_ne (show i * 3 ≠ j * 3 + 1 by omega), Array.getElem?_setIfInBounds_ne (show i * 3 + 2 ≠ j * 3 + 2 by omega), Array.getElem?_setIfInBounds_ne (show i * 3 + 1 ≠ j * 3 + 2 by omega), Array.getElem?_setIfInBounds_ne (show i * 3 ≠ j * 3 + 2 by omega)]
    exact ⟨a', b', c'⟩
theorem FmBlk.drew {w : World} {g : Nat} {l : List Fm} (h : FmBlk w g l) : FmBlk w.drew g l := ⟨h.ex⟩
theorem grown_drew {w W : World} {row : Option Nat} (h : w.grownBy W row) : w.grownBy W.drew row := ⟨h.os, h.tape, h.output, h.size, h.block⟩
/-- Turned round at both ends, as far as k. -/
def revTo (l : List Fm) (k : Nat) : List Fm := (List.range l.length).map fun i => if i < k ∨ l.length - 1 - i < k then fm l ((l.length - 1 - i : Nat) : Int) else fm l (i : Int)
theorem revTo_length (l : List Fm) (k : Nat) : (revTo l k).length = l.length := by simp [revTo]
theorem revTo_get (l : List Fm) (k i : Nat) (hi : i < l.length) : fm (revTo l k) (i : Int) = if i < k ∨ l.length - 1 - i < k then fm l ((l.length - 1 - i : Nat) : Int) else fm l (i : Int) := by
  simp [fm, revTo, hi]
theorem fm_ext {a b : List Fm} (hl : a.length = b.length) (h : ∀ i : Nat, i < a.length → fm a (i : Int) = fm b (i : Int)) : a = b := by
  apply List.ext_getElem hl
  intro i h1 h2
  have := h i h1
  simpa [fm, h1, h2] using this
theorem revTo_zero (l : List Fm) : revTo l 0 = l := by
  refine fm_ext (revTo_length _ _) (fun i hi => ?_)
  rw [revTo_length] at hi
  rw [revTo_get l 0 i hi, if_neg (by omega)]
theorem revTo_step (l : List Fm) (k : Nat) (h : k < l.length - 1 - k) : ((revTo l k).set k (fm (revTo l k) ((l.length - 1 - k : Nat) : Int))).set (l.length - 1 - k) (fm (revTo l k) (k : Int)) = revTo l (k + 1) := by
  refine fm_ext (by simp [revTo_length]) (fun i hi => ?_)
  simp only [List.length_set, revTo_length] at hi
  rw [revTo_get l (k + 1) i hi]
  have hset : ∀ (L : List Fm) (j : Nat) (y : Fm), i < L.length → fm (L.set j y) (i : Int) = if j = i then y else fm L (i : Int) := by
    intro L j y hL
    simp [fm, List.getElem?_set, hL]
    split <;> simp_all
  rw [hset _ _ _ (by simp [revTo_length]; exact hi), hset _ _ _ (by rw [revTo_length]; exact hi), revTo_get l k k (by omega), revTo_get l k _ (by omega), revTo_get l k i hi]
  by_cases h1 : l.length - 1 - k = i
  · rw [if_pos h1, if_neg (by omega), if_pos (by omega)]
    congr 2
    omega
  · rw [if_neg h1]
    by_cases h2 : k = i
    · subst h2
      rw [if_pos rfl, if_neg (by omega), if_pos (by omega)]
    · rw [if_neg h2]
      by_cases h3 : i < k ∨ l.length - 1 - i < k
      · rw [if_pos h3, if_pos (by omega)]
      · rw [if_neg h3, if_neg (by omega)]
theorem revTo_end (l : List Fm) (k : Nat) (h : ¬ k < l.length - 1 - k) : revTo l k = l.reverse := by
  refine fm_ext (by simp [revTo_length]) (fun i hi => ?_)
  rw [revTo_length] at hi
  rw [revTo_get l k i hi]
  have hr : fm l.reverse (i : Int) = fm l ((l.length - 1 - i : Nat) : Int) := by
    simp [fm, hi, show l.length - 1 - i < l.length by omega]
  rw [hr]
  by_cases h1 : i < k ∨ l.length - 1 - i < k
  · rw [if_pos h1]
  · rw [if_neg h1]
    congr 2
    omega
set_option maxRecDepth 100000 in
set_option maxHeartbeats 4000000 in
theorem Reverse_calls (g c : Nat) (l : List Fm) (w : World) (h : FmBlk w g l) (hl : l.length ≤ 1000000) :
    Calls Tryd.prog 55 #[.slice (some ⟨g, 0, none⟩) l.length c] w fun e w' => e = .returned (.tuple #[]) ∧ FmBlk w' g l.reverse ∧ w.grownBy w' (some g) := by
  have HF := Aside0.mk h
  clear h
  go_enter Tryd.func55, Tryd.ntmps55
  go_wp2
  go_loopw [2, 3] (fun i j wr => ∃ (k : Nat) (m : Int), i = .int .i64 k ∧ j = .int .i64 m ∧ k ≤ l.length ∧ m < l.length ∧ Aside0 (m = (l.length : Int) - 1 - k) ∧ Aside0 (FmBlk wr g (revTo l k)) ∧ Aside0 (w.grownBy wr (some g))) (fun i j _ => (intOf j + 1 - intOf i).toNat)
  case atStart => exact ⟨0, _, rfl, rfl, Nat.zero_le _, by omega, ⟨by simp⟩, ⟨by rw [revTo_zero]; exact HF.out⟩, ⟨World.grownBy.refl _ _⟩⟩
  case round =>
    obtain ⟨k, m, rfl, rfl, hk, hml, HM, HB, HG⟩ := hrel
    by_cases hlt : (k : Int) < m
    · obtain ⟨m, rfl⟩ := Int.eq_ofNat_of_zero_le (show 0 ≤ m by omega)
      have hkl : k < l.length := by have := HM.out; omega
      have hml2 : m < l.length := by omega
      obtain ⟨a0, a1, a2⟩ := HB.out.cells k (by rw [revTo_length]; omega)
      obtain ⟨b0, b1, b2⟩ := HB.out.cells m (by rw [revTo_length]; omega)
      have f0 := HB.out.free (k * 3)
      have f1 := HB.out.free (k * 3 + 1)
      have f2 := HB.out.free (k * 3 + 2)
      have f3 := HB.out.free (m * 3)
      have f4 := HB.out.free (m * 3 + 1)
      have f5 := HB.out.free (m * 3 + 2)
      have hP1 := (HB.out.put k (by rw [revTo_length]; omega) (fm (revTo l k) (m : Int))).put m (by simp [revTo_length]; omega) (fm (revTo l k) (k : Int))
      have HSt := Aside0.mk (show ((revTo l k).set k (fm (revTo l k) (m : Int))).set m (fm (revTo l k) (k : Int)) = revTo l (k + 1) from by
        have hm : m = l.length - 1 - k := by have := HM.out; omega
        subst hm
        exact revTo_step l k (by omega))
      generalize fm (revTo l k) (k : Int) = x at *
      generalize fm (revTo l k) (m : Int) = y at *
      have HP1 := Aside0.mk hP1
      clear hP1
      go_wp2
      go_region
      go_wp2
      refine ⟨⟨k + 1, (m : Int) - 1, by go_num, rfl, by omega, by omega, ⟨by have := HM.out; omega⟩, ⟨(by rw [← HSt.out]; exact HP1.out : FmBlk _ g (revTo l (k + 1))).drew⟩, ⟨grown_drew (HG.out.trans (((((grown_setCell _ g _ _).trans (grown_setCell _ g _ _)).trans (grown_setCell _ g _ _)).trans (grown_setCell _ g _ _)).trans (grown_setCell _ g _ _) |>.trans (grown_setCell _ g _ _)))⟩⟩, by simp [intOf]; omega⟩
    · have HE := Aside0.mk (revTo_end l k (by have := HM.out; omega))
      go_wp2
      go_end0
      exact ⟨rfl, by rw [← HE.out]; exact HB.out, HG.out⟩
/-- A row of the call's own as a block, and back. -/
theorem FmBlk.of_R {w : World} {B g c : Nat} {ok : Nat → Prop} {l : List Fm} (h : kFm.R 61 w B ok (.slice (some ⟨g, 0, none⟩) l.length c) l) : FmBlk w g l ∧ B ≤ g ∧ l.length ≤ c := by
  obtain ⟨_, inner, ⟨h1, h2⟩, h3, h4⟩ := h
  rcases h2 with ⟨h2, _⟩ | ⟨g', cap, cur, h2, hB, hh, hc, _, hcs, ht⟩
  · cases h2
  · injection h2 with ha _ hcap
    injection ha with ha
    injection ha with ha
    subst ha
    subst hcap
    refine ⟨⟨cur, hh, fun i x hi => ?_⟩, hB, hc⟩
    have hl := (List.getElem?_eq_some_iff.1 hi).1
    have hk := kFm_open (kFm.K_of_M (h4 i x hi))
    have hget : ∀ q, q < 3 → cur[i * 3 + q]? = ((inner.drop (i * 3)).take 3)[q]? := by
      intro q hq
      rw [List.getElem?_take_of_lt hq, List.getElem?_drop, ← ht, List.getElem?_take_of_lt (by show i * 3 + q < l.length * 3; omega)]
      simp
    have hk3 : (inner.drop (i * 3)).take 3 = [.int .i64 x.at_, .int .i64 x.fn, .int .i64 x.link] := hk
    rw [hk3] at hget
    exact ⟨hget 0 (by decide), hget 1 (by decide), hget 2 (by decide)⟩
theorem FmBlk.reads {w : World} {g : Nat} {l : List Fm} (h : FmBlk w g l) (hl : l.length ≤ 1000000) : kFm.C w (some ⟨g, 0, none⟩) l.length l := by
  refine ⟨rfl, by omega, fun _ => ⟨_, rfl, fun j x hj => ⟨_, rfl, kFm_mk w x, fun i u hu => ?_⟩⟩⟩
  have hl := (List.getElem?_eq_some_iff.1 hj).1
  obtain ⟨a, b, c⟩ := h.cells j hl
  have e : fm l (j : Int) = x := by simp [fm, hj]
  rw [e] at a b c
  show w.cell? ((⟨g, 0, none⟩ : Addr).add (j * 3 + i)) = some u
  rw [add_plain]
  match i, hu with
  | 0, hu => simp at hu; subst hu; exact a
  | 1, hu => simp at hu; subst hu; exact b
  | 2, hu => simp at hu; subst hu; exact c
end Go.Proofs.YtfaghjadjpiaiaaDoor.Sh
namespace Go.Proofs.YtfaghjadjpiaiaaDoor.Sh
open Go.RowKit Go.Shelf Go.Proofs.YtfaghjadjpiaiaaDoorW.PrintWords Go.Proofs.YtfaghjadjpiaiaaDoorW.PrintLast Go.Proofs.YtfaghjadjpiaiaaDoorW.PrintMore
set_option linter.unusedVariables false
set_option linter.unusedSimpArgs false
theorem Reverse_zero (A : Option Addr) (c : Nat) (w : World) :
    Calls Tryd.prog 55 #[.slice A 0 c] w fun e w' => e = .returned (.tuple #[]) ∧ w = w' := by
  go_enter Tryd.func55, Tryd.ntmps55
  go_wp2
  go_loopw [2, 3] (fun i j wr => i = .int .i64 0 ∧ j = .int .i64 (-1) ∧ w = wr) (fun i j _ => 0)
  case atStart => exact ⟨rfl, rfl, rfl⟩
  case round =>
    obtain ⟨rfl, rfl, rfl⟩ := hrel
    go_wp2
    go_end0
    exact ⟨rfl, rfl⟩
def framesE (ws : List Int) (t : List Ent) (s : St) : Int := if mayS ws.length s = true then (if (walkL ws t (s.lo + s.size) s.sp).isSome = true then 0 else 9) else 1
def framesL (ws : List Int) (t : List Ent) (s : St) : List Fm := if mayS ws.length s = true then ((walkL ws t (s.lo + s.size) s.sp).getD []).reverse else []
theorem mayS_small {N : Nat} {s : St} (h : mayS N s = true) (hN : N ≤ 65536) : s.small ∧ s.sp ≤ s.lo + s.size := by
  obtain ⟨h1, h2, h3, h4⟩ := mayS_iff.1 h
  obtain ⟨g0, g1, g2, g3⟩ := inB_iff.1 h2
  exact ⟨⟨g1, by omega, g0, by omega, by omega, by omega⟩, h4⟩
theorem walkL_length {ws : List Int} {t : List Ent} {hi : Int} (ht : ∀ f, tHas t f = true → 0 ≤ tSize t f) : ∀ (n : Nat) (at_ : Int) (l : List Fm), (hi - at_).toNat ≤ n → walkL ws t hi at_ = some l → l.length ≤ n := by
  intro n
  induction n with
  | zero =>
    intro at_ l hn h
    rw [walkL_end (by omega)] at h
    injection h with h
    subst h
    simp
  | succ n ih =>
    intro at_ l hn h
    by_cases hlt : at_ < hi
    · by_cases hx : nextB ws t hi at_ = true
      · have he := next_end ht hx
        rw [walkL_step ht hlt hx] at h
        obtain ⟨r, hr, rfl⟩ := Option.map_eq_some_iff.1 h
        have := ih _ r (by omega) hr
        simp
        exact this
      · rw [walkL_no hlt (by simpa using hx)] at h
        cases h
    · rw [walkL_end hlt] at h
      injection h with h
      subst h
      simp
def FrPost (L : List Fm) (E : Int) (w : World) (e : Ending) (w' : World) : Prop := ∃ A c, e = .returned (.tuple #[.slice A L.length c, .int .i64 E]) ∧ kFm.C w' A L.length L ∧ L.length ≤ c ∧ Below w.heap.size w w' ∧ (L = [] ∨ ∃ gg, A = some ⟨gg, 0, none⟩ ∧ w.heap.size ≤ gg)
set_option maxRecDepth 100000 in
set_option maxHeartbeats 4000000 in
theorem Frames_calls (a b : Nat) (ws : List Int) (g : Nat) (t : List Ent) (s : St) (w : World) (h : IsArena w a b ws) (hT : IsTab w g t) (ht : TabFine t) (hp : ∀ f, tHas t f = true → 0 ≤ tSize t f) (hs : s.wf) :
    Calls Tryd.prog 18 #[.pointer (some ⟨a, 0, none⟩), .pointer (some ⟨g, 0, none⟩), .agg #[.int .i64 s.lo, .int .i64 s.size, .int .i64 s.sp]] w (FrPost (framesL ws t s) (framesE ws t s) w) := by
  have HB := Aside0.mk (BlkW.start w #[.int .i64 s.lo, .int .i64 s.size, .int .i64 s.sp] 44)
  have HM := may_st a b ws s _ (h.below HB.out.below) hs
  have hl := h.len
  by_cases hm : mayS ws.length s = true
  rotate_left
  · have e1 : framesL ws t s = [] := if_neg hm
    have e2 : framesE ws t s = 1 := if_neg hm
    rw [e1, e2]
    rw [show mayS ws.length s = false by simpa using hm] at HM
    have HM := Aside0.mk HM
    clear h hT ht hp hs hm e1 e2
    go_enter Tryd.func18, Tryd.ntmps18
    go_wp2_with (go_at_call 53; refine HM.out.mono ?_; rintro e w1 ⟨rfl, hb⟩; have HB1 := Aside0.mk (HB.out.step hb); clear hb)
    go_ret2
    exact ⟨none, 0, rfl, Kd.C_nil _ _, Nat.le_refl _, HB1.out.below, Or.inl rfl⟩
  rw [hm] at HM
  have HM := Aside0.mk HM
  obtain ⟨hsm, hsp⟩ := mayS_small hm hl
  have HAll := Aside0.mk (fun (W : World) (hb : Below w.heap.size w W) => all_calls a b ws g t s W (h.below hb) (hT.below hb) ht hp hsm hsp)
  have hlen := walkL_length (ws := ws) (hi := s.lo + s.size) hp 1000000 s.sp
  unfold framesL framesE
  rw [if_pos hm, if_pos hm]
  obtain ⟨s0, s1, s2, s3, s4, s5⟩ := hsm
  cases ho : walkL ws t (s.lo + s.size) s.sp with
  | none =>
    rw [ho] at HAll
    show Calls _ _ _ _ (FrPost [] 9 w)
    clear h hT ht hp hs hm hlen ho
    go_enter Tryd.func18, Tryd.ntmps18
    go_wp2_with first
      | (go_at_call 53; refine HM.out.mono ?_; rintro e w1 ⟨rfl, hb⟩; have HB1 := Aside0.mk (HB.out.step hb); have z0 := (blk_cell HB1.out.blk 0).trans rfl; have z1 := (blk_cell HB1.out.blk 1).trans rfl; have z2 := (blk_cell HB1.out.blk 2).trans rfl; clear hb)
      | (go_at_call 54; refine (HAll.out _ HB1.out.below).mono ?_; rintro e w2 ⟨rfl, hb⟩; have HB2 := Aside0.mk (HB1.out.step hb); clear hb)
      | (go_at_call 55; refine (Reverse_zero none 0 _).mono ?_; rintro e w3 ⟨rfl, rfl⟩)
    go_ret2
    exact ⟨none, 0, rfl, Kd.C_nil _ _, Nat.le_refl _, HB2.out.below, Or.inl rfl⟩
  | some l =>
    rw [ho] at HAll
    have hl3 := hlen l (by omega) ho
    show Calls _ _ _ _ (FrPost l.reverse 0 w)
    clear h hT ht hp hs hm hlen ho
    go_enter Tryd.func18, Tryd.ntmps18
    cases l with
    | nil =>
      go_wp2_with first
        | (go_at_call 53; refine HM.out.mono ?_; rintro e w1 ⟨rfl, hb⟩; have HB1 := Aside0.mk (HB.out.step hb); have z0 := (blk_cell HB1.out.blk 0).trans rfl; have z1 := (blk_cell HB1.out.blk 1).trans rfl; have z2 := (blk_cell HB1.out.blk 2).trans rfl; clear hb)
        | (go_at_call 54; refine (HAll.out _ HB1.out.below).mono ?_; rintro e w2 ⟨v, rfl, hR, hb⟩; obtain ⟨A3, c3, rfl⟩ := Kd.R_slice hR; have HB2 := Aside0.mk (HB1.out.step hb); clear hb hR)
        | (go_at_call 55; refine (Reverse_zero A3 c3 _).mono ?_; rintro e w3 ⟨rfl, rfl⟩)
      go_ret2
      exact ⟨A3, c3, rfl, ⟨rfl, by simp, fun hh => by simp at hh⟩, Nat.zero_le _, HB2.out.below, Or.inl rfl⟩
    | cons x r =>
      go_wp2_with first
        | (go_at_call 53; refine HM.out.mono ?_; rintro e w1 ⟨rfl, hb⟩; have HB1 := Aside0.mk (HB.out.step hb); have z0 := (blk_cell HB1.out.blk 0).trans rfl; have z1 := (blk_cell HB1.out.blk 1).trans rfl; have z2 := (blk_cell HB1.out.blk 2).trans rfl; clear hb)
        | (go_at_call 54
           refine (HAll.out _ HB1.out.below).mono ?_
           rintro e w2 ⟨v, rfl, hR, hb⟩
           obtain ⟨gg, c3, rfl, hgg, hgl, _⟩ := Kd.R_form hR (by simp)
           have HB2 := Aside0.mk (HB1.out.step hb)
           have HF := Aside0.mk (FmBlk.of_R hR)
           have HG := Aside0.mk (Nat.le_trans HB1.out.below.size hgg)
           clear hb hR hgg hgl)
        | (go_at_call 55
           refine (Reverse_calls gg c3 (x :: r) _ HF.out.1 hl3).mono ?_
           rintro e w3 ⟨rfl, hF, hg⟩
           have HF3 := Aside0.mk hF
           have HB3 := Aside0.mk (pw_below_grown HB2.out.below (some gg) HB2.out.below.size hg (fun k hk => by injection hk with hk; have := HG.out; omega))
           clear hF hg)
      go_ret2
      have hr := HF3.out.reads (by simpa using hl3)
      refine ⟨some ⟨gg, 0, none⟩, c3, ?_, hr, ?_, HB3.out, Or.inr ⟨gg, rfl, HG.out⟩⟩
      · simp
      · have := HF.out.2.2; simpa using this
end Go.Proofs.YtfaghjadjpiaiaaDoor.Sh
namespace Go.Proofs.YtfaghjadjpiaiaaDoor.Sh
open Go.RowKit Go.Shelf Go.Proofs.YtfaghjadjpiaiaaDoorW.PrintWords Go.Proofs.YtfaghjadjpiaiaaDoorW.PrintLast Go.Proofs.YtfaghjadjpiaiaaDoorW.PrintMore
set_option linter.unusedVariables false
set_option linter.unusedSimpArgs false
/-- A frame's address lies in an arena. -/
def FmAt (x : Fm) : Prop := 0 ≤ x.at_ ∧ x.at_ ≤ 65536
def slotN (t : List Ent) (x : Fm) : Int := max 0 (tSize t x.fn)
theorem ssize_calls (g : Nat) (t : List Ent) (x : Fm) (w : World) (hT : IsTab w g t) (ht : TabFine t) (hx : FmAt x) :
    Calls Tryd.prog 56 #[.pointer (some ⟨g, 0, none⟩), .agg #[.int .i64 x.at_, .int .i64 x.fn, .int .i64 x.link]] w fun e w' => e = .returned (.int .i64 (slotN t x)) ∧ Below w.heap.size w w' := by
  have HB := Aside0.mk (BlkW.start w #[.int .i64 x.at_, .int .i64 x.fn, .int .i64 x.link] 61)
  have HW := Aside0.mk (size_calls g t x.fn _ (hT.below HB.out.below))
  have hw := ht.size x.fn
  obtain ⟨x0, x1⟩ := hx
  obtain ⟨r, hr⟩ : ∃ r, r = slotN t x := ⟨_, rfl⟩
  rw [← hr]
  unfold slotN at hr
  generalize tSize t x.fn = n at *
  have HR := Aside0.mk hr
  clear hT ht hr
  go_enter Tryd.func56, Tryd.ntmps56
  go_wp2_with (go_at_call 72; refine HW.out.mono ?_; rintro e w1 ⟨rfl, rfl⟩)
  all_goals
    go_ret
    refine ⟨?_, HB.out.below⟩
    rw [HR.out]
    show Ending.returned (.int .i64 _) = _
    congr 2
    omega
def addrB (t : List Ent) (l : List Fm) (d s : Int) : Bool := decide (0 ≤ d) && (decide (d < l.length) && (decide (0 ≤ s) && decide (s < tSize t (fm l d).fn)))
theorem addrB_iff {t : List Ent} {l : List Fm} {d s : Int} : addrB t l d s = true ↔ 0 ≤ d ∧ d < l.length ∧ 0 ≤ s ∧ s < tSize t (fm l d).fn := by unfold addrB; simp
def addrE (t : List Ent) (l : List Fm) (d s : Int) : Int := if addrB t l d s = true then 0 else 2
def addrA (t : List Ent) (l : List Fm) (d s : Int) : Int := if addrB t l d s = true then (fm l d).at_ + 2 + s else 0
theorem fm_mem {l : List Fm} {i : Int} (h0 : 0 ≤ i) (h1 : i < l.length) : fm l i ∈ l := by
  have hl : i.toNat < l.length := by omega
  have he : fm l i = l[i.toNat] := by simp [fm, List.getElem?_eq_getElem hl]
  rw [he]; exact List.getElem_mem _
set_option maxRecDepth 100000 in
set_option maxHeartbeats 2000000 in
theorem Address_calls (g : Nat) (t : List Ent) (A : Option Addr) (c : Nat) (l : List Fm) (d s : Int) (w : World) (hT : IsTab w g t) (ht : TabFine t) (hr : kFm.C w A l.length l) (hc : l.length ≤ c) (hl : ∀ x ∈ l, FmAt x) (hd : I64 d) (hs : I64 s) :
    Calls Tryd.prog 112 #[.pointer (some ⟨g, 0, none⟩), .slice A l.length c, .int .i64 d, .int .i64 s] w fun e w' => e = .returned (.tuple #[.int .i64 (addrA t l d s), .int .i64 (addrE t l d s)]) ∧ Below w.heap.size w w' := by
  have hm : (l.length : Int) ≤ 9223372036854775807 := by have := hr.2.1; omega
  by_cases h0 : 0 ≤ d
  rotate_left
  · have hb : addrB t l d s = false := by unfold addrB; simp [h0]
    have e1 : addrA t l d s = 0 := if_neg (by rw [hb]; decide)
    have e2 : addrE t l d s = 2 := if_neg (by rw [hb]; decide)
    rw [e1, e2]
    clear hT ht hr hc hl hb e1 e2
    go_enter Tryd.func112, Tryd.ntmps112
    go_wp2
    go_ret2
    exact ⟨rfl, Below.refl _ _⟩
  by_cases h1 : d < l.length
  rotate_left
  · have hb : addrB t l d s = false := by unfold addrB; simp [h1]
    have e1 : addrA t l d s = 0 := if_neg (by rw [hb]; decide)
    have e2 : addrE t l d s = 2 := if_neg (by rw [hb]; decide)
    rw [e1, e2]
    clear hT ht hr hc hl hb e1 e2
    go_enter Tryd.func112, Tryd.ntmps112
    go_wp2
    go_ret2
    exact ⟨rfl, Below.refl _ _⟩
  obtain ⟨ad, rfl, k0, k1, k2⟩ := at_Fm hr d h0 h1
  have hx := hl _ (fm_mem h0 h1)
  have HSz := Aside0.mk (ssize_calls g t (fm l d) w hT ht hx)
  have HSl := Aside0.mk (fun (W : World) (hb : Below w.heap.size w W) => Slot_calls g t (fm l d) s W (hT.below hb) ht ⟨hx.1, by have := hx.2; omega⟩ hs)
  have hK := Aside0.mk (And.intro k0 (And.intro k1 k2))
  have hsz := ht.size (fm l d).fn
  have en : slotN t (fm l d) = max 0 (tSize t (fm l d).fn) := rfl
  have HE : Aside0 (addrB t l d s = (decide (0 ≤ s) && decide (s < tSize t (fm l d).fn))) := ⟨by unfold addrB; simp [h0, h1]⟩
  have e1 : addrA t l d s = slotA t (fm l d) s := by
    unfold addrA slotA
    rw [HE.out]
    by_cases hh : 0 ≤ s ∧ s < tSize t (fm l d).fn
    · rw [if_pos (by simpa using hh), if_pos hh]
    · rw [if_neg (by simpa using hh), if_neg hh]
  have e2 : addrE t l d s = slotE t (fm l d).fn s := by
    unfold addrE slotE
    rw [HE.out]
    by_cases hh : 0 ≤ s ∧ s < tSize t (fm l d).fn
    · rw [if_pos (by simpa using hh), if_pos hh]
    · rw [if_neg (by simpa using hh), if_neg hh]
  rw [e1, e2]
  by_cases h2 : s < slotN t (fm l d)
  · generalize slotA t (fm l d) s = rA at *
    generalize slotE t (fm l d).fn s = rE at *
    generalize slotN t (fm l d) = n at *
    generalize fm l d = x at *
    clear hT ht hr hl hx hsz en e1 e2
    go_enter Tryd.func112, Tryd.ntmps112
    go_wp2_with first
      | (go_at_call 56; refine HSz.out.mono ?_; rintro e w1 ⟨rfl, hb⟩; have HB1 := Aside0.mk hb; have m0 := pw_cell_below hb hK.out.1; have m1 := pw_cell_below hb hK.out.2.1; have m2 := pw_cell_below hb hK.out.2.2; clear hb)
      | (go_at_call 116; refine (HSl.out _ HB1.out).mono ?_; rintro e w2 ⟨rfl, hb⟩; have HB2 := Aside0.mk (below_then HB1.out HB1.out.size hb); clear hb)
    go_ret2
    exact ⟨rfl, HB2.out⟩
  · have g1 : slotA t (fm l d) s = 0 := if_neg (by omega)
    have g2 : slotE t (fm l d).fn s = 2 := if_neg (by omega)
    rw [g1, g2]
    generalize slotN t (fm l d) = n at *
    generalize fm l d = x at *
    clear hT ht hr hl hx hsz en e1 e2 g1 g2
    go_enter Tryd.func112, Tryd.ntmps112
    go_wp2_with (go_at_call 56; refine HSz.out.mono ?_; rintro e w1 ⟨rfl, hb⟩; have HB1 := Aside0.mk hb; clear hb)
    go_ret2
    exact ⟨rfl, HB1.out⟩
end Go.Proofs.YtfaghjadjpiaiaaDoor.Sh
namespace Go.Proofs.YtfaghjadjpiaiaaDoor.Sh
open Go.RowKit Go.Shelf Go.Proofs.YtfaghjadjpiaiaaDoorW.PrintWords Go.Proofs.YtfaghjadjpiaiaaDoorW.PrintLast Go.Proofs.YtfaghjadjpiaiaaDoorW.PrintMore
set_option linter.unusedVariables false
set_option linter.unusedSimpArgs false
/-- Has a frame a slot at an address? -/
def hitB (t : List Ent) (at_ : Int) (x : Fm) : Bool := decide (x.at_ ≤ at_) && (decide (0 ≤ at_ - x.at_ - 2) && decide (at_ - x.at_ - 2 < slotN t x))
theorem hitB_iff {t : List Ent} {at_ : Int} {x : Fm} : hitB t at_ x = true ↔ x.at_ ≤ at_ ∧ 0 ≤ at_ - x.at_ - 2 ∧ at_ - x.at_ - 2 < slotN t x := by
  unfold hitB
  simp only [Bool.and_eq_true, decide_eq_true_eq]
def findL (t : List Ent) (at_ : Int) : Nat → List Fm → Option (Nat × Int)
  | _, [] => none
  | k, x :: r => if hitB t at_ x = true then some (k, at_ - x.at_ - 2) else findL t at_ (k + 1) r
def FindPost (o : Option (Nat × Int)) (w : World) (e : Ending) (w' : World) : Prop :=
  (match o with
  | some (d, i) => e = .returned (.tuple #[.int .i64 d, .int .i64 i, .bool true])
  | none => e = .returned (.tuple #[.int .i64 0, .int .i64 0, .bool false])) ∧ Below w.heap.size w w'
set_option maxRecDepth 100000 in
set_option maxHeartbeats 4000000 in
theorem Find_calls (g : Nat) (t : List Ent) (A : Option Addr) (c : Nat) (l : List Fm) (at_ : Int) (w : World) (hT : IsTab w g t) (ht : TabFine t) (hr : kFm.C w A l.length l) (hc : l.length ≤ c) (hl : ∀ x ∈ l, FmAt x) (ha : 0 ≤ at_ ∧ at_ ≤ 4611686018427387904) :
    Calls Tryd.prog 113 #[.pointer (some ⟨g, 0, none⟩), .slice A l.length c, .int .i64 at_] w (FindPost (findL t at_ 0 l) w) := by
  have HR := Aside0.mk hr
  have HL := Aside0.mk hl
  have HSz := Aside0.mk (fun (W : World) (hb : Below w.heap.size w W) (x : Fm) (hx : FmAt x) => ssize_calls g t x W (hT.below hb) ht hx)
  have hm : (l.length : Int) ≤ 9223372036854775807 := by have := hr.2.1; omega
  obtain ⟨a0, a1⟩ := ha
  generalize hP : FindPost (findL t at_ 0 l) w = Post
  have HPost := Aside0.mk hP
  clear hP hr hl hT
  go_enter Tryd.func113, Tryd.ntmps113
  go_wp2
  go_loopw [14] (fun i wr => ∃ k : Nat, k ≤ l.length ∧ i = .int .i64 k ∧ Aside0 (Below w.heap.size w wr) ∧ Aside0 (findL t at_ 0 l = findL t at_ k (l.drop k))) (fun i _ => l.length - (intOf i).toNat)
  case atStart => exact ⟨0, Nat.zero_le _, rfl, ⟨Below.refl _ _⟩, ⟨rfl⟩⟩
  case round =>
    obtain ⟨k, hk, rfl, HB, HE⟩ := hrel
    by_cases hlt : k < l.length
    · obtain ⟨ad, rfl, k0, k1, k2⟩ := at_Fm (Kd.C_below HR.out HB.out) (k : Int) (by omega) (by omega)
      simp only [Int.toNat_natCast] at k0 k1 k2
      have hx := HL.out _ (fm_mem (l := l) (i := (k : Int)) (by omega) (by omega))
      have hd : l.drop k = fm l k :: l.drop (k + 1) := by
        rw [List.drop_eq_getElem_cons hlt]
        simp [fm, List.getElem?_eq_getElem hlt]
      have HB1 := Aside0.mk (below_then HB.out HB.out.size (below_alloc (Below.refl _ wr) (.cells #[.int .i64 (fm l k).at_, .int .i64 (fm l k).fn, .int .i64 (fm l k).link] 61)))
      have HS := Aside0.mk (HSz.out _ HB1.out (fm l k) hx)
      rw [hd] at HE
      have HE2 : Aside0 (findL t at_ 0 l = if hitB t at_ (fm l k) = true then some (k, at_ - (fm l k).at_ - 2) else findL t at_ (k + 1) (l.drop (k + 1))) := ⟨HE.out⟩
      generalize fm l k = x at *
      obtain ⟨x0, x1⟩ := hx
      clear HE hd
      by_cases h0 : x.at_ ≤ at_
      · by_cases h1 : 0 ≤ at_ - x.at_ - 2
        · by_cases h2 : at_ - x.at_ - 2 < slotN t x
          · have HH : Aside0 (findL t at_ 0 l = some (k, at_ - x.at_ - 2)) := ⟨by rw [HE2.out, if_pos (hitB_iff.2 ⟨h0, h1, h2⟩)]⟩
            clear HE2
            generalize slotN t x = n at *
            go_wp2_with (go_at_call 56; refine HS.out.mono ?_; rintro e w1 ⟨rfl, hb⟩; have HB2 := Aside0.mk (below_then HB1.out HB1.out.size hb); clear hb)
            go_ret3
            rw [← HPost.out, HH.out]
            exact ⟨rfl, HB2.out⟩
          · have HH : Aside0 (findL t at_ 0 l = findL t at_ (k + 1) (l.drop (k + 1))) := ⟨by rw [HE2.out, if_neg (fun hh => h2 (hitB_iff.1 hh).2.2)]⟩
            clear HE2
            generalize slotN t x = n at *
            go_wp2_with (go_at_call 56; refine HS.out.mono ?_; rintro e w1 ⟨rfl, hb⟩; have HB2 := Aside0.mk (below_then HB1.out HB1.out.size hb); clear hb)
            go_roundw
            case rel => exact ⟨k + 1, by omega, by go_num, HB2, HH⟩
            case measure => simp [intOf]; omega
        · have HH : Aside0 (findL t at_ 0 l = findL t at_ (k + 1) (l.drop (k + 1))) := ⟨by rw [HE2.out, if_neg (fun hh => h1 (hitB_iff.1 hh).2.1)]⟩
          clear HE2 HS
          go_wp2
          go_roundw
          case rel => exact ⟨k + 1, by omega, by go_num, HB1, HH⟩
          case measure => simp [intOf]; omega
      · have HH : Aside0 (findL t at_ 0 l = findL t at_ (k + 1) (l.drop (k + 1))) := ⟨by rw [HE2.out, if_neg (fun hh => h0 (hitB_iff.1 hh).1)]⟩
        clear HE2 HS
        go_wp2
        go_roundw
        case rel => exact ⟨k + 1, by omega, by go_num, HB1, HH⟩
        case measure => simp [intOf]; omega
    · have HH : Aside0 (findL t at_ 0 l = none) := ⟨by rw [HE.out, List.drop_eq_nil_of_le (by omega)]; rfl⟩
      go_wp2
      go_ret3
      rw [← HPost.out, HH.out]
      exact ⟨rfl, HB.out⟩
end Go.Proofs.YtfaghjadjpiaiaaDoor.Sh
namespace Go.Proofs.YtfaghjadjpiaiaaDoor.Sh
open Go.RowKit Go.Shelf Go.Proofs.YtfaghjadjpiaiaaDoorW.PrintWords Go.Proofs.YtfaghjadjpiaiaaDoorW.PrintLast Go.Proofs.YtfaghjadjpiaiaaDoorW.PrintMore
set_option linter.unusedVariables false
set_option linter.unusedSimpArgs false
def retE (l : List Fr) : Int := if 1 < l.length then 0 else 8
theorem F_take {α : Type} {d : Kd α} {w : World} {ok : Nat → Prop} {A : Option Addr} {xs : List α} (h : d.F w ok A xs.length xs) (m : Nat) (hm : m ≤ xs.length) : d.F w ok A m (xs.take m) := fun W' hW => by
  have h2 := h W' hW
  refine ⟨by simp; omega, by have := h2.2.1; omega, fun hne => ?_⟩
  obtain ⟨ad, he, hr⟩ := h2.2.2 (by omega)
  refine ⟨ad, he, fun j x hj => ?_⟩
  by_cases hjm : j < m
  · exact hr j x (by rwa [List.getElem?_take_of_lt hjm] at hj)
  · rw [List.getElem?_take_eq_none (by omega)] at hj
    cases hj
set_option maxRecDepth 100000 in
set_option maxHeartbeats 1000000 in
theorem ret1_ok (w : World) (a : Nat) (l : List Fr) : HowOk w a l 90 #[] (retE l) (l.take (l.length - 1)) := by
  intro B r W A2 c2 hb hB hr hBW hrow hR
  show Calls _ _ #[.pointer (some ⟨r, 0, none⟩)] _ _
  have h1 : W.cell? ⟨r, 1, none⟩ = some (.slice A2 l.length c2) := (blk_cell hrow 1).trans rfl
  have hf := blk_frozen hrow 1
  obtain ⟨hcc, hlen⟩ : l.length ≤ c2 ∧ l.length ≤ 9223372036854775807 := by
    have h := Kd.S_reads' hR
    exact ⟨h.2.1, h.2.2.2.1⟩
  have HF := Aside0.mk (Kd.F_mono (Kd.R_F (Kd.R_bound (Kd.S_R hR))) (ok' := fun k => k ≠ r ∧ B ≤ k) (fun k hk => ⟨hk.1, hk.2.1⟩))
  have HRow := Aside0.mk hrow
  clear hb hB hrow hR hBW
  by_cases hn : 1 < l.length
  · have hx : retE l = 0 := if_pos hn
    rw [hx]
    have hd : decide ((l.length : Int) > 1) = true := decide_eq_true (by omega)
    clear hx
    obtain ⟨ad, rfl⟩ : ∃ ad, A2 = some ad := by
      obtain ⟨ad, he, _⟩ := (Kd.F_now HF.out).2.2 (by omega)
      exact ⟨ad, he⟩
    obtain ⟨i0, hi, _⟩ := Option.map_eq_some_iff.1 info80
    have hwr : wrap64 ((l.length : Int) - 1) = ((l.length - 1 : Nat) : Int) := by unfold wrap64; omega
    have hsl : ∀ W : World, (Instr.slice 23 (.slice (some ad) l.length c2) none (some (.int .i64 (wrap64 ((l.length : Int) - 1)))) none).run Tryd.prog W = .ok (.slice (some ad) (l.length - 1) c2) W := by
      intro W
      rw [hwr]
      exact cut_to 23 80 .i64 Tryd.underlying23 hi (some ad) l.length c2 ((l.length - 1 : Nat) : Int) (by omega) (by omega) hcc W
    clear hwr hi
    go_enter Tryd.func90, Tryd.ntmps90
    go_wp2_with (go_at_call 88; refine (must_ok 8 _).mono ?_; rintro e w4 ⟨rfl, rfl⟩)
    refine start_ (n := 15) (S := fun w' => w'.cell? ⟨r, 1, none⟩ = some (.slice (some ad) l.length c2) ∧ w'.frozen? ⟨r, 1, none⟩ = false) (ds := [14]) #[false, false, false, false, false, false, false, false, false, false, false, false, false, false, false] (by kernel_rfl) rfl rfl ⟨h1, hf⟩ (fun hHeld => ?_)
    refine pure_ (i := 0) (N := some 9) (v := ?_) (a' := ?_) #[true, false, false, false, false, false, false, false, false, false, false, false, false, false, false] rfl rfl (by kernel_rfl) (fun _ _ _ h => h) (Or.inl ⟨by rfl, ?_⟩) ?_ ?_
    rotate_left
    · intro w'
      go_simp
      with_reducible rfl
    rotate_left
    · simp only [Act.put, List.setIfInBounds_toArray, List.set_cons_zero, List.set_cons_succ, i64_w, i32_w]
      rfl
    refine pure_ (i := 1) (N := some 10) (v := ?_) (a' := ?_) #[true, true, false, false, false, false, false, false, false, false, false, false, false, false, false] rfl rfl (by kernel_rfl) (fun _ _ _ h => h) (Or.inl ⟨by rfl, ?_⟩) ?_ ?_
    rotate_left
    · intro w'
      go_simp
      with_reducible rfl
    rotate_left
    · simp only [Act.put, List.setIfInBounds_toArray, List.set_cons_zero, List.set_cons_succ, i64_w, i32_w]
      rfl
    refine pure_ (i := 2) (N := some 11) (v := ?_) (a' := ?_) #[true, true, true, false, false, false, false, false, false, false, false, false, false, false, false] rfl rfl (by kernel_rfl) (fun _ _ _ h => h) (Or.inl ⟨by rfl, ?_⟩) ?_ ?_
    rotate_left
    · intro w'
      go_simp
      with_reducible rfl
    rotate_left
    · simp only [Act.put, List.setIfInBounds_toArray, List.set_cons_zero, List.set_cons_succ, i64_w, i32_w]
      rfl
    refine pure_ (i := 3) (N := some 12) (v := ?_) (a' := ?_) #[true, true, true, true, false, false, false, false, false, false, false, false, false, false, false] rfl rfl (by kernel_rfl) (fun _ _ _ h => h) (Or.inl ⟨by rfl, ?_⟩) ?_ ?_
    rotate_left
    · intro w'
      go_simp
      with_reducible rfl
    rotate_left
    · simp only [Act.put, List.setIfInBounds_toArray, List.set_cons_zero, List.set_cons_succ, i64_w, i32_w]
      rfl
    refine pure_ (i := 5) (N := some 14) (v := ?_) (a' := ?_) #[true, true, true, true, false, true, false, false, false, false, false, false, false, false, false] rfl rfl (by kernel_rfl) (fun _ _ _ h => h) (Or.inl ⟨by rfl, ?_⟩) ?_ ?_
    rotate_left
    · intro w'
      go_simp
      with_reducible rfl
    rotate_left
    · simp only [Act.put, List.setIfInBounds_toArray, List.set_cons_zero, List.set_cons_succ, i64_w, i32_w]
      rfl
    refine pure_ (i := 6) (N := some 15) (v := ?_) (a' := ?_) #[true, true, true, true, false, true, true, false, false, false, false, false, false, false, false] rfl rfl (by kernel_rfl) (fun _ _ _ h => h) (Or.inl ⟨by rfl, ?_⟩) ?_ ?_
    rotate_left
    · intro w'
      go_simp
      with_reducible rfl
    rotate_left
    · simp only [Act.put, List.setIfInBounds_toArray, List.set_cons_zero, List.set_cons_succ, i64_w, i32_w]
      rfl
    refine pure_ (i := 7) (N := some 16) (v := ?_) (a' := ?_) #[true, true, true, true, false, true, true, true, false, false, false, false, false, false, false] rfl rfl (by kernel_rfl) (fun _ _ _ h => h) (Or.inl ⟨by rfl, ?_⟩) ?_ ?_
    rotate_left
    · intro w'
      go_simp
      with_reducible rfl
    rotate_left
    · simp only [Act.put, List.setIfInBounds_toArray, List.set_cons_zero, List.set_cons_succ, i64_w, i32_w]
      rfl
    refine take_ (i := 4) (N := some 13) (v := ?_) (a' := ?_) #[true, true, true, true, true, true, true, true, false, false, false, false, false, false, false] rfl rfl (by kernel_rfl) (fun _ _ _ h => h) (Or.inl ⟨by rfl, ?_⟩) hHeld ?_ ?_
    rotate_left
    · rintro w' ⟨s0, s1⟩
      go_simp
      with_reducible rfl
    rotate_left
    · simp only [Act.put, List.setIfInBounds_toArray, List.set_cons_zero, List.set_cons_succ, i64_w, i32_w]
      rfl
    refine take_ (i := 8) (N := some 17) (v := ?_) (a' := ?_) #[true, true, true, true, true, true, true, true, true, false, false, false, false, false, false] rfl rfl (by kernel_rfl) (fun _ _ _ h => h) (Or.inl ⟨by rfl, ?_⟩) hHeld ?_ ?_
    rotate_left
    · rintro w' ⟨s0, s1⟩
      go_simp
      with_reducible rfl
    rotate_left
    · simp only [Act.put, List.setIfInBounds_toArray, List.set_cons_zero, List.set_cons_succ, i64_w, i32_w]
      rfl
    refine pure_ (i := 9) (N := some 18) (v := ?_) (a' := ?_) #[true, true, true, true, true, true, true, true, true, true, false, false, false, false, false] rfl rfl (by kernel_rfl) (fun _ _ _ h => h) (Or.inl ⟨by rfl, ?_⟩) ?_ ?_
    rotate_left
    · intro w'
      go_simp
      with_reducible rfl
    rotate_left
    · simp only [Act.put, List.setIfInBounds_toArray, List.set_cons_zero, List.set_cons_succ, i64_w, i32_w]
      rfl
    refine pure_ (i := 10) (N := some 19) (v := ?_) (a' := ?_) #[true, true, true, true, true, true, true, true, true, true, true, false, false, false, false] rfl rfl (by kernel_rfl) (fun _ _ _ h => h) (Or.inl ⟨by rfl, ?_⟩) ?_ ?_
    rotate_left
    · intro w'
      go_simp
      with_reducible rfl
    rotate_left
    · simp only [Act.put, List.setIfInBounds_toArray, List.set_cons_zero, List.set_cons_succ, i64_w, i32_w]
      rfl
    refine pure_ (i := 11) (N := some 20) (v := ?_) (a' := ?_) #[true, true, true, true, true, true, true, true, true, true, true, true, false, false, false] rfl rfl (by kernel_rfl) (fun _ _ _ h => h) (Or.inl ⟨by rfl, ?_⟩) ?_ ?_
    rotate_left
    · intro w'
      go_simp
      with_reducible rfl
    rotate_left
    · simp only [Act.put, List.setIfInBounds_toArray, List.set_cons_zero, List.set_cons_succ, i64_w, i32_w]
      rfl
    refine pure_ (i := 12) (N := some 21) (v := ?_) (a' := ?_) #[true, true, true, true, true, true, true, true, true, true, true, true, true, false, false] rfl rfl (by kernel_rfl) (fun _ _ _ h => h) (Or.inl ⟨by rfl, ?_⟩) ?_ ?_
    rotate_left
    · intro w'
      go_simp
      with_reducible rfl
    rotate_left
    · simp only [Act.put, List.setIfInBounds_toArray, List.set_cons_zero, List.set_cons_succ, i64_w, i32_w]
      rfl
    refine pure_ (i := 13) (N := some 22) (v := ?_) (a' := ?_) #[true, true, true, true, true, true, true, true, true, true, true, true, true, true, false] rfl rfl (by kernel_rfl) (fun _ _ _ h => h) (Or.inl ⟨by rfl, ?_⟩) ?_ ?_
    rotate_left
    · intro w'
      go_simp
      with_reducible rfl
    rotate_left
    · simp only [Act.put, List.setIfInBounds_toArray, List.set_cons_zero, List.set_cons_succ, i64_w, i32_w]
      rfl
    refine last_ (i := 14) (N := none) #[true, true, true, true, true, true, true, true, true, true, true, true, true, true, true] rfl rfl (by kernel_rfl) (by decide) (fun K hK => ?_)
    refine skip_ (w1 := ?_) (by rfl) rfl ?_ ?_
    rotate_left
    · go_simp
      rfl
    refine hK.out _ _ ?_
    clear hK K
    refine done_ (by kernel_rfl) ?_
    go_end0
    have hln : (l.take (l.length - 1)).length = l.length - 1 := by simp
    have hbe : Below B W ((W.setCell ⟨r, 1, none⟩ (.slice (some ad) (l.length - 1) c2)).drew) := below_drew ((Below.refl _ _).setCell hr _)
    refine ⟨hbe, Or.inl ⟨rfl, rfl, some ad, c2, ?_, ?_, by rw [hln]; omega⟩⟩
    · rw [hln]
      show (W.setCell ⟨r, 1, none⟩ (.slice (some ad) (l.length - 1) c2)).heap[r]? = _
      simpa using blk_set HRow.out 1 (.slice (some ad) (l.length - 1) c2)
    · rw [hln]
      exact Kd.F_mono (Kd.F_drew (Kd.F_far (F_take HF.out (l.length - 1) (by omega)) (p := ⟨r, 1, none⟩) (fun k hk => hk.1) _)) (fun k hk => hk.2)
  · have hx : retE l = 8 := if_neg hn
    rw [hx]
    have hd : decide ((l.length : Int) > 1) = false := decide_eq_false (by omega)
    clear hx
    go_enter Tryd.func90, Tryd.ntmps90
    go_wp2_with (go_at_call 88; refine (must_no 8 _).mono ?_; rintro e w4 ⟨rfl, rfl⟩)
    exact ⟨rfl, Below.refl _ _, Or.inr ⟨by decide, rfl⟩⟩
end Go.Proofs.YtfaghjadjpiaiaaDoor.Sh
namespace Go.Proofs.YtfaghjadjpiaiaaDoor.Sh
open Go.RowKit Go.Shelf Go.Proofs.YtfaghjadjpiaiaaDoorW.PrintWords Go.Proofs.YtfaghjadjpiaiaaDoorW.PrintLast Go.Proofs.YtfaghjadjpiaiaaDoorW.PrintMore
set_option linter.unusedVariables false
set_option linter.unusedSimpArgs false
section
variable {P : Program} {ops : Array Oper} {Q : Exit → Act → World → Prop}
/-- A call that returns or panics, in a region that draws. -/
theorem goesT_ {oi : Oper} {N : Option Tmp} {a : Act} {w : World} {K : Act → World → Prop} {f : FuncId} {fn : Func} {as_ : Array Operand} {ts : Array TypeId} (hf : P.funcs[f]? = some fn) (hname : (fn.name == "runtime.NumGoroutine") = false) (hb : fn.body.isSome = true) (args : Array Value)
    (hw : Region.wanted oi (yielded ops a.tmps) = true) (hN : oi.dst = N) (hop : oi.op = .call { callee := .value (.func f), args := as_, argTypes := ts }) (hargs : as_.map a.eval = args)
    (h : Calls P f args w fun e w' => (∃ v, e = .returned v ∧ K (a.put N v) w') ∨ ∃ ch, e = .panicked ch ∧ Q (.panic ch) a w') : if Region.wanted oi (yielded ops a.tmps) = true then Oper.wp P oi a w K Q else K (a.put N undef) w := by
  have he := enters_ hf hname hb args w
  have hrun : (execOp a.eval oi).run P w = .ok (.enter f args) w := by
    unfold execOp
    simp [hop, resolve, Deferred.ofValue, invoke, Act.eval, hargs, he]
  rw [if_pos hw]
  unfold Oper.wp
  rw [hrun, Oper.upon_enter]
  refine h.mono fun e w'' hh => ?_
  rcases hh with ⟨v, rfl, hk⟩ | ⟨ch, rfl, hk⟩
  · subst hN
    exact hk
  · exact hk
/-- A store of any form, in a region that draws. -/
theorem store_ {oi : Oper} {a : Act} {w w1 : World} {K : Act → World → Prop} {t : TypeId} {p x : Operand} {u v : Value} (hw : Region.wanted oi (yielded ops a.tmps) = true) (hN : oi.dst = none) (hop : oi.op = .store t p x) (hp : a.eval p = u) (hx : a.eval x = v)
    (hst : (Instr.storeAt t u v).run P w = .ok () w1) (h : K a w1) : if Region.wanted oi (yielded ops a.tmps) = true then Oper.wp P oi a w K Q else K (a.put none undef) w := by
  rw [if_pos hw]
  unfold Oper.wp execOp
  simp only [hop, hp, hx, Sem.run_bind, Sem.run_pure, Result.andThen_ok, hst]
  show K (a.put oi.dst undef) w1
  rw [hN]
  exact h
end
theorem below_setCells {B g : Nat} {w : World} (hg : B ≤ g) : ∀ (vs : List Value) (o : Nat) {W : World}, Below B w W → Below B w (W.setCells g o vs)
  | [], _, _, h => h
  | v :: vs, o, _, h => below_setCells hg vs (o + 1) (h.setCell hg v)
theorem must_calls (b : Bool) (x : Int) (w : World) :
    Calls Tryd.prog 88 #[.bool b, .int .i64 x] w fun e w' => w = w' ∧ ((b = true ∧ e = .returned (.tuple #[])) ∨ (b = false ∧ e = .panicked (Wrong x))) := by
  cases b
  · exact (must_no x w).mono fun e w' ⟨he, hw⟩ => ⟨hw, Or.inr ⟨rfl, he⟩⟩
  · exact (must_ok x w).mono fun e w' ⟨he, hw⟩ => ⟨hw, Or.inl ⟨rfl, he⟩⟩
/-- A row one of whose slots has something else. -/
def setRow (l : List Fr) (d s : Int) (v : Vl) : List Fr := l.set d.toNat ⟨(fr l d).f, (fr l d).l.set s.toNat v⟩
theorem setRow_length (l : List Fr) (d s : Int) (v : Vl) : (setRow l d s v).length = l.length := by simp [setRow]
theorem kFr_openM {w : World} {base : Nat} {ok : Nat → Prop} {x : Fr} {cs : List Value} (h : kFr.M w base ok x cs) : ∃ v1, cs = [.int .i64 x.f, v1] ∧ kVl.R 26 w base ok v1 x.l := by
  obtain ⟨_, _, rfl, rfl, ⟨v1, rfl, g1⟩⟩ := h
  exact ⟨v1, rfl, g1⟩
theorem put_row {W : World} {B : Nat} {ok : Nat → Prop} {ad : Addr} {n c2 : Nat} {l : List Fr} (hS : kFr.S 80 W B ok (.slice (some ad) n c2) l) (d s : Int) (h0 : 0 ≤ d) (h1 : d < l.length) (h2 : 0 ≤ s) (h3 : s < (fr l d).l.length) :
    ∃ g1 c1, W.cell? ⟨(ad.add (d.toNat * 2)).block, (ad.add (d.toNat * 2)).off + 1, none⟩ = some (.slice (some ⟨g1, 0, none⟩) (fr l d).l.length c1) ∧ (∀ j u, (vl (fr l d).l s).cells[j]? = some u → W.cell? ⟨g1, s.toNat * 4 + j, none⟩ = some u) ∧ (∀ j, W.frozen? ⟨g1, s.toNat * 4 + j, none⟩ = false) ∧ ok g1 ∧ B ≤ g1 ∧ (fr l d).l.length ≤ c1 ∧
      (∀ (P : Program) (t : TypeId) (u : Value) (seg : List Value) (j : Nat), u.cells.toList = seg → (P.info? t).map (·.size) = some seg.length → j + seg.length ≤ 4 → (∀ q ∈ seg, q.oneCell' = true) → (Instr.storeAt t (.pointer (some ⟨g1, s.toNat * 4 + j, none⟩)) u).run P W = .ok () (W.setCells g1 (s.toNat * 4 + j) seg)) ∧
      ∀ (seg : List Value) (j : Nat) (v' : Vl), j + seg.length ≤ 4 → v'.cells = (vl (fr l d).l s).cells.take j ++ seg ++ (vl (fr l d).l s).cells.drop (j + seg.length) →
        kFr.S 80 (W.setCells g1 (s.toNat * 4 + j) seg) B ok (.slice (some ad) n c2) (setRow l d s v') ∧ W.grownBy (W.setCells g1 (s.toNat * 4 + j) seg) (some g1) := by
  have hn : n = l.length := (Kd.S_reads' hS).1
  obtain ⟨oki, c, hcl, hM, hcc, hoki, hback⟩ := Kd.S_borrow hS zFr d h0 (by omega)
  obtain ⟨v1, rfl, hR⟩ := kFr_openM hM
  have hR : kVl.R 26 W B oki v1 (fr l d).l := hR
  obtain ⟨A1, c1, rfl, hlc, _⟩ := Kd.R_reads hR
  obtain ⟨ad1, rfl⟩ : ∃ ad1, A1 = some ad1 := by
    obtain ⟨ad1, he, _⟩ := (Kd.R_reads' hR).2.2.2.2 (by omega)
    exact ⟨ad1, he⟩
  obtain ⟨g1, rfl⟩ := Kd.R_head hR
  obtain ⟨cs, hsl, hsM, hsc, hsf⟩ := Kd.R_elem hR zVl s h2 h3
  obtain rfl := kVl_openM hsM
  have hg1 : oki g1 := hR.1 g1 (by simp [Value.ownBlock])
  refine ⟨g1, c1, ?_, hsc, hsf, (hoki g1 hg1).1, Kd.R_base hR g1 (by simp [Value.ownBlock]), hlc, fun P t u seg j hu ht hj h1' => ?_, fun seg j v' hj hv => ?_⟩
  · have := hcc 1 _ rfl
    rw [← add_field _ _ 1 (by decide)]
    exact this
  · obtain ⟨inner, hown⟩ := Kd.R_own hR
    rcases hown.2 with ⟨hv, _⟩ | ⟨g', cap', cur, hv, hb, hh, hnc, hcm, hcs, _⟩
    · cases hv
    injection hv with ha _ hc
    injection ha with ha
    injection ha with hg'
    subst hg'; subst hc
    refine run_store_run t u seg hh hu ht ?_ h1'
    have e4 : kVl.sz = 4 := rfl
    rw [e4] at hcs
    omega
  · obtain ⟨hR1, hgr⟩ := Kd.R_seg hR s h2 h3 hsl hsc hj (x' := v') (okp := fun _ => False) (by
      show kVl.M W B (fun _ => False) v' _
      have e : (vl (fr l d).l s).cells.take j ++ seg ++ (vl (fr l d).l s).cells.drop (j + seg.length) = v'.cells := hv.symm
      exact e ▸ kVl_mkM _ _ _ v') (fun _ h => h.elim)
    refine ⟨hback (x' := ⟨(fr l d).f, (fr l d).l.set s.toNat v'⟩) hgr (fun k hk => by cases hk; exact hg1) ?_, hgr⟩
    exact kFr_mkM _ _ _ ⟨(fr l d).f, (fr l d).l.set s.toNat v'⟩ (v1 := .slice (some ⟨g1, 0, none⟩) (fr l d).l.length c1) hR1
end Go.Proofs.YtfaghjadjpiaiaaDoor.Sh
namespace Go.Proofs.YtfaghjadjpiaiaaDoor.Sh
open Go.RowKit Go.Shelf Go.Proofs.YtfaghjadjpiaiaaDoorW.PrintWords Go.Proofs.YtfaghjadjpiaiaaDoorW.PrintLast Go.Proofs.YtfaghjadjpiaiaaDoorW.PrintMore
set_option linter.unusedVariables false
set_option linter.unusedSimpArgs false
def setE (t : List Ent) (l : List Fr) (d s : Int) (v : Vl) : Int := if hasS l d s = false then 2 else fitsE t l d s v
theorem hasS_iff {l : List Fr} {d s : Int} : hasS l d s = true ↔ 0 ≤ d ∧ d < l.length ∧ 0 ≤ s ∧ s < (fr l d).l.length := by
  unfold hasS; simp
/-- What stands while a row is changed: the row's box, and two numbers' boxes. -/
structure BoxW (W0 : World) (r a : Nat) (A : Option Addr) (n c p1 p2 : Nat) (d s : Int) (W : World) : Prop where
  row : W.heap[r]? = some (.cells #[.pointer (some ⟨a, 0, none⟩), .slice A n c] 148 (0, 0))
  b1 : W.heap[p1]? = some (.cells #[.int .i64 d] 3 (0, 0))
  b2 : W.heap[p2]? = some (.cells #[.int .i64 s] 3 (0, 0))
  below : Below W0.heap.size W0 W
theorem BoxW.step {W0 : World} {r a : Nat} {A : Option Addr} {n c p1 p2 : Nat} {d s : Int} {W W1 : World} (h : BoxW W0 r a A n c p1 p2 d s W) (hb : Below W.heap.size W W1) : BoxW W0 r a A n c p1 p2 d s W1 :=
  ⟨(hb.block _ (blk_lt h.row)).trans h.row, (hb.block _ (blk_lt h.b1)).trans h.b1, (hb.block _ (blk_lt h.b2)).trans h.b2, below_then h.below h.below.size hb⟩
theorem BoxW.r0 {W0 : World} {r a : Nat} {A : Option Addr} {n c p1 p2 : Nat} {d s : Int} {W : World} (h : BoxW W0 r a A n c p1 p2 d s W) : W.cell? ⟨r, 0, none⟩ = some (.pointer (some ⟨a, 0, none⟩)) := (blk_cell h.row 0).trans rfl
theorem BoxW.r1 {W0 : World} {r a : Nat} {A : Option Addr} {n c p1 p2 : Nat} {d s : Int} {W : World} (h : BoxW W0 r a A n c p1 p2 d s W) : W.cell? ⟨r, 1, none⟩ = some (.slice A n c) := (blk_cell h.row 1).trans rfl
theorem BoxW.q1 {W0 : World} {r a : Nat} {A : Option Addr} {n c p1 p2 : Nat} {d s : Int} {W : World} (h : BoxW W0 r a A n c p1 p2 d s W) : W.cell? ⟨p1, 0, none⟩ = some (.int .i64 d) := (blk_cell h.b1 0).trans rfl
theorem BoxW.q2 {W0 : World} {r a : Nat} {A : Option Addr} {n c p1 p2 : Nat} {d s : Int} {W : World} (h : BoxW W0 r a A n c p1 p2 d s W) : W.cell? ⟨p2, 0, none⟩ = some (.int .i64 s) := (blk_cell h.b2 0).trans rfl
theorem drew_step {W W1 : World} (h : Below W.drew.heap.size W.drew W1) : Below W.heap.size W W1 := below_of_drew h
set_option maxRecDepth 100000 in
set_option maxHeartbeats 2000000 in
theorem set1_ok (w : World) (a p1 p2 p3 : Nat) (t : List Ent) (d s : Int) (v : Vl) (l : List Fr) (hT : IsTab w a t) (hA : AllE t) (hs : I64 s)
    (b1 : w.heap[p1]? = some (.cells #[.int .i64 d] 3 (0, 0))) (b2 : w.heap[p2]? = some (.cells #[.int .i64 s] 3 (0, 0))) (b3 : w.heap[p3]? = some (.cells #[.int .u8 v.k, .int .u64 v.b, .int .i64 v.d, .int .i64 v.s] 26 (0, 0))) :
    HowOk w a l 94 #[.pointer (some ⟨p1, 0, none⟩), .pointer (some ⟨p2, 0, none⟩), .pointer (some ⟨p3, 0, none⟩)] (setE t l d s v) (setRow l d s v) := by
  intro B r W A2 c2 hb hB hr hBW hrow hR
  show Calls _ _ #[.pointer (some ⟨r, 0, none⟩), .pointer (some ⟨p1, 0, none⟩), .pointer (some ⟨p2, 0, none⟩), .pointer (some ⟨p3, 0, none⟩)] _ _
  have HB := Aside0.mk (show BoxW W r a A2 l.length c2 p1 p2 d s W from ⟨hrow, (hb.block _ (blk_lt b1)).trans b1, (hb.block _ (blk_lt b2)).trans b2, Below.refl _ _⟩)
  have HV := Aside0.mk ((hb.block _ (blk_lt b3)).trans b3)
  have hI := Aside0.mk (show IsRow W a t A2 c2 l from ⟨hT.below hb, hA, (Kd.S_reads' hR).2.2, (Kd.S_reads' hR).2.1⟩)
  have HS := Aside0.mk hR
  have HH := Aside0.mk (fun (W1 : World) (hB : Below W.heap.size W W1) => rhas_calls a t A2 c2 l d s W1 (hI.out.below hB))
  have HPos := Aside0.mk (And.intro hr hBW)
  have Hs := Aside0.mk hs
  clear hb hB hr hBW hrow hR hT hA hs b1 b2 b3
  have q0 := HB.out.r0
  have q1 := HB.out.r1
  have q2 := HB.out.q1
  have q3 := HB.out.q2
  go_enter Tryd.func94, Tryd.ntmps94
  go_wp2_with fail
  refine start_ (n := 7) (S := fun w' => w'.cell? ⟨r, 0, none⟩ = some (.pointer (some ⟨a, 0, none⟩)) ∧ w'.cell? ⟨r, 1, none⟩ = some (.slice A2 l.length c2) ∧ w'.cell? ⟨p1, 0, none⟩ = some (.int .i64 d) ∧ w'.cell? ⟨p2, 0, none⟩ = some (.int .i64 s)) (ds := []) #[false, false, false, false, false, false, false] (by kernel_rfl) rfl rfl ⟨q0, q1, q2, q3⟩ (fun hHeld => ?_)
  refine pure_ (i := 0) (N := some 5) (v := ?_) (a' := ?_) #[true, false, false, false, false, false, false] rfl rfl (by kernel_rfl) (fun _ _ _ h => h) (Or.inl ⟨by rfl, ?_⟩) ?_ ?_
  rotate_left
  · intro w'
    go_simp
    with_reducible rfl
  rotate_left
  · simp only [Act.put, List.setIfInBounds_toArray, List.set_cons_zero, List.set_cons_succ, i64_w, i32_w]
    rfl
  refine pure_ (i := 1) (N := some 6) (v := ?_) (a' := ?_) #[true, true, false, false, false, false, false] rfl rfl (by kernel_rfl) (fun _ _ _ h => h) (Or.inl ⟨by rfl, ?_⟩) ?_ ?_
  rotate_left
  · intro w'
    go_simp
    with_reducible rfl
  rotate_left
  · simp only [Act.put, List.setIfInBounds_toArray, List.set_cons_zero, List.set_cons_succ, i64_w, i32_w]
    rfl
  refine take_ (i := 2) (N := some 7) (v := ?_) (a' := ?_) #[true, true, true, false, false, false, false] rfl rfl (by kernel_rfl) (fun _ _ _ h => h) (Or.inl ⟨by rfl, ?_⟩) hHeld ?_ ?_
  rotate_left
  · rintro w' ⟨s0, s1, s2, s3⟩
    go_simp
    with_reducible rfl
  rotate_left
  · simp only [Act.put, List.setIfInBounds_toArray, List.set_cons_zero, List.set_cons_succ, i64_w, i32_w]
    rfl
  refine take_ (i := 3) (N := some 8) (v := ?_) (a' := ?_) #[true, true, true, true, false, false, false] rfl rfl (by kernel_rfl) (fun _ _ _ h => h) (Or.inl ⟨by rfl, ?_⟩) hHeld ?_ ?_
  rotate_left
  · rintro w' ⟨s0, s1, s2, s3⟩
    go_simp
    with_reducible rfl
  rotate_left
  · simp only [Act.put, List.setIfInBounds_toArray, List.set_cons_zero, List.set_cons_succ, i64_w, i32_w]
    rfl
  refine take_ (i := 4) (N := some 9) (v := ?_) (a' := ?_) #[true, true, true, true, true, false, false] rfl rfl (by kernel_rfl) (fun _ _ _ h => h) (Or.inl ⟨by rfl, ?_⟩) hHeld ?_ ?_
  rotate_left
  · rintro w' ⟨s0, s1, s2, s3⟩
    go_simp
    with_reducible rfl
  rotate_left
  · simp only [Act.put, List.setIfInBounds_toArray, List.set_cons_zero, List.set_cons_succ, i64_w, i32_w]
    rfl
  refine one_ (i := 5) (N := some 10) #[true, true, true, true, true, true, false] rfl rfl (by kernel_rfl) (by decide) (fun K hK => ?_)
  refine goes_ Tryd.func95 (by kernel_rfl) rfl #[.agg #[.pointer (some ⟨a, 0, none⟩), .slice A2 l.length c2], .int .i64 d, .int .i64 s] (by rfl) rfl rfl (by simp only [List.map_toArray, List.map_cons, List.map_nil]; rfl) ?_
  with_reducible refine (HH.out _ (below_drew (Below.refl _ _))).mono ?_
  rintro e w5 ⟨rfl, hB5⟩
  refine ⟨_, rfl, ?_⟩
  have HB5 := Aside0.mk (HB.out.step (below_of_drew hB5))
  clear hB5
  refine hK.out _ _ ⟨HB5.out.r0, HB5.out.r1, HB5.out.q1, HB5.out.q2⟩ (fun hHeld => ?_)
  clear hK K
  refine norm_ (a' := ?_) ?_ ?_
  rotate_left
  · show Act.put _ (some 10) _ = _
    simp only [Act.put, List.setIfInBounds_toArray, List.set_cons_zero, List.set_cons_succ, i64_w, i32_w]
    rfl
  refine one_ (i := 6) (N := some 11) #[true, true, true, true, true, true, true] rfl rfl (by kernel_rfl) (by decide) (fun K hK => ?_)
  show if _ = true then Oper.wp _ _ _ _ _ _ else _
  refine goesT_ Tryd.func88 (by kernel_rfl) rfl #[.bool (hasS l d s), .int .i64 2] (by rfl) rfl rfl (by simp only [List.map_toArray, List.map_cons, List.map_nil]; rfl) ?_
  with_reducible refine (must_calls _ _ _).mono ?_
  rintro e w6 ⟨rfl, ⟨hh, rfl⟩ | ⟨hh, rfl⟩⟩
  rotate_left
  · exact Or.inr ⟨_, rfl, rfl, HB5.out.below.mono HPos.out.2, Or.inr ⟨by rw [setE, if_pos hh]; decide, by rw [setE, if_pos hh]⟩⟩
  refine Or.inl ⟨_, rfl, ?_⟩
  have HHas := Aside0.mk hh
  clear hh
  refine hK.out _ _ ⟨HB5.out.r0, HB5.out.r1, HB5.out.q1, HB5.out.q2⟩ (fun hHeld => ?_)
  clear hK K
  refine norm_ (a' := ?_) ?_ ?_
  rotate_left
  · show Act.put _ (some 11) _ = _
    simp only [Act.put, List.setIfInBounds_toArray, List.set_cons_zero, List.set_cons_succ, i64_w, i32_w]
    rfl
  refine done_ (by kernel_rfl) ?_
  clear hHeld q0 q1 q2 q3
  have q0 := HB5.out.r0
  have q1 := HB5.out.r1
  have q2 := HB5.out.q1
  have q3 := HB5.out.q2
  have HV5 := Aside0.mk ((HB5.out.below.block _ (blk_lt HV.out)).trans HV.out)
  have v0 : w5.cell? ⟨p3, 0, none⟩ = some (.int .u8 v.k) := (blk_cell HV5.out 0).trans rfl
  have v1 : w5.cell? ⟨p3, 1, none⟩ = some (.int .u64 v.b) := (blk_cell HV5.out 1).trans rfl
  have v2 : w5.cell? ⟨p3, 2, none⟩ = some (.int .i64 v.d) := (blk_cell HV5.out 2).trans rfl
  have v3 : w5.cell? ⟨p3, 3, none⟩ = some (.int .i64 v.s) := (blk_cell HV5.out 3).trans rfl
  have HFt := Aside0.mk (fun (W1 : World) (hB : Below W.heap.size W W1) => rfits_calls a t A2 c2 l d s v W1 (hI.out.below hB) (hasS_iff.1 HHas.out).1 (hasS_iff.1 HHas.out).2.1 Hs.out)
  have HXE := Aside0.mk (show setE t l d s v = fitsE t l d s v from if_neg (by rw [HHas.out]; decide))
  go_wp2_with fail
  refine start_ (n := 7) (S := fun w' => w'.cell? ⟨r, 0, none⟩ = some (.pointer (some ⟨a, 0, none⟩)) ∧ w'.cell? ⟨r, 1, none⟩ = some (.slice A2 l.length c2) ∧ w'.cell? ⟨p1, 0, none⟩ = some (.int .i64 d) ∧ w'.cell? ⟨p2, 0, none⟩ = some (.int .i64 s) ∧ w'.cell? ⟨p3, 0, none⟩ = some (.int .u8 v.k) ∧ w'.cell? ⟨p3, 1, none⟩ = some (.int .u64 v.b) ∧ w'.cell? ⟨p3, 2, none⟩ = some (.int .i64 v.d) ∧ w'.cell? ⟨p3, 3, none⟩ = some (.int .i64 v.s)) (ds := []) #[false, false, false, false, false, false, false] (by kernel_rfl) rfl rfl ⟨q0, q1, q2, q3, v0, v1, v2, v3⟩ (fun hHeld => ?_)
  refine pure_ (i := 0) (N := some 12) (v := ?_) (a' := ?_) #[true, false, false, false, false, false, false] rfl rfl (by kernel_rfl) (fun _ _ _ h => h) (Or.inl ⟨by rfl, ?_⟩) ?_ ?_
  rotate_left
  · intro w'
    go_simp
    with_reducible rfl
  rotate_left
  · simp only [Act.put, List.setIfInBounds_toArray, List.set_cons_zero, List.set_cons_succ, i64_w, i32_w]
    rfl
  refine pure_ (i := 1) (N := some 13) (v := ?_) (a' := ?_) #[true, true, false, false, false, false, false] rfl rfl (by kernel_rfl) (fun _ _ _ h => h) (Or.inl ⟨by rfl, ?_⟩) ?_ ?_
  rotate_left
  · intro w'
    go_simp
    with_reducible rfl
  rotate_left
  · simp only [Act.put, List.setIfInBounds_toArray, List.set_cons_zero, List.set_cons_succ, i64_w, i32_w]
    rfl
  refine take_ (i := 2) (N := some 14) (v := ?_) (a' := ?_) #[true, true, true, false, false, false, false] rfl rfl (by kernel_rfl) (fun _ _ _ h => h) (Or.inl ⟨by rfl, ?_⟩) hHeld ?_ ?_
  rotate_left
  · rintro w' ⟨s0, s1, s2, s3, s4, s5, s6, s7⟩
    go_simp
    with_reducible rfl
  rotate_left
  · simp only [Act.put, List.setIfInBounds_toArray, List.set_cons_zero, List.set_cons_succ, i64_w, i32_w]
    rfl
  refine take_ (i := 3) (N := some 15) (v := ?_) (a' := ?_) #[true, true, true, true, false, false, false] rfl rfl (by kernel_rfl) (fun _ _ _ h => h) (Or.inl ⟨by rfl, ?_⟩) hHeld ?_ ?_
  rotate_left
  · rintro w' ⟨s0, s1, s2, s3, s4, s5, s6, s7⟩
    go_simp
    with_reducible rfl
  rotate_left
  · simp only [Act.put, List.setIfInBounds_toArray, List.set_cons_zero, List.set_cons_succ, i64_w, i32_w]
    rfl
  refine take_ (i := 4) (N := some 16) (v := ?_) (a' := ?_) #[true, true, true, true, true, false, false] rfl rfl (by kernel_rfl) (fun _ _ _ h => h) (Or.inl ⟨by rfl, ?_⟩) hHeld ?_ ?_
  rotate_left
  · rintro w' ⟨s0, s1, s2, s3, s4, s5, s6, s7⟩
    go_simp
    with_reducible rfl
  rotate_left
  · simp only [Act.put, List.setIfInBounds_toArray, List.set_cons_zero, List.set_cons_succ, i64_w, i32_w]
    rfl
  refine take_ (i := 5) (N := some 17) (v := ?_) (a' := ?_) #[true, true, true, true, true, true, false] rfl rfl (by kernel_rfl) (fun _ _ _ h => h) (Or.inl ⟨by rfl, ?_⟩) hHeld ?_ ?_
  rotate_left
  · rintro w' ⟨s0, s1, s2, s3, s4, s5, s6, s7⟩
    go_simp
    with_reducible rfl
  rotate_left
  · simp only [Act.put, List.setIfInBounds_toArray, List.set_cons_zero, List.set_cons_succ, i64_w, i32_w]
    rfl
  refine one_ (i := 6) (N := some 18) #[true, true, true, true, true, true, true] rfl rfl (by kernel_rfl) (by decide) (fun K hK => ?_)
  show if _ = true then Oper.wp _ _ _ _ _ _ else _
  refine goesT_ Tryd.func96 (by kernel_rfl) rfl #[.agg #[.pointer (some ⟨a, 0, none⟩), .slice A2 l.length c2], .int .i64 d, .int .i64 s, .agg #[.int .u8 v.k, .int .u64 v.b, .int .i64 v.d, .int .i64 v.s]] (by rfl) rfl rfl (by simp only [List.map_toArray, List.map_cons, List.map_nil]; rfl) ?_
  with_reducible refine (HFt.out _ (below_drew HB5.out.below)).mono ?_
  rintro e w6 ⟨⟨hh, rfl⟩ | ⟨hh, rfl⟩, hB6⟩
  rotate_left
  · exact Or.inr ⟨_, rfl, rfl, (HB5.out.step (below_of_drew hB6)).below.mono HPos.out.2, Or.inr ⟨by rw [HXE.out]; exact hh, by rw [HXE.out]⟩⟩
  refine Or.inl ⟨_, rfl, ?_⟩
  have HFit := Aside0.mk hh
  have HB6 := Aside0.mk (HB5.out.step (below_of_drew hB6))
  have HV6 := Aside0.mk ((HB6.out.below.block _ (blk_lt HV.out)).trans HV.out)
  clear hh hB6
  refine hK.out _ _ ⟨HB6.out.r0, HB6.out.r1, HB6.out.q1, HB6.out.q2, ((blk_cell HV6.out 0).trans rfl), ((blk_cell HV6.out 1).trans rfl), ((blk_cell HV6.out 2).trans rfl), ((blk_cell HV6.out 3).trans rfl)⟩ (fun hHeld => ?_)
  clear hK K
  refine norm_ (a' := ?_) ?_ ?_
  rotate_left
  · show Act.put _ (some 18) _ = _
    simp only [Act.put, List.setIfInBounds_toArray, List.set_cons_zero, List.set_cons_succ, i64_w, i32_w]
    rfl
  refine done_ (by kernel_rfl) ?_
  clear hHeld q0 q1 q2 q3 v0 v1 v2 v3
  obtain ⟨ad, rfl⟩ : ∃ ad, A2 = some ad := by
    obtain ⟨ad, he, _⟩ := hI.out.rows.2.2 (by have := hasS_iff.1 HHas.out; omega)
    exact ⟨ad, he⟩
  obtain ⟨g1, c1, g3, hsc, hsf, hok, hBg, hlc, hst, hput⟩ := put_row (W := w6.drew) (Kd.S_drew (Kd.S_below HS.out HB6.out.below)) d s (hasS_iff.1 HHas.out).1 (hasS_iff.1 HHas.out).2.1 (hasS_iff.1 HHas.out).2.2.1 (hasS_iff.1 HHas.out).2.2.2
  have HPut := Aside0.mk hput
  have hst : (Instr.storeAt 26 (.pointer (some ⟨g1, s.toNat * 4, none⟩)) (.agg #[.int .u8 v.k, .int .u64 v.b, .int .i64 v.d, .int .i64 v.s])).run Tryd.prog w6.drew = .ok () (w6.drew.setCells g1 (s.toNat * 4) [.int .u8 v.k, .int .u64 v.b, .int .i64 v.d, .int .i64 v.s]) := hst _ 26 _ _ 0 rfl (by kernel_rfl) (by simp) (by simp [Value.oneCell'])
  have HG := Aside0.mk (And.intro hok hBg)
  have q0 := HB6.out.r0
  have q1 := HB6.out.r1
  have q2 := HB6.out.q1
  have q3 := HB6.out.q2
  have v0 : w6.cell? ⟨p3, 0, none⟩ = some (.int .u8 v.k) := (blk_cell HV6.out 0).trans rfl
  have v1 : w6.cell? ⟨p3, 1, none⟩ = some (.int .u64 v.b) := (blk_cell HV6.out 1).trans rfl
  have v2 : w6.cell? ⟨p3, 2, none⟩ = some (.int .i64 v.d) := (blk_cell HV6.out 2).trans rfl
  have v3 : w6.cell? ⟨p3, 3, none⟩ = some (.int .i64 v.s) := (blk_cell HV6.out 3).trans rfl
  have hd0 := (hasS_iff.1 HHas.out).1
  have hd1 := (hasS_iff.1 HHas.out).2.1
  have hs0 := (hasS_iff.1 HHas.out).2.2.1
  have hs1 := (hasS_iff.1 HHas.out).2.2.2
  have HC := Aside0.mk (And.intro hsc hsf)
  clear hput hok hBg hlc hsc hsf
  go_wp2_with fail
  refine start_ (n := 12) (S := fun w' => w'.cell? ⟨r, 1, none⟩ = some (.slice (some ad) l.length c2) ∧ w'.cell? ⟨p1, 0, none⟩ = some (.int .i64 d) ∧ w'.cell? ⟨p2, 0, none⟩ = some (.int .i64 s) ∧ w'.cell? ⟨p3, 0, none⟩ = some (.int .u8 v.k) ∧ w'.cell? ⟨p3, 1, none⟩ = some (.int .u64 v.b) ∧ w'.cell? ⟨p3, 2, none⟩ = some (.int .i64 v.d) ∧ w'.cell? ⟨p3, 3, none⟩ = some (.int .i64 v.s) ∧ w'.cell? ⟨(ad.add (d.toNat * 2)).block, (ad.add (d.toNat * 2)).off + 1, none⟩ = some (.slice (some ⟨g1, 0, none⟩) (fr l d).l.length c1)) (ds := [11]) #[false, false, false, false, false, false, false, false, false, false, false, false] (by kernel_rfl) rfl rfl ⟨q1, q2, q3, v0, v1, v2, v3, g3⟩ (fun hHeld => ?_)
  refine pure_ (i := 0) (N := some 19) (v := ?_) (a' := ?_) #[true, false, false, false, false, false, false, false, false, false, false, false] rfl rfl (by kernel_rfl) (fun _ _ _ h => h) (Or.inl ⟨by rfl, ?_⟩) ?_ ?_
  rotate_left
  · intro w'
    go_simp
    with_reducible rfl
  rotate_left
  · simp only [Act.put, List.setIfInBounds_toArray, List.set_cons_zero, List.set_cons_succ, i64_w, i32_w]
    rfl
  refine pure_ (i := 1) (N := some 20) (v := ?_) (a' := ?_) #[true, true, false, false, false, false, false, false, false, false, false, false] rfl rfl (by kernel_rfl) (fun _ _ _ h => h) (Or.inl ⟨by rfl, ?_⟩) ?_ ?_
  rotate_left
  · intro w'
    go_simp
    with_reducible rfl
  rotate_left
  · simp only [Act.put, List.setIfInBounds_toArray, List.set_cons_zero, List.set_cons_succ, i64_w, i32_w]
    rfl
  refine pure_ (i := 2) (N := some 21) (v := ?_) (a' := ?_) #[true, true, true, false, false, false, false, false, false, false, false, false] rfl rfl (by kernel_rfl) (fun _ _ _ h => h) (Or.inl ⟨by rfl, ?_⟩) ?_ ?_
  rotate_left
  · intro w'
    go_simp
    with_reducible rfl
  rotate_left
  · simp only [Act.put, List.setIfInBounds_toArray, List.set_cons_zero, List.set_cons_succ, i64_w, i32_w]
    rfl
  refine take_ (i := 3) (N := some 22) (v := ?_) (a' := ?_) #[true, true, true, true, false, false, false, false, false, false, false, false] rfl rfl (by kernel_rfl) (fun _ _ _ h => h) (Or.inl ⟨by rfl, ?_⟩) hHeld ?_ ?_
  rotate_left
  · rintro w' ⟨s0, s1, s2, s3, s4, s5, s6, s7⟩
    go_simp
    with_reducible rfl
  rotate_left
  · simp only [Act.put, List.setIfInBounds_toArray, List.set_cons_zero, List.set_cons_succ, i64_w, i32_w]
    rfl
  refine take_ (i := 4) (N := some 23) (v := ?_) (a' := ?_) #[true, true, true, true, true, false, false, false, false, false, false, false] rfl rfl (by kernel_rfl) (fun _ _ _ h => h) (Or.inl ⟨by rfl, ?_⟩) hHeld ?_ ?_
  rotate_left
  · rintro w' ⟨s0, s1, s2, s3, s4, s5, s6, s7⟩
    go_simp
    with_reducible rfl
  rotate_left
  · simp only [Act.put, List.setIfInBounds_toArray, List.set_cons_zero, List.set_cons_succ, i64_w, i32_w]
    rfl
  refine pure_ (i := 5) (N := some 24) (v := ?_) (a' := ?_) #[true, true, true, true, true, true, false, false, false, false, false, false] rfl rfl (by kernel_rfl) (fun _ _ _ h => h) (Or.inl ⟨by rfl, ?_⟩) ?_ ?_
  rotate_left
  · intro w'
    go_simp
    with_reducible rfl
  rotate_left
  · simp only [Act.put, List.setIfInBounds_toArray, List.set_cons_zero, List.set_cons_succ, i64_w, i32_w]
    rfl
  refine pure_ (i := 6) (N := some 25) (v := ?_) (a' := ?_) #[true, true, true, true, true, true, true, false, false, false, false, false] rfl rfl (by kernel_rfl) (fun _ _ _ h => h) (Or.inl ⟨by rfl, ?_⟩) ?_ ?_
  rotate_left
  · intro w'
    go_simp
    with_reducible rfl
  rotate_left
  · simp only [Act.put, List.setIfInBounds_toArray, List.set_cons_zero, List.set_cons_succ, i64_w, i32_w]
    rfl
  refine take_ (i := 7) (N := some 26) (v := ?_) (a' := ?_) #[true, true, true, true, true, true, true, true, false, false, false, false] rfl rfl (by kernel_rfl) (fun _ _ _ h => h) (Or.inl ⟨by rfl, ?_⟩) hHeld ?_ ?_
  rotate_left
  · rintro w' ⟨s0, s1, s2, s3, s4, s5, s6, s7⟩
    go_simp
    with_reducible rfl
  rotate_left
  · simp only [Act.put, List.setIfInBounds_toArray, List.set_cons_zero, List.set_cons_succ, i64_w, i32_w]
    rfl
  refine take_ (i := 8) (N := some 27) (v := ?_) (a' := ?_) #[true, true, true, true, true, true, true, true, true, false, false, false] rfl rfl (by kernel_rfl) (fun _ _ _ h => h) (Or.inl ⟨by rfl, ?_⟩) hHeld ?_ ?_
  rotate_left
  · rintro w' ⟨s0, s1, s2, s3, s4, s5, s6, s7⟩
    go_simp
    with_reducible rfl
  rotate_left
  · simp only [Act.put, List.setIfInBounds_toArray, List.set_cons_zero, List.set_cons_succ, i64_w, i32_w]
    rfl
  refine take_ (i := 9) (N := some 28) (v := ?_) (a' := ?_) #[true, true, true, true, true, true, true, true, true, true, false, false] rfl rfl (by kernel_rfl) (fun _ _ _ h => h) (Or.inl ⟨by rfl, ?_⟩) hHeld ?_ ?_
  rotate_left
  · rintro w' ⟨s0, s1, s2, s3, s4, s5, s6, s7⟩
    go_simp
    with_reducible rfl
  rotate_left
  · simp only [Act.put, List.setIfInBounds_toArray, List.set_cons_zero, List.set_cons_succ, i64_w, i32_w]
    rfl
  refine pure_ (i := 10) (N := some 29) (v := ?_) (a' := ?_) #[true, true, true, true, true, true, true, true, true, true, true, false] rfl rfl (by kernel_rfl) (fun _ _ _ h => h) (Or.inl ⟨by rfl, ?_⟩) ?_ ?_
  rotate_left
  · intro w'
    go_simp
    with_reducible rfl
  rotate_left
  · simp only [Act.put, List.setIfInBounds_toArray, List.set_cons_zero, List.set_cons_succ, i64_w, i32_w]
    rfl
  refine last_ (i := 11) (N := none) #[true, true, true, true, true, true, true, true, true, true, true, true] rfl rfl (by kernel_rfl) (by decide) (fun K hK => ?_)
  refine store_ (by rfl) rfl rfl rfl rfl hst ?_
  refine hK.out _ _ ?_
  clear hK K
  refine done_ (by kernel_rfl) ?_
  clear hHeld
  go_end0
  obtain ⟨hS9, hg9⟩ := HPut.out [.int .u8 v.k, .int .u64 v.b, .int .i64 v.d, .int .i64 v.s] 0 v (by simp) (by simp [Vl.cells])
  have hS9 : kFr.S 80 (w6.drew.setCells g1 (s.toNat * 4) [.int .u8 v.k, .int .u64 v.b, .int .i64 v.d, .int .i64 v.s]) B (fun k => k ≠ r) (.slice (some ad) l.length c2) (setRow l d s v) := hS9
  have hbe : Below B W (w6.drew.setCells g1 (s.toNat * 4) [.int .u8 v.k, .int .u64 v.b, .int .i64 v.d, .int .i64 v.s]) := below_setCells HG.out.2 _ _ (below_drew (HB6.out.below.mono HPos.out.2))
  rw [HXE.out, HFit.out]
  refine ⟨hbe, Or.inl ⟨rfl, rfl, some ad, c2, ?_, ?_, by rw [setRow_length]; exact hI.out.cap⟩⟩
  · rw [setRow_length]
    exact (hg9.block r (by have := blk_lt HB6.out.row; exact this) (fun he => HG.out.1 (by cases he; rfl))).trans HB6.out.row
  · rw [setRow_length]
    exact Kd.F_mono (Kd.R_F (Kd.R_bound (Kd.S_R hS9))) (fun k hk => hk.2.1)
end Go.Proofs.YtfaghjadjpiaiaaDoor.Sh
namespace Go.Proofs.YtfaghjadjpiaiaaDoor.Sh
open Go.RowKit Go.Shelf Go.Proofs.YtfaghjadjpiaiaaDoorW.PrintWords Go.Proofs.YtfaghjadjpiaiaaDoorW.PrintLast Go.Proofs.YtfaghjadjpiaiaaDoorW.PrintMore
set_option linter.unusedVariables false
set_option linter.unusedSimpArgs false
theorem results_c1 {P : Program} {fn : Func} {p : Tmp} {ty : TypeId} (h : fn.results = #[.cell p ty]) (tmps : Array Value) (w : World) (g : Nat) (t : TypeId) (cs : Array Value) (fr : Nat × Nat) (d : TypeDesc)
    (hp : tmps.getD p undef = .pointer (some ⟨g, 0, none⟩)) (hg : w.heap[g]? = some (.cells cs t fr))
    (hu : P.underlying ty = some d) (hd : (match d with | .struct _ | .array _ _ => true | _ => false) = true) (hi : (P.info? ty).map (·.size) = some cs.size) :
    (results fn tmps).run P w = .ok (.agg cs) w := by
  have hp' : tmps[p]?.getD undef = .pointer (some ⟨g, 0, none⟩) := by simpa using hp
  simp [results, h, hp', asAddr, run_loadVar_row w g t ty cs fr d hg hu hd hi]
/-- A struct's four cells, written. -/
theorem blk_set4 {w : World} {g t : Nat} {a0 a1 a2 a3 : Value} (b0 b1 b2 b3 : Value) (h : w.heap[g]? = some (.cells #[a0, a1, a2, a3] t (0, 0))) :
    ((((w.setCell ⟨g, 0, none⟩ b0).setCell ⟨g, 1, none⟩ b1).setCell ⟨g, 2, none⟩ b2).setCell ⟨g, 3, none⟩ b3).heap[g]? = some (.cells #[b0, b1, b2, b3] t (0, 0)) := by
  have h0 := blk_set h 0 b0
  have h1 := blk_set h0 1 b1
  have h2 := blk_set h1 2 b2
  have h3 := blk_set h2 3 b3
  simpa using h3
theorem below_set4 {w W : World} {B g : Nat} (b0 b1 b2 b3 : Value) (h : Below B w W) (hg : B ≤ g) : Below B w ((((W.setCell ⟨g, 0, none⟩ b0).setCell ⟨g, 1, none⟩ b1).setCell ⟨g, 2, none⟩ b2).setCell ⟨g, 3, none⟩ b3) :=
  (((h.setCell hg _).setCell hg _).setCell hg _).setCell hg _
def refE (t : List Ent) (l : List Fr) (d s : Int) : Int := if hasS l d s = false then 2 else if tPtr t (fr l d).f s = false then 5 else if (vl (fr l d).l s).k = 2 then 0 else 12
set_option maxRecDepth 100000 in
set_option maxHeartbeats 2000000 in
theorem refers_calls (a : Nat) (t : List Ent) (A : Option Addr) (c : Nat) (l : List Fr) (d s : Int) (w : World) (h : IsRow w a t A c l) (hs : I64 s) :
    Calls Tryd.prog 100 #[.agg #[.pointer (some ⟨a, 0, none⟩), .slice A l.length c], .int .i64 d, .int .i64 s] w fun e w' => Below w.heap.size w w' ∧ ((refE t l d s = 0 ∧ hasS l d s = true ∧ e = .returned (.agg #[.int .u8 (vl (fr l d).l s).k, .int .u64 (vl (fr l d).l s).b, .int .i64 (vl (fr l d).l s).d, .int .i64 (vl (fr l d).l s).s])) ∨ (refE t l d s ≠ 0 ∧ e = .panicked (Wrong (refE t l d s)))) := by
  have HI := Aside0.mk h
  have HB := Aside0.mk (FitW.start w a A l.length c zVl)
  have HH := Aside0.mk (fun (W : World) (hB : Below w.heap.size w W) => rhas_calls a t A c l d s W (h.below hB))
  have Hs := Aside0.mk hs
  clear h hs
  have q0 := HB.out.c0
  have q1 := HB.out.c1
  go_enter Tryd.func100, Tryd.ntmps100
  go_wp2_with first
    | (go_at_call 95
       refine (HH.out _ HB.out.below).mono ?_
       rintro e w2 ⟨rfl, hb⟩
       have HB2 := Aside0.mk (HB.out.step hb)
       clear hb q0 q1
       have q0 := HB2.out.c0
       have q1 := HB2.out.c1)
    | (go_at_call 102
       refine (rptr_calls a t A c l d s _ (HI.out.below HB2.out.below) HHas.out.1 HHas.out.2.1 Hs.out).mono ?_
       rintro e w3 ⟨rfl, hb⟩
       have HB3 := Aside0.mk (HB2.out.step hb)
       clear hb)
    | (go_at_call 88
       with_reducible refine (must_calls (hasS l d s) 2 _).mono ?_
       rintro e w6 ⟨rfl, ⟨hh, rfl⟩ | ⟨hh, rfl⟩⟩
       rotate_left
       · exact ⟨rfl, HB2.out.below, Or.inr ⟨by rw [refE, if_pos hh]; decide, by rw [refE, if_pos hh]⟩⟩
       have HHas := Aside0.mk (hasS_iff.1 hh)
       clear hh)
    | (go_at_call 88
       with_reducible refine (must_calls (tPtr t (fr l d).f s) 5 _).mono ?_
       rintro e w6 ⟨rfl, ⟨hh, rfl⟩ | ⟨hh, rfl⟩⟩
       rotate_left
       · have g1 : ¬ hasS l d s = false := by rw [hasS_iff.2 HHas.out]; decide
         exact ⟨rfl, HB3.out.below, Or.inr ⟨by rw [refE, if_neg g1, if_pos hh]; decide, by rw [refE, if_neg g1, if_pos hh]⟩⟩
       have HPtr := Aside0.mk hh
       clear hh q0 q1
       have q1 := HB3.out.c1
       obtain ⟨ad, A1, c1, rfl, e0, e1, el, eC⟩ := at_Fr (Kd.C_below HI.out.rows HB3.out.below) d HHas.out.1 HHas.out.2.1
       obtain ⟨ad1, rfl, f0, f1, f2, f3⟩ := at_Vl eC s HHas.out.2.2.1 HHas.out.2.2.2
       have HIn := HHas.out
       clear el eC e0)
    | (go_at_call 88
       with_reducible refine (must_calls ((vl (fr l d).l s).k == 2) 12 _).mono ?_
       rintro e w6 ⟨hw6, ⟨hh, rfl⟩ | ⟨hh, rfl⟩⟩
       rotate_left
       · have g1 : ¬ hasS l d s = false := by rw [hasS_iff.2 HHas.out]; decide
         have g2 : ¬ tPtr t (fr l d).f s = false := by rw [HPtr.out]; decide
         have g3 : ¬ (vl (fr l d).l s).k = 2 := by simpa using hh
         subst hw6
         exact ⟨rfl, (HB3.out.step (below_alloc (Below.refl _ _) _)).below, Or.inr ⟨by rw [refE, if_neg g1, if_neg g2, if_neg g3]; decide, by rw [refE, if_neg g1, if_neg g2, if_neg g3]⟩⟩
       have HK := Aside0.mk (show (vl (fr l d).l s).k = 2 by simpa using hh)
       have HB4 := Aside0.mk (HB3.out.step (below_alloc (Below.refl _ _) (.cells #[.int .u8 (vl (fr l d).l s).k, .int .u64 (vl (fr l d).l s).b, .int .i64 (vl (fr l d).l s).d, .int .i64 (vl (fr l d).l s).s] 26)))
       have hbk := heap_alloc_new w3 (.cells #[.int .u8 (vl (fr l d).l s).k, .int .u64 (vl (fr l d).l s).b, .int .i64 (vl (fr l d).l s).d, .int .i64 (vl (fr l d).l s).s] 26)
       rw [hw6] at hbk HB4
       have x0 := (blk_cell hbk 0).trans rfl
       have x1 := (blk_cell hbk 1).trans rfl
       have x2 := (blk_cell hbk 2).trans rfl
       have x3 := (blk_cell hbk 3).trans rfl
       have z0 := (blk_cell HB4.out.val 0).trans rfl
       have z1 := (blk_cell HB4.out.val 1).trans rfl
       have z2 := (blk_cell HB4.out.val 2).trans rfl
       have z3 := (blk_cell HB4.out.val 3).trans rfl
       have y0 := blk_frozen HB4.out.val 0
       have y1 := blk_frozen HB4.out.val 1
       have y2 := blk_frozen HB4.out.val 2
       have y3 := blk_frozen HB4.out.val 3
       clear hh q1 e1 f0 f1 f2 f3 HIn hw6 hbk)
  have hfin := blk_set4 (.int .u8 (vl (fr l d).l s).k) (.int .u64 (vl (fr l d).l s).b) (.int .i64 (vl (fr l d).l s).d) (.int .i64 (vl (fr l d).l s).s) HB4.out.val
  refine ⟨rfl, _, results_c1 Tryd.results100 _ _ (w.heap.size + 1) 26 _ (0, 0) _ rfl hfin Tryd.underlying26 rfl (by kernel_rfl), below_set4 _ _ _ _ HB4.out.below (Nat.le_succ _), Or.inl ⟨?_, hasS_iff.2 HHas.out, rfl⟩⟩
  have g1 : ¬ hasS l d s = false := by rw [hasS_iff.2 HHas.out]; decide
  have g2 : ¬ tPtr t (fr l d).f s = false := by rw [HPtr.out]; decide
  rw [refE, if_neg g1, if_neg g2, if_pos HK.out]
end Go.Proofs.YtfaghjadjpiaiaaDoor.Sh
