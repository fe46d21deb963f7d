/- Contract of move.To. Contracts of the document's Great (functions) and Same (words), and of the laws' laid and awake. Contracts of the laws' laid and awake. -/
import Derived.Test.YtfaghjadjpiaiaaDoorY7
import Derived.Test.YtfaghjadjpiaiaaDoorY1
namespace Go.Proofs.YtfaghjadjpiaiaaDoor.Sh
open Go.RowKit Go.Shelf Go.Proofs.YtfaghjadjpiaiaaDoorW.PrintWords Go.Proofs.YtfaghjadjpiaiaaDoorW.PrintLast Go.Proofs.YtfaghjadjpiaiaaDoorW.PrintMore
set_option linter.unusedVariables false
set_option linter.unusedSimpArgs false
theorem C_St1 (W : World) (x : St) (t : TypeId) : kSt.C (W.alloc (.cells #[.int .i64 x.lo, .int .i64 x.size, .int .i64 x.sp] t)) (some ⟨W.heap.size, 0, none⟩) ([x] : List St).length [x] := by
  have hb := heap_alloc_new W (.cells #[.int .i64 x.lo, .int .i64 x.size, .int .i64 x.sp] t)
  refine ⟨rfl, by simp, fun _ => ⟨_, rfl, fun j p hj => ?_⟩⟩
  match j, hj with
  | 0, hj =>
    simp at hj
    subst hj
    refine ⟨_, rfl, kSt_mk _ x, fun i u hu => ?_⟩
    have e : (⟨W.heap.size, 0, none⟩ : Addr).add (0 * kSt.sz + i) = ⟨W.heap.size, i, none⟩ := by rw [Nat.zero_mul, Nat.zero_add]; exact add_plain _ _
    rw [e, blk_cell hb, ← hu]
    simp
theorem C_St2 (W : World) (x y : St) (t : TypeId) : kSt.C (W.alloc (.cells #[.int .i64 x.lo, .int .i64 x.size, .int .i64 x.sp, .int .i64 y.lo, .int .i64 y.size, .int .i64 y.sp] t)) (some ⟨W.heap.size, 0, none⟩) ([x, y] : List St).length [x, y] := by
  have hb := heap_alloc_new W (.cells #[.int .i64 x.lo, .int .i64 x.size, .int .i64 x.sp, .int .i64 y.lo, .int .i64 y.size, .int .i64 y.sp] t)
  refine ⟨rfl, by simp, fun _ => ⟨_, rfl, fun j p hj => ?_⟩⟩
  match j, hj with
  | 0, hj =>
    simp at hj
    subst hj
    refine ⟨_, rfl, kSt_mk _ x, fun i u hu => ?_⟩
    have e : (⟨W.heap.size, 0, none⟩ : Addr).add (0 * kSt.sz + i) = ⟨W.heap.size, i, none⟩ := by rw [Nat.zero_mul, Nat.zero_add]; exact add_plain _ _
    rw [e, blk_cell hb]
    match i, hu with
    | 0, hu => simpa using hu
    | 1, hu => simpa using hu
    | 2, hu => simpa using hu
  | 1, hj =>
    simp at hj
    subst hj
    refine ⟨_, rfl, kSt_mk _ y, fun i u hu => ?_⟩
    have e : (⟨W.heap.size, 0, none⟩ : Addr).add (1 * kSt.sz + i) = ⟨W.heap.size, 3 + i, none⟩ := by show (⟨W.heap.size, 0, none⟩ : Addr).add (1 * 3 + i) = _; rw [Nat.one_mul]; exact add_plain _ _
    rw [e, blk_cell hb]
    match i, hu with
    | 0, hu => simpa using hu
    | 1, hu => simpa using hu
    | 2, hu => simpa using hu
theorem framesE_zero {ws : List Int} {t : List Ent} {s : St} (hm : mayS ws.length s = true) (hf : framesE ws t s = 0) : ∃ l, walkL ws t (s.lo + s.size) s.sp = some l ∧ framesL ws t s = l.reverse := by
  unfold framesE at hf
  rw [if_pos hm] at hf
  cases ho : walkL ws t (s.lo + s.size) s.sp with
  | none => rw [ho] at hf; cases hf
  | some l => exact ⟨l, rfl, by unfold framesL; rw [if_pos hm, ho]; rfl⟩
theorem frames_mem {ws : List Int} {t : List Ent} {s : St} (hp : ∀ f, tHas t f = true → 0 ≤ tSize t f) (hm : mayS ws.length s = true) (hl : ws.length ≤ 65536) (hf : framesE ws t s = 0) : ∀ x ∈ framesL ws t s, FmAt x ∧ s.sp ≤ x.at_ ∧ x.at_ + tWords t x.fn ≤ s.lo + s.size ∧ tHas t x.fn = true ∧ x.at_ + 2 ≤ s.lo + s.size := by
  obtain ⟨l, h1, h2⟩ := framesE_zero hm hf
  obtain ⟨⟨s0, s1, s2, s3, s4, s5⟩, s6⟩ := mayS_small hm hl
  obtain ⟨_, hin, _, _⟩ := mayS_iff.1 hm
  obtain ⟨_, _, _, hin4⟩ := inB_iff.1 hin
  intro x hx
  rw [h2, List.mem_reverse] at hx
  obtain ⟨g1, g2, g3, g4⟩ := walkL_mem hp _ _ l (Nat.le_refl _) h1 x hx
  exact ⟨⟨by omega, by omega⟩, g1, g3, g4, g2⟩
theorem frames_len {ws : List Int} {t : List Ent} {s : St} (hp : ∀ f, tHas t f = true → 0 ≤ tSize t f) (hm : mayS ws.length s = true) (hl : ws.length ≤ 65536) (hf : framesE ws t s = 0) : (framesL ws t s).length ≤ 1000000 := by
  obtain ⟨l, h1, h2⟩ := framesE_zero hm hf
  obtain ⟨⟨s0, s1, s2, s3, s4, s5⟩, s6⟩ := mayS_small hm hl
  rw [h2, List.length_reverse]
  exact walkL_length hp 1000000 _ l (by omega) h1
set_option maxRecDepth 100000 in
set_option maxHeartbeats 8000000 in
theorem To_calls (a b : Nat) (ws : List Int) (wt : World) (g : Nat) (t : List Ent) (s : St) (lo size : Int) (w : World) (h : IsArena w a b ws) (hT : TabBase wt g t b w) (ht : TabFine t) (hp : ∀ f, tHas t f = true → 0 ≤ tSize t f) (hpi : ∀ f, AllI (tPtrs t f)) (hs : s.wf) (hlo : I64 lo) (hsz : I64 size) :
    Calls Tryd.prog 21 #[.pointer (some ⟨a, 0, none⟩), .pointer (some ⟨g, 0, none⟩), .agg #[.int .i64 s.lo, .int .i64 s.size, .int .i64 s.sp], .int .i64 lo, .int .i64 size] w (ToPost a b (toWs ws t s lo size) (toS ws t s lo size) (toE ws t s lo size) w) := by
  have HS := Aside0.mk (ToW.start w b s)
  have hlta := h.lta
  have hltb := h.ltb
  have hlen := h.len
  have hTs : wt.heap.size ≤ w.heap.size := hT.below.size
  have hbel : Below w.heap.size w (((w.alloc (.cells #[.int .i64 s.lo, .int .i64 s.size, .int .i64 s.sp] 44)).alloc (.cells #[.int .i64 0, .int .i64 0, .int .i64 0] 44)).alloc (.cells #[.int .i64 0] 31)) := below_alloc (below_alloc (below_alloc (Below.refl _ _) _) _) _
  have hsz3 : (((w.alloc (.cells #[.int .i64 s.lo, .int .i64 s.size, .int .i64 s.sp] 44)).alloc (.cells #[.int .i64 0, .int .i64 0, .int .i64 0] 44)).alloc (.cells #[.int .i64 0] 31)).heap.size = w.heap.size + 1 + 1 + 1 := by simp
  obtain ⟨W3, hW3⟩ : ∃ W3, W3 = (((w.alloc (.cells #[.int .i64 s.lo, .int .i64 s.size, .int .i64 s.sp] 44)).alloc (.cells #[.int .i64 0, .int .i64 0, .int .i64 0] 44)).alloc (.cells #[.int .i64 0] 31)) := ⟨_, rfl⟩
  have HWr := Aside0.mk hW3
  rw [← hW3] at hbel hsz3 HS
  have hto := heap_alloc_new W3 (.cells #[.int .i64 lo, .int .i64 size, .int .i64 lo] 44)
  have hb4 := below_alloc hbel (.cells #[.int .i64 lo, .int .i64 size, .int .i64 lo] 44)
  have hb5 := below_alloc hb4 (.cells #[.int .i64 s.lo, .int .i64 s.size, .int .i64 s.sp, .int .i64 lo, .int .i64 size, .int .i64 lo] 44)
  have hC2 := C_St2 (W3.alloc (.cells #[.int .i64 lo, .int .i64 size, .int .i64 lo] 44)) s (endS lo size) 44
  rw [show (W3.alloc (.cells #[.int .i64 lo, .int .i64 size, .int .i64 lo] 44)).heap.size = w.heap.size + 1 + 1 + 1 + 1 by simp [hsz3]] at hC2
  have hwf2 : ∀ x ∈ [s, endS lo size], x.wf := by
    intro x hx
    rcases List.mem_cons.1 hx with hx | hx
    · rw [hx]; exact hs
    · rw [List.mem_singleton.1 hx]; exact ⟨hlo, hsz, hlo⟩
  have hMay := MaySt_calls a b ws _ 2 [s, endS lo size] _ (h.below hb5) hC2 (Nat.le_refl _) hwf2
  have hT5 := hT.step (grown_of_below hb5 (some b))
  have HA5 := Aside0.mk (h.below hb5)
  have HS5 := Aside0.mk ((HS.out.stepB hltb (below_alloc (Below.refl _ _) (.cells #[.int .i64 lo, .int .i64 size, .int .i64 lo] 44))).stepB hltb (below_alloc (Below.refl _ _) (.cells #[.int .i64 s.lo, .int .i64 s.size, .int .i64 s.sp, .int .i64 lo, .int .i64 size, .int .i64 lo] 44)))
  have hbe : (!([s, endS lo size].any fun s => !mayS ws.length s)) = (mayS ws.length s && mayS ws.length (endS lo size)) := by simp
  rw [hbe] at hMay
  rw [hsz3] at hto
  have HTo5 := Aside0.mk ((⟨grown_of_below hb4 _, hto⟩ : BlkG w b (w.heap.size + 1 + 1 + 1) #[.int .i64 lo, .int .i64 size, .int .i64 lo] 44 _).step (by omega) (grown_of_below (below_alloc (Below.refl _ _) (.cells #[.int .i64 s.lo, .int .i64 s.size, .int .i64 s.sp, .int .i64 lo, .int .i64 size, .int .i64 lo] 44)) _))
  have HT5 := Aside0.mk hT5
  have HMay := Aside0.mk hMay
  have HFr := Aside0.mk (fun (W : World) (hA : IsArena W a b ws) (h' : TabBase wt g t b W) => Frames_calls a b ws g t s W hA h'.now ht hp hs)
  rw [hW3] at HMay HA5 HS5 HTo5 HT5
  clear hC2 hMay hT5 hb4 hb5 hto hbel hbe HS hT h HWr
  have hmf : ∀ (fn : Fn) (first cap : Array Value) (w : World), (Instr.makeFunc fn first cap).run Tryd.prog w = .ok (.func fn first cap) w := fun _ _ _ _ => rfl
  generalize hP : ToPost a b (toWs ws t s lo size) (toS ws t s lo size) (toE ws t s lo size) w = Post
  have HPost := Aside0.mk hP
  clear hP hsz3
  by_cases m1 : mayS ws.length s = true ∧ mayS ws.length (endS lo size) = true
  rotate_left
  · have e0 : toE ws t s lo size = 1 := if_neg m1
    have e1 : toWs ws t s lo size = ws := if_neg (by rw [e0]; decide)
    have e2 : toS ws t s lo size = zSt := if_neg (by rw [e0]; decide)
    rw [e0, e1, e2] at HPost
    have hbm : (mayS ws.length s && mayS ws.length (endS lo size)) = false := by rw [← Bool.not_eq_true, Bool.and_eq_true]; exact m1
    rw [hbm] at HMay
    clear e0 e1 e2 hbm m1 hW3
    go_enter_defers Tryd.func21, Tryd.ntmps21
    go_wp2_with first
      | (go_at_call 63
         refine HMay.out.mono ?_
         rintro e w1 ⟨rfl, hb⟩
         have HS1 := Aside0.mk (HS5.out.stepB hltb hb)
         have HA1 := Aside0.mk (HA5.out.below hb)
         clear hb)
      | (go_at_call 62
         refine (mmust_no 1 _).mono ?_
         rintro e w2 ⟨rfl, rfl⟩)
    show bodyPostD _ _ _ _ _ _
    rw [← HPost.out]
    exact to_wrong w a b ws s zSt 0 1 w1 HS1.out HA1.out hlta hltb _ rfl rfl
  have hbm : (mayS ws.length s && mayS ws.length (endS lo size)) = true := by rw [Bool.and_eq_true]; exact m1
  rw [hbm] at HMay
  by_cases f1 : framesE ws t s = 0
  rotate_left
  · have q0 : toE ws t s lo size = 9 := (if_pos m1).trans (if_neg f1)
    have q1 : toWs ws t s lo size = ws := if_neg (by rw [q0]; decide)
    have q2 : toS ws t s lo size = zSt := if_neg (by rw [q0]; decide)
    rw [q0, q1, q2] at HPost
    have hne : (framesE ws t s == 0) = false := beq_eq_false_iff_ne.2 f1
    generalize framesE ws t s = er at *
    clear q0 q1 q2 hbm m1 hW3 f1
    go_enter_defers Tryd.func21, Tryd.ntmps21
    go_wp2_with first
      | (go_at_call 62; with_reducible refine (mmust_no _ _).mono ?_; rintro e w' ⟨rfl, rfl⟩)
      | (go_at_call 62; with_reducible refine (mmust_ok _ _).mono ?_; rintro e w' ⟨rfl, rfl⟩)
      | (go_at_call 63; refine HMay.out.mono ?_; rintro e w1 ⟨rfl, hb⟩; have HS1 := Aside0.mk (HS5.out.stepB hltb hb); have HA1 := Aside0.mk (HA5.out.below hb); have HT1 := Aside0.mk (HT5.out.step (grown_of_below hb (some b))); have HTo1 := Aside0.mk (HTo5.out.step (by omega) (grown_of_below hb (some b))); have s0 := (blk_cell HS1.out.sb 0).trans rfl; have s1 := (blk_cell HS1.out.sb 1).trans rfl; have s2 := (blk_cell HS1.out.sb 2).trans rfl; clear hb)
      | (go_at_call 18; refine (HFr.out w1 HA1.out HT1.out).mono ?_; rintro e w2 ⟨A, c, rfl, hC, hc, hb, hfar⟩; have HS2 := Aside0.mk (HS1.out.stepB hltb hb); have HA2 := Aside0.mk (HA1.out.below hb); have HT2 := Aside0.mk (HT1.out.step (grown_of_below hb (some b))); have HTo2 := Aside0.mk (HTo1.out.step (by omega) (grown_of_below hb (some b))); have HC2 := Aside0.mk hC; have HCl := Aside0.mk hc; have HFar := Aside0.mk hfar; have e0 := (blk_cell HS2.out.eb 0).trans rfl; have e1 := blk_frozen HS2.out.eb 0; clear hb hC hc hfar s0 s1 s2)
    show bodyPostD _ _ _ _ _ _
    rw [← HPost.out]
    exact to_wrong w a b ws s zSt er 9 _ (HS2.out.putE er) (HA2.out.far (by simp; omega) (by simp; omega) _) hlta hltb _ rfl rfl
  rw [f1] at HFr
  have hfl := frames_mem hp m1.1 hlen f1
  have hfn := frames_len hp m1.1 hlen f1
  have hfa : ∀ x ∈ framesL ws t s, FmAt x := fun x hx => (hfl x hx).1
  have HAll := Aside0.mk (fun (W : World) (hA : IsArena W a b ws) (h' : TabBase wt g t b W) (A : Option Addr) (c : Nat) (hC : kFm.C W A (framesL ws t s).length (framesL ws t s)) (hc : (framesL ws t s).length ≤ c) => All_calls a b ws g t A c (framesL ws t s) W hA h'.now ht hC hc hfa hfn)
  by_cases g1 : allE ws t (framesL ws t s) = 0
  rotate_left
  · have q0 : toE ws t s lo size = 9 := (if_pos m1).trans ((if_pos f1).trans (if_neg g1))
    have q1 : toWs ws t s lo size = ws := if_neg (by rw [q0]; decide)
    have q2 : toS ws t s lo size = zSt := if_neg (by rw [q0]; decide)
    rw [q0, q1, q2] at HPost
    have hne : (allE ws t (framesL ws t s) == 0) = false := beq_eq_false_iff_ne.2 g1
    generalize allE ws t (framesL ws t s) = er at *
    generalize allV ws t (framesL ws t s) = av at *
    clear q0 q1 q2 hbm m1 hW3 f1 g1 hfl hfa
    go_enter_defers Tryd.func21, Tryd.ntmps21
    go_wp2_with first
      | (go_at_call 62; with_reducible refine (mmust_no _ _).mono ?_; rintro e w' ⟨rfl, rfl⟩)
      | (go_at_call 62; with_reducible refine (mmust_ok _ _).mono ?_; rintro e w' ⟨rfl, rfl⟩)
      | (go_at_call 63; refine HMay.out.mono ?_; rintro e w1 ⟨rfl, hb⟩; have HS1 := Aside0.mk (HS5.out.stepB hltb hb); have HA1 := Aside0.mk (HA5.out.below hb); have HT1 := Aside0.mk (HT5.out.step (grown_of_below hb (some b))); have HTo1 := Aside0.mk (HTo5.out.step (by omega) (grown_of_below hb (some b))); have s0 := (blk_cell HS1.out.sb 0).trans rfl; have s1 := (blk_cell HS1.out.sb 1).trans rfl; have s2 := (blk_cell HS1.out.sb 2).trans rfl; clear hb)
      | (go_at_call 18; refine (HFr.out w1 HA1.out HT1.out).mono ?_; rintro e w2 ⟨A, c, rfl, hC, hc, hb, hfar⟩; have HS2 := Aside0.mk (HS1.out.stepB hltb hb); have HA2 := Aside0.mk (HA1.out.below hb); have HT2 := Aside0.mk (HT1.out.step (grown_of_below hb (some b))); have HTo2 := Aside0.mk (HTo1.out.step (by omega) (grown_of_below hb (some b))); have HC2 := Aside0.mk hC; have HCl := Aside0.mk hc; have HFar := Aside0.mk hfar; have e0 := (blk_cell HS2.out.eb 0).trans rfl; have e1 := blk_frozen HS2.out.eb 0; have es := setCell_id HS2.out.eb (i := 0) (u := .int .i64 0) rfl; clear hb hC hc hfar s0 s1 s2)
      | (go_at_call 19; refine (HAll.out w2 HA2.out HT2.out A c HC2.out HCl.out).mono ?_; rintro e w4 ⟨A4, c4, rfl, _, _, hb⟩; have HS4 := Aside0.mk (HS2.out.stepB hltb hb); have HA4 := Aside0.mk (HA2.out.below hb); have HT4 := Aside0.mk (HT2.out.step (grown_of_below hb (some b))); have HTo4 := Aside0.mk (HTo2.out.step (by omega) (grown_of_below hb (some b))); have HC4 := Aside0.mk (Kd.C_below HC2.out hb); have e2 := (blk_cell HS4.out.eb 0).trans rfl; have e3 := blk_frozen HS4.out.eb 0; clear hb e0 e1 es)
    show bodyPostD _ _ _ _ _ _
    rw [← HPost.out]
    exact to_wrong w a b ws s zSt er 9 _ (HS4.out.putE er) (HA4.out.far (by simp; omega) (by simp; omega) _) hlta hltb _ rfl rfl
  obtain ⟨hsm, hsp⟩ := mayS_small m1.1 hlen
  obtain ⟨hsm2, hsp2⟩ := mayS_small m1.2 hlen
  have hin1 := inB_iff.1 (mayS_iff.1 m1.1).2.1
  have hin2 := inB_iff.1 (mayS_iff.1 m1.2).2.1
  obtain ⟨s0, s1, s2, s3, s4, s5⟩ := hsm
  obtain ⟨p0, p1, p2, p3, p4, p5⟩ := hsm2
  simp only [endS] at p0 p1 p2 p3 p4 p5 hin2
  obtain ⟨_, _, _, hin1⟩ := hin1
  obtain ⟨_, _, _, hin2⟩ := hin2
  have hus : usedS s = s.lo + s.size - s.sp := by
    unfold usedS plainS
    rw [if_pos (by simp only [Bool.and_eq_true, plainB_iff]; omega)]
    omega
  have HUs := Aside0.mk (fun (W : World) => Used_calls s W)
  rw [hus] at HUs
  rw [g1] at HAll
  have HFits := Aside0.mk (fun (W : World) => Fits_calls s (some ⟨W.heap.size, 0, none⟩) 1 [endS lo size] (W.alloc (.cells #[.int .i64 lo, .int .i64 size, .int .i64 lo] 44)) ⟨s0, s1, s2, s3, s4, s5⟩ (C_St1 W (endS lo size) _) (Nat.le_refl _) (fun x hx => by rw [List.mem_singleton.1 hx]; exact ⟨p0, p1, p2, p3, p4, p5⟩))
  rw [show ([endS lo size].all (apartB s)) = apartB s (endS lo size) by simp] at HFits
  by_cases u1 : s.lo + s.size - s.sp ≤ size
  rotate_left
  · have q0 : toE ws t s lo size = 2 := (if_pos m1).trans ((if_pos f1).trans ((if_pos g1).trans (if_neg (fun hh => u1 (by rw [← hus]; exact hh.1)))))
    have q1 : toWs ws t s lo size = ws := if_neg (by rw [q0]; decide)
    have q2 : toS ws t s lo size = zSt := if_neg (by rw [q0]; decide)
    rw [q0, q1, q2] at HPost
    generalize allV ws t (framesL ws t s) = av at *
    clear q0 q1 q2 hbm m1 hW3 f1 g1 hfl hfa hus
    go_enter_defers Tryd.func21, Tryd.ntmps21
    go_wp2_with first
      | (go_at_call 62; with_reducible refine (mmust_no _ _).mono ?_; rintro e w' ⟨rfl, rfl⟩)
      | (go_at_call 62; with_reducible refine (mmust_ok _ _).mono ?_; rintro e w' ⟨rfl, rfl⟩)
      | (go_at_call 63; refine HMay.out.mono ?_; rintro e w1 ⟨rfl, hb⟩; have HS1 := Aside0.mk (HS5.out.stepB hltb hb); have HA1 := Aside0.mk (HA5.out.below hb); have HT1 := Aside0.mk (HT5.out.step (grown_of_below hb (some b))); have HTo1 := Aside0.mk (HTo5.out.step (by omega) (grown_of_below hb (some b))); have s0 := (blk_cell HS1.out.sb 0).trans rfl; have s1 := (blk_cell HS1.out.sb 1).trans rfl; have s2 := (blk_cell HS1.out.sb 2).trans rfl; clear hb)
      | (go_at_call 18; refine (HFr.out w1 HA1.out HT1.out).mono ?_; rintro e w2 ⟨A, c, rfl, hC, hc, hb, hfar⟩; have HS2 := Aside0.mk (HS1.out.stepB hltb hb); have HA2 := Aside0.mk (HA1.out.below hb); have HT2 := Aside0.mk (HT1.out.step (grown_of_below hb (some b))); have HTo2 := Aside0.mk (HTo1.out.step (by omega) (grown_of_below hb (some b))); have HC2 := Aside0.mk hC; have HCl := Aside0.mk hc; have HFar := Aside0.mk hfar; have e0 := (blk_cell HS2.out.eb 0).trans rfl; have e1 := blk_frozen HS2.out.eb 0; have es := setCell_id HS2.out.eb (i := 0) (u := .int .i64 0) rfl; clear hb hC hc hfar s0 s1 s2)
      | (go_at_call 19; refine (HAll.out w2 HA2.out HT2.out A c HC2.out HCl.out).mono ?_; rintro e w4 ⟨A4, c4, rfl, _, _, hb⟩; have HS4 := Aside0.mk (HS2.out.stepB hltb hb); have HA4 := Aside0.mk (HA2.out.below hb); have HT4 := Aside0.mk (HT2.out.step (grown_of_below hb (some b))); have HTo4 := Aside0.mk (HTo2.out.step (by omega) (grown_of_below hb (some b))); have HC4 := Aside0.mk (Kd.C_below HC2.out hb); have e2 := (blk_cell HS4.out.eb 0).trans rfl; have e3 := blk_frozen HS4.out.eb 0; have es2 := setCell_id HS4.out.eb (i := 0) (u := .int .i64 0) rfl; have n0 := (blk_cell HS4.out.sb 0).trans rfl; have n1 := (blk_cell HS4.out.sb 1).trans rfl; have n2 := (blk_cell HS4.out.sb 2).trans rfl; clear hb e0 e1 es)
      | (go_at_call 24; refine (HUs.out _).mono ?_; rintro e w6 ⟨rfl, hb⟩; have HS6 := Aside0.mk (HS4.out.stepB hltb hb); have HA6 := Aside0.mk (HA4.out.below hb); have HT6 := Aside0.mk (HT4.out.step (grown_of_below hb (some b))); have HTo6 := Aside0.mk (HTo4.out.step (by omega) (grown_of_below hb (some b))); have HC6 := Aside0.mk (Kd.C_below HC4.out hb); have k0 := (blk_cell HS6.out.sb 0).trans rfl; have k1 := (blk_cell HS6.out.sb 1).trans rfl; have k2 := (blk_cell HS6.out.sb 2).trans rfl; have t0 := (blk_cell HTo6.out.blk 0).trans rfl; have t1 := (blk_cell HTo6.out.blk 1).trans rfl; have t2 := (blk_cell HTo6.out.blk 2).trans rfl; have t3 := blk_frozen HTo6.out.blk 2; clear hb e2 e3 es2 n0 n1 n2)
    show bodyPostD _ _ _ _ _ _
    rw [← HPost.out]
    exact to_wrong w a b ws s zSt 0 2 _ HS6.out HA6.out hlta hltb _ rfl rfl
  by_cases u2 : apartB s (endS lo size) = true
  rotate_left
  · have q0 : toE ws t s lo size = 2 := (if_pos m1).trans ((if_pos f1).trans ((if_pos g1).trans (if_neg (fun hh => u2 hh.2))))
    have q1 : toWs ws t s lo size = ws := if_neg (by rw [q0]; decide)
    have q2 : toS ws t s lo size = zSt := if_neg (by rw [q0]; decide)
    rw [q0, q1, q2] at HPost
    rw [show apartB s (endS lo size) = false by simpa using u2] at HFits
    generalize allV ws t (framesL ws t s) = av at *
    clear q0 q1 q2 hbm m1 hW3 f1 g1 hfl hfa hus u2
    go_enter_defers Tryd.func21, Tryd.ntmps21
    go_wp2_with first
      | (go_at_call 62; with_reducible refine (mmust_no _ _).mono ?_; rintro e w' ⟨rfl, rfl⟩)
      | (go_at_call 62; with_reducible refine (mmust_ok _ _).mono ?_; rintro e w' ⟨rfl, rfl⟩)
      | (go_at_call 63; refine HMay.out.mono ?_; rintro e w1 ⟨rfl, hb⟩; have HS1 := Aside0.mk (HS5.out.stepB hltb hb); have HA1 := Aside0.mk (HA5.out.below hb); have HT1 := Aside0.mk (HT5.out.step (grown_of_below hb (some b))); have HTo1 := Aside0.mk (HTo5.out.step (by omega) (grown_of_below hb (some b))); have s0 := (blk_cell HS1.out.sb 0).trans rfl; have s1 := (blk_cell HS1.out.sb 1).trans rfl; have s2 := (blk_cell HS1.out.sb 2).trans rfl; clear hb)
      | (go_at_call 18; refine (HFr.out w1 HA1.out HT1.out).mono ?_; rintro e w2 ⟨A, c, rfl, hC, hc, hb, hfar⟩; have HS2 := Aside0.mk (HS1.out.stepB hltb hb); have HA2 := Aside0.mk (HA1.out.below hb); have HT2 := Aside0.mk (HT1.out.step (grown_of_below hb (some b))); have HTo2 := Aside0.mk (HTo1.out.step (by omega) (grown_of_below hb (some b))); have HC2 := Aside0.mk hC; have HCl := Aside0.mk hc; have HFar := Aside0.mk hfar; have e0 := (blk_cell HS2.out.eb 0).trans rfl; have e1 := blk_frozen HS2.out.eb 0; have es := setCell_id HS2.out.eb (i := 0) (u := .int .i64 0) rfl; clear hb hC hc hfar s0 s1 s2)
      | (go_at_call 19; refine (HAll.out w2 HA2.out HT2.out A c HC2.out HCl.out).mono ?_; rintro e w4 ⟨A4, c4, rfl, _, _, hb⟩; have HS4 := Aside0.mk (HS2.out.stepB hltb hb); have HA4 := Aside0.mk (HA2.out.below hb); have HT4 := Aside0.mk (HT2.out.step (grown_of_below hb (some b))); have HTo4 := Aside0.mk (HTo2.out.step (by omega) (grown_of_below hb (some b))); have HC4 := Aside0.mk (Kd.C_below HC2.out hb); have e2 := (blk_cell HS4.out.eb 0).trans rfl; have e3 := blk_frozen HS4.out.eb 0; have es2 := setCell_id HS4.out.eb (i := 0) (u := .int .i64 0) rfl; have n0 := (blk_cell HS4.out.sb 0).trans rfl; have n1 := (blk_cell HS4.out.sb 1).trans rfl; have n2 := (blk_cell HS4.out.sb 2).trans rfl; clear hb e0 e1 es)
      | (go_at_call 24; refine (HUs.out _).mono ?_; rintro e w6 ⟨rfl, hb⟩; have HS6 := Aside0.mk (HS4.out.stepB hltb hb); have HA6 := Aside0.mk (HA4.out.below hb); have HT6 := Aside0.mk (HT4.out.step (grown_of_below hb (some b))); have HTo6 := Aside0.mk (HTo4.out.step (by omega) (grown_of_below hb (some b))); have HC6 := Aside0.mk (Kd.C_below HC4.out hb); have k0 := (blk_cell HS6.out.sb 0).trans rfl; have k1 := (blk_cell HS6.out.sb 1).trans rfl; have k2 := (blk_cell HS6.out.sb 2).trans rfl; have t0 := (blk_cell HTo6.out.blk 0).trans rfl; have t1 := (blk_cell HTo6.out.blk 1).trans rfl; have t2 := (blk_cell HTo6.out.blk 2).trans rfl; have t3 := blk_frozen HTo6.out.blk 2; clear hb e2 e3 es2 n0 n1 n2)
      | (go_at_call 50; refine (HFits.out w6).mono ?_; rintro e w7 ⟨rfl, hb0⟩; have hb := below_then (below_alloc (Below.refl _ w6) (.cells #[.int .i64 lo, .int .i64 size, .int .i64 lo] 44)) (by simp) hb0; have HS7 := Aside0.mk (HS6.out.stepB hltb hb); have HA7 := Aside0.mk (HA6.out.below hb); have HT7 := Aside0.mk (HT6.out.step (grown_of_below hb (some b))); have HTo7 := Aside0.mk (HTo6.out.step (by omega) (grown_of_below hb (some b))); have HC7 := Aside0.mk (Kd.C_below HC6.out hb); have i0 := (blk_cell HS7.out.sb 0).trans rfl; have i1 := (blk_cell HS7.out.sb 1).trans rfl; have i2 := (blk_cell HS7.out.sb 2).trans rfl; have j0 := (blk_cell HTo7.out.blk 0).trans rfl; have j1 := (blk_cell HTo7.out.blk 1).trans rfl; have j2 := (blk_cell HTo7.out.blk 2).trans rfl; have j3 := blk_frozen HTo7.out.blk 2; clear hb hb0 k0 k1 k2 t0 t1 t2 t3)
    show bodyPostD _ _ _ _ _ _
    rw [← HPost.out]
    exact to_wrong w a b ws s zSt 0 2 _ HS7.out HA7.out hlta hltb _ rfl rfl
  have q0 : toE ws t s lo size = 0 := (if_pos m1).trans ((if_pos f1).trans ((if_pos g1).trans (if_pos ⟨by rw [hus]; exact u1, u2⟩)))
  have q1 : toWs ws t s lo size = upL t (toBy s lo size) (moveW ws (lo + size - usedS s) s.sp (usedS s)) (framesL ws t s) := if_pos q0
  have q2 : toS ws t s lo size = ⟨lo, size, lo + size - usedS s⟩ := if_pos q0
  rw [q0, q1, q2, hus] at HPost
  rw [u2] at HFits
  have hx2 : ∀ x ∈ framesL ws t s, 0 ≤ x.at_ + toBy s lo size ∧ x.at_ + toBy s lo size ≤ 65536 := by
    intro x hx
    obtain ⟨⟨y0, y1⟩, y2, y3, _, y5⟩ := hfl x hx
    unfold toBy
    omega
  have hby : -65536 ≤ toBy s lo size ∧ toBy s lo size ≤ 65536 := by unfold toBy; omega
  have hbe : lo + size - s.lo - s.size = toBy s lo size := rfl
  have HBy := Aside0.mk (fun (W : World) => By_calls s lo size W ⟨s0, s1, s2, s3, s4, s5⟩ ⟨p0, p1⟩ ⟨p2, p3⟩)
  have HMv := Aside0.mk (fun (W : World) (hA : IsArena W a b ws) => Move_calls a b ws (lo + size - (s.lo + s.size - s.sp)) s.sp (s.lo + s.size - s.sp) W hA (by constructor <;> omega) (by constructor <;> omega) (by constructor <;> omega))
  have HXs := Aside0.mk (fun x hx => And.intro (hfa x hx) (hx2 x hx))
  have hwt := hTs
  generalize allV ws t (framesL ws t s) = av at *
  generalize moveW ws (lo + size - (s.lo + s.size - s.sp)) s.sp (s.lo + s.size - s.sp) = wm at *
  generalize moveE ws (lo + size - (s.lo + s.size - s.sp)) s.sp (s.lo + s.size - s.sp) = em at *
  rw [hbe] at HBy
  generalize toBy s lo size = by_ at *
  generalize hL : framesL ws t s = L at *
  clear q0 q1 q2 hbm m1 hW3 f1 g1 hfl hfa hus u2 hx2 hL hbe
  go_enter_defers Tryd.func21, Tryd.ntmps21
  go_wp2_with first
    | (go_at_call 62; with_reducible refine (mmust_ok _ _).mono ?_; rintro e w' ⟨rfl, rfl⟩)
    | (go_at_call 63; refine HMay.out.mono ?_; rintro e w1 ⟨rfl, hb⟩; have HS1 := Aside0.mk (HS5.out.stepB hltb hb); have HA1 := Aside0.mk (HA5.out.below hb); have HT1 := Aside0.mk (HT5.out.step (grown_of_below hb (some b))); have HTo1 := Aside0.mk (HTo5.out.step (by omega) (grown_of_below hb (some b))); have s0 := (blk_cell HS1.out.sb 0).trans rfl; have s1 := (blk_cell HS1.out.sb 1).trans rfl; have s2 := (blk_cell HS1.out.sb 2).trans rfl; clear hb)
    | (go_at_call 18; refine (HFr.out w1 HA1.out HT1.out).mono ?_; rintro e w2 ⟨A, c, rfl, hC, hc, hb, hfar⟩; have HS2 := Aside0.mk (HS1.out.stepB hltb hb); have HA2 := Aside0.mk (HA1.out.below hb); have HT2 := Aside0.mk (HT1.out.step (grown_of_below hb (some b))); have HTo2 := Aside0.mk (HTo1.out.step (by omega) (grown_of_below hb (some b))); have HC2 := Aside0.mk hC; have HCl := Aside0.mk hc; have HFar := Aside0.mk hfar; have e0 := (blk_cell HS2.out.eb 0).trans rfl; have e1 := blk_frozen HS2.out.eb 0; have es := setCell_id HS2.out.eb (i := 0) (u := .int .i64 0) rfl; clear hb hC hc hfar s0 s1 s2)
    | (go_at_call 19; refine (HAll.out w2 HA2.out HT2.out A c HC2.out HCl.out).mono ?_; rintro e w4 ⟨A4, c4, rfl, _, _, hb⟩; have HS4 := Aside0.mk (HS2.out.stepB hltb hb); have HA4 := Aside0.mk (HA2.out.below hb); have HT4 := Aside0.mk (HT2.out.step (grown_of_below hb (some b))); have HTo4 := Aside0.mk (HTo2.out.step (by omega) (grown_of_below hb (some b))); have HC4 := Aside0.mk (Kd.C_below HC2.out hb); have e2 := (blk_cell HS4.out.eb 0).trans rfl; have e3 := blk_frozen HS4.out.eb 0; have es2 := setCell_id HS4.out.eb (i := 0) (u := .int .i64 0) rfl; have n0 := (blk_cell HS4.out.sb 0).trans rfl; have n1 := (blk_cell HS4.out.sb 1).trans rfl; have n2 := (blk_cell HS4.out.sb 2).trans rfl; clear hb e0 e1 es)
    | (go_at_call 24; refine (HUs.out _).mono ?_; rintro e w6 ⟨rfl, hb⟩; have HS6 := Aside0.mk (HS4.out.stepB hltb hb); have HA6 := Aside0.mk (HA4.out.below hb); have HT6 := Aside0.mk (HT4.out.step (grown_of_below hb (some b))); have HTo6 := Aside0.mk (HTo4.out.step (by omega) (grown_of_below hb (some b))); have HC6 := Aside0.mk (Kd.C_below HC4.out hb); have k0 := (blk_cell HS6.out.sb 0).trans rfl; have k1 := (blk_cell HS6.out.sb 1).trans rfl; have k2 := (blk_cell HS6.out.sb 2).trans rfl; have t0 := (blk_cell HTo6.out.blk 0).trans rfl; have t1 := (blk_cell HTo6.out.blk 1).trans rfl; have t2 := (blk_cell HTo6.out.blk 2).trans rfl; have t3 := blk_frozen HTo6.out.blk 2; clear hb e2 e3 es2 n0 n1 n2)
    | (go_at_call 50; refine (HFits.out w6).mono ?_; rintro e w7 ⟨rfl, hb0⟩; have hb := below_then (below_alloc (Below.refl _ w6) (.cells #[.int .i64 lo, .int .i64 size, .int .i64 lo] 44)) (by simp) hb0; have HS7 := Aside0.mk (HS6.out.stepB hltb hb); have HA7 := Aside0.mk (HA6.out.below hb); have HT7 := Aside0.mk (HT6.out.step (grown_of_below hb (some b))); have HTo7 := Aside0.mk (HTo6.out.step (by omega) (grown_of_below hb (some b))); have HC7 := Aside0.mk (Kd.C_below HC6.out hb); have i0 := (blk_cell HS7.out.sb 0).trans rfl; have i1 := (blk_cell HS7.out.sb 1).trans rfl; have i2 := (blk_cell HS7.out.sb 2).trans rfl; have j0 := (blk_cell HTo7.out.blk 0).trans rfl; have j1 := (blk_cell HTo7.out.blk 1).trans rfl; have j2 := (blk_cell HTo7.out.blk 2).trans rfl; have j3 := blk_frozen HTo7.out.blk 2; clear hb hb0 k0 k1 k2 t0 t1 t2 t3)
  have hA8 := HA7.out.far (p := ⟨w.heap.size + 1 + 1 + 1, 2, none⟩) (by simp; omega) (by simp; omega) (.int .i64 (lo + size - (s.lo + s.size - s.sp)))
  have hg8 := grown_setCell w7 (w.heap.size + 1 + 1 + 1) 2 (.int .i64 (lo + size - (s.lo + s.size - s.sp)))
  have hC8 := C_move_Fm HC7.out hg8 (HFar.out.imp id (fun ⟨gg, h1, h2⟩ => ⟨gg, h1, by have := blk_lt HTo1.out.blk; omega⟩))
  refine (HMv.out _ hA8).mono ?_
  rintro e w8 ⟨rfl, hA, hg⟩
  have HA8 := Aside0.mk hA
  have HS8 := Aside0.mk ((HS7.out.far (p := ⟨w.heap.size + 1 + 1 + 1, 2, none⟩) (by simp) (.int .i64 (lo + size - (s.lo + s.size - s.sp)))).step hltb hg)
  have HT8 := Aside0.mk ((HT7.out.put ⟨w.heap.size + 1 + 1 + 1, 2, none⟩ (by show wt.heap.size ≤ w.heap.size + 1 + 1 + 1; omega) (.int .i64 (lo + size - (s.lo + s.size - s.sp)))).step hg)
  have HTo8 := Aside0.mk ((HTo7.out.put (by omega) 2 (.int .i64 (lo + size - (s.lo + s.size - s.sp)))).step (by omega) hg)
  have HC8 := Aside0.mk (C_far_Fm hA8 hC8 hg)
  have l0 := (blk_cell HS8.out.sb 0).trans rfl
  have l1 := (blk_cell HS8.out.sb 1).trans rfl
  have l2 := (blk_cell HS8.out.sb 2).trans rfl
  clear hA8 hg8 hC8 hA hg i0 i1 i2 j0 j1 j2 j3
  go_wp2_with fail
  refine (HBy.out w8).mono ?_
  rintro e w9 ⟨rfl, hb⟩
  have HS9 := Aside0.mk (HS8.out.stepB hltb hb)
  have HA9 := Aside0.mk (HA8.out.below hb)
  have HT9 := Aside0.mk (HT8.out.step (grown_of_below hb (some b)))
  have HTo9 := Aside0.mk (HTo8.out.step (by omega) (grown_of_below hb (some b)))
  have HC9 := Aside0.mk (Kd.C_below HC8.out hb)
  clear hb l0 l1 l2
  clear HS1 HA1 HT1 HTo1 HS2 HA2 HT2 HTo2 HC2 HS4 HA4 HT4 HTo4 HC4 HS6 HA6 HT6 HTo6 HC6 HS7 HA7 HT7 HTo7 HC7 HS8 HA8 HT8 HTo8 HC8 HFits HUs HAll HMay HFr HBy HMv
  go_wp2_with fail
  have HTo9 : Aside0 (BlkG w b (w.heap.size + 1 + 1 + 1) #[.int .i64 lo, .int .i64 size, .int .i64 (lo + size - (s.lo + s.size - s.sp))] 44 w9) := HTo9
  have hb := below_alloc (Below.refl _ w9) (.cells #[.pointer (some ⟨a, 0, none⟩), .pointer (some ⟨g, 0, none⟩), .int .i64 by_] 125)
  have HS10 := Aside0.mk (HS9.out.stepB hltb hb)
  have HA10 := Aside0.mk (HA9.out.below hb)
  have HT10 := Aside0.mk (HT9.out.step (grown_of_below hb (some b)))
  have HTo10 := Aside0.mk (HTo9.out.step (by omega) (grown_of_below hb (some b)))
  have HC10 := Aside0.mk (Kd.C_below HC9.out hb)
  have HMo : Aside0 (BlkG w b w9.heap.size #[.pointer (some ⟨a, 0, none⟩), .pointer (some ⟨g, 0, none⟩), .int .i64 by_] 125 _) := ⟨⟨HS10.out.grown, heap_alloc_new w9 _⟩⟩
  have hq9 : w.heap.size ≤ w9.heap.size := HS9.out.grown.size
  generalize w9.alloc (.cells #[.pointer (some ⟨a, 0, none⟩), .pointer (some ⟨g, 0, none⟩), .int .i64 by_] 125) = w10 at *
  generalize w9.heap.size = q at *
  obtain ⟨b0, b1⟩ := hby
  clear HS9 HA9 HT9 HTo9 HC9 hb
  have hLi : (L.length : Int) ≤ 9223372036854775807 := by omega
  go_loopw [83] (fun i wr => ∃ k : Nat, k ≤ L.length ∧ i = .int .i64 k ∧ Aside0 (IsArena wr a b (upL t by_ wm (L.take k))) ∧ Aside0 (ToW w b s zSt 0 wr) ∧ Aside0 (TabBase wt g t b wr) ∧ Aside0 (BlkG w b (w.heap.size + 1 + 1 + 1) #[.int .i64 lo, .int .i64 size, .int .i64 (lo + size - (s.lo + s.size - s.sp))] 44 wr) ∧ Aside0 (BlkG w b q #[.pointer (some ⟨a, 0, none⟩), .pointer (some ⟨g, 0, none⟩), .int .i64 by_] 125 wr) ∧ Aside0 (kFm.C wr A L.length L)) (fun i _ => L.length - (intOf i).toNat)
  case atStart => exact ⟨0, Nat.zero_le _, rfl, ⟨by rw [List.take_zero]; exact HA10.out⟩, HS10, HT10, HTo10, HMo, HC10⟩
  case round =>
    obtain ⟨k, hk, rfl, HAr, HSr, HTr, HTor, HMr, HCr⟩ := hrel
    by_cases hlt : k < L.length
    · obtain ⟨ad, rfl, k0, k1, k2⟩ := at_Fm HCr.out (k : Int) (by omega) (by omega)
      simp only [Int.toNat_natCast] at k0 k1 k2
      have hxs := HXs.out _ (fm_mem (l := L) (i := (k : Int)) (by omega) (by omega))
      have hup : upL t by_ wm (L.take (k + 1)) = frameW (upL t by_ wm (L.take k)) t by_ (fm L k) (tPtrs t (fm L k).fn).length := by
        have e : L[k]? = some (fm L k) := by simp [fm, List.getElem?_eq_getElem hlt]
        unfold upL
        rw [take_get e, List.foldl_append]
        rfl
      have HUp := Aside0.mk hup
      generalize fm L k = x at *
      have hb := below_alloc (Below.refl _ wr) (.cells #[.int .i64 x.at_, .int .i64 x.fn, .int .i64 x.link] 61)
      have HFc := Aside0.mk (frame_calls a b _ wt g t by_ x _ (HAr.out.below hb) (HTr.out.step (grown_of_below hb (some b))) ht hpi ⟨b0, b1⟩ hxs.1 hxs.2)
      have HG1 := Aside0.mk (grown_of_below hb (some b))
      have HC1 := Aside0.mk (Kd.C_below HCr.out hb)
      have HA1' := Aside0.mk (HAr.out.below hb)
      have hqr : q < wr.heap.size := blk_lt HMr.out.blk
      have hm1 := blk_alloc HMr.out.blk (.cells #[.int .i64 x.at_, .int .i64 x.fn, .int .i64 x.link] 61)
      have m0 := (blk_cell hm1 0).trans rfl
      have m1 := (blk_cell hm1 1).trans rfl
      have m2 := (blk_cell hm1 2).trans rfl
      generalize upL t by_ wm (L.take k) = wk at *
      clear hup hxs hb hm1
      go_wp2_with (go_at_call 65
                   refine HFc.out.mono ?_
                   rintro e w12 ⟨rfl, hA, hg⟩
                   have hg2 := HG1.out.trans hg
                   have HA12 := Aside0.mk hA
                   have HS12 := Aside0.mk (HSr.out.step hltb hg2)
                   have HT12 := Aside0.mk (HTr.out.step hg2)
                   have HTo12 := Aside0.mk (HTor.out.step (by omega) hg2)
                   have HM12 := Aside0.mk (HMr.out.step (by omega) hg2)
                   have HC12 := Aside0.mk (C_far_Fm HA1'.out HC1.out hg)
                   clear hA hg hg2 m0 m1 m2 k0 k1 k2)
      go_roundw
      case rel => exact ⟨k + 1, by omega, by go_num, ⟨by rw [HUp.out]; exact HA12.out⟩, HS12, HT12, HTo12, HM12, HC12⟩
      case measure => simp [intOf]; omega
    · have HAe : Aside0 (IsArena wr a b (upL t by_ wm L)) := ⟨by have := HAr.out; rwa [List.take_of_length_le (by omega)] at this⟩
      have c0 := (blk_cell HTor.out.blk 0).trans rfl
      have c1 := (blk_cell HTor.out.blk 1).trans rfl
      have c2 := (blk_cell HTor.out.blk 2).trans rfl
      have o0 := (blk_cell HSr.out.ob 0).trans rfl
      have o1 := (blk_cell HSr.out.ob 1).trans rfl
      have o2 := (blk_cell HSr.out.ob 2).trans rfl
      have z0 := blk_frozen HSr.out.ob 0
      have z1 := blk_frozen HSr.out.ob 1
      have z2 := blk_frozen HSr.out.ob 2
      have e0 := (blk_cell HSr.out.eb 0).trans rfl
      have e1 := blk_frozen HSr.out.eb 0
      go_wp2
      show bodyPostD _ _ _ _ _ _
      rw [← HPost.out]
      have hF := (HSr.out.putO ⟨lo, size, lo + size - (s.lo + s.size - s.sp)⟩).putE 0
      refine to_fine w a b _ s _ _ hF ?_ _ rfl rfl
      exact (((HAe.out.far (by simp; omega) (by simp; omega) _).far (by simp; omega) (by simp; omega) _).far (by simp; omega) (by simp; omega) _).far (by simp; omega) (by simp; omega) _
end Go.Proofs.YtfaghjadjpiaiaaDoor.Sh
namespace Go.Proofs.YtfaghjadjpiaiaaDoor.Sh
open Go.RowKit Go.Shelf Go.Proofs.YtfaghjadjpiaiaaDoorW.PrintWords Go.Proofs.YtfaghjadjpiaiaaDoorW.PrintLast Go.Proofs.YtfaghjadjpiaiaaDoorW.PrintMore
set_option linter.unusedVariables false
set_option linter.unusedSimpArgs false
/-- More than 120 functions, or bitmaps of 40 words? -/
def greatF (l : List Fn0) : Bool := decide (120 < l.length) || l.any fun f => decide (40 < f.bits.length)
set_option maxRecDepth 100000 in
set_option maxHeartbeats 2000000 in
theorem GreatF_calls (A : Option Addr) (c : Nat) (l : List Fn0) (w : World) (hr : kFn.C w A l.length l) (hc : l.length ≤ c) :
    Calls Tryd.prog 10 #[.slice A l.length c] w fun e w' => e = .returned (.bool (greatF l)) ∧ Below w.heap.size w w' := by
  have hm : (l.length : Int) ≤ 9223372036854775807 := by have := hr.2.1; omega
  have HR := Aside0.mk hr
  generalize hP : (fun (e : Ending) (w' : World) => e = .returned (.bool (greatF l)) ∧ Below w.heap.size w w') = Post
  have HPost := Aside0.mk hP
  clear hP hr
  by_cases hg : (l.length : Int) > 120
  · have e : greatF l = true := by unfold greatF; rw [decide_eq_true (by omega)]; rfl
    rw [e] at HPost
    go_enter Tryd.func10, Tryd.ntmps10
    go_wp2
    rw [← HPost.out]
    exact ⟨rfl, Below.refl _ _⟩
  have e : greatF l = l.any fun f => decide (40 < f.bits.length) := by unfold greatF; rw [decide_eq_false (by omega)]; rfl
  rw [e] at HPost
  clear e
  go_enter Tryd.func10, Tryd.ntmps10
  go_wp2
  go_loopw [9] (fun i wr => ∃ k : Nat, k ≤ l.length ∧ i = .int .i64 k ∧ w = wr ∧ Aside0 (((l.any fun f => decide (40 < f.bits.length)) = (l.drop k).any fun f => decide (40 < f.bits.length)) : Prop)) (fun i _ => l.length - (intOf i).toNat)
  case atStart => exact ⟨0, Nat.zero_le _, rfl, rfl, ⟨rfl⟩⟩
  case round =>
    obtain ⟨k, hk, rfl, rfl, HE⟩ := hrel
    by_cases hlt : k < l.length
    · obtain ⟨ad, x, A1, c1, rfl, hx, hxk, k0, k1, hbits⟩ := at_Fn HR.out (k : Int) (by omega) (by omega)
      simp only [Int.toNat_natCast] at k0 k1 hxk
      have hd : l.drop k = x :: l.drop (k + 1) := by
        rw [List.drop_eq_getElem_cons hlt]
        congr 1
        rw [List.getElem?_eq_getElem hlt] at hxk
        exact Option.some.inj hxk
      have HE2 : Aside0 ((l.any fun f => decide (40 < f.bits.length)) = (decide (40 < x.bits.length) || (l.drop (k + 1)).any fun f => decide (40 < f.bits.length))) := ⟨by rw [HE.out, hd]; rfl⟩
      have hm1 : (x.bits.length : Int) ≤ 9223372036854775807 := by have := hbits.2.2.1; omega
      clear HE hd hxk hx hbits
      by_cases h4 : (x.bits.length : Int) > 40
      · go_wp2
        rw [← HPost.out, HE2.out, decide_eq_true (by omega)]
        exact ⟨rfl, Below.refl _ _⟩
      · have HE3 : Aside0 ((l.any fun f => decide (40 < f.bits.length)) = (l.drop (k + 1)).any fun f => decide (40 < f.bits.length)) := ⟨by rw [HE2.out, decide_eq_false (by omega)]; rfl⟩
        clear HE2
        go_wp2
        go_roundw
        case rel => exact ⟨k + 1, by omega, by go_num, (by first | rfl | trivial), HE3⟩
        case measure => simp [intOf]; omega
    · have HE2 : Aside0 ((l.any fun f => decide (40 < f.bits.length)) = false) := ⟨by rw [HE.out, List.drop_eq_nil_of_le (by omega)]; rfl⟩
      go_wp2
      rw [← HPost.out, HE2.out]
      exact ⟨rfl, Below.refl _ _⟩
theorem drop_eq_step {l m : List Int} {k : Nat} (h : l.length = m.length) (hlt : k < l.length) : l.drop k = m.drop k ↔ rd l k = rd m k ∧ l.drop (k + 1) = m.drop (k + 1) := by
  rw [List.drop_eq_getElem_cons hlt, List.drop_eq_getElem_cons (by omega : k < m.length), List.cons.injEq]
  have e1 : rd l k = l[k] := by simp [rd, List.getElem?_eq_getElem hlt]
  have e2 : rd m k = m[k]'(by omega) := by simp [rd, List.getElem?_eq_getElem (show k < m.length by omega)]
  rw [e1, e2]
set_option maxRecDepth 100000 in
set_option maxHeartbeats 2000000 in
theorem SameW_calls (A B : Option Addr) (c e : Nat) (l m : List Int) (w : World) (hr : (Kd.int .u64).C w A l.length l) (hc : l.length ≤ c) (hs : (Kd.int .u64).C w B m.length m) (he : m.length ≤ e) :
    Calls Tryd.prog 23 #[.slice A l.length c, .slice B m.length e] w fun e w' => e = .returned (.bool (decide (l = m))) ∧ Below w.heap.size w w' := by
  have hm : (l.length : Int) ≤ 9223372036854775807 := by have := hr.2.1; omega
  have hm2 : (m.length : Int) ≤ 9223372036854775807 := by have := hs.2.1; omega
  have HR := Aside0.mk hr
  have HS := Aside0.mk hs
  generalize hP : (fun (e : Ending) (w' : World) => e = .returned (.bool (decide (l = m))) ∧ Below w.heap.size w w') = Post
  have HPost := Aside0.mk hP
  clear hP hr hs
  by_cases hg : (l.length : Int) ≠ (m.length : Int)
  · have e : decide (l = m) = false := decide_eq_false (fun hh => hg (by rw [hh]))
    rw [e] at HPost
    go_enter Tryd.func23, Tryd.ntmps23
    go_wp2
    rw [← HPost.out]
    exact ⟨rfl, Below.refl _ _⟩
  have hlen : l.length = m.length := by omega
  go_enter Tryd.func23, Tryd.ntmps23
  go_wp2
  go_loopw [13] (fun i wr => ∃ k : Nat, k ≤ l.length ∧ i = .int .i64 k ∧ Aside0 (Below w.heap.size w wr) ∧ Aside0 (l = m ↔ l.drop k = m.drop k)) (fun i _ => l.length - (intOf i).toNat)
  case atStart => exact ⟨0, Nat.zero_le _, rfl, ⟨Below.refl _ _⟩, ⟨by simp⟩⟩
  case round =>
    obtain ⟨k, hk, rfl, HB, HE⟩ := hrel
    by_cases hlt : k < l.length
    · obtain ⟨ad, rfl, k0⟩ := Kd.at_int (Kd.C_below HR.out HB.out) (k : Int) (by omega) (by omega)
      obtain ⟨ad2, rfl, k1⟩ := Kd.at_int (Kd.C_below HS.out HB.out) (k : Int) (by omega) (by omega)
      simp only [Int.toNat_natCast] at k0 k1
      have HE2 : Aside0 (l = m ↔ rd l k = rd m k ∧ l.drop (k + 1) = m.drop (k + 1)) := ⟨by rw [← drop_eq_step hlen hlt]; exact HE.out⟩
      clear HE
      generalize rd l k = x at *
      generalize rd m k = y at *
      by_cases h4 : x = y
      · have HE3 : Aside0 (l = m ↔ l.drop (k + 1) = m.drop (k + 1)) := ⟨by rw [HE2.out]; exact ⟨fun hh => hh.2, fun hh => ⟨h4, hh⟩⟩⟩
        clear HE2
        go_wp2_with fail
        go_region
        go_wp2
        go_roundw
        case rel => exact ⟨k + 1, by omega, by go_num, ⟨below_drew HB.out⟩, HE3⟩
        case measure => simp [intOf]; omega
      · have e : decide (l = m) = false := decide_eq_false (fun hh => h4 (HE2.out.1 hh).1)
        rw [e] at HPost
        clear HE2
        go_wp2_with fail
        go_region
        go_wp2
        rw [← HPost.out]
        exact ⟨rfl, below_drew HB.out⟩
    · have e : decide (l = m) = true := decide_eq_true (HE.out.2 (by rw [List.drop_eq_nil_of_le (by omega), List.drop_eq_nil_of_le (by omega)]))
      rw [e] at HPost
      go_wp2
      rw [← HPost.out]
      exact ⟨rfl, HB.out⟩
end Go.Proofs.YtfaghjadjpiaiaaDoor.Sh
namespace Go.Proofs.YtfaghjadjpiaiaaDoor.Sh
open Go.RowKit Go.Shelf Go.Proofs.YtfaghjadjpiaiaaDoorW.PrintWords Go.Proofs.YtfaghjadjpiaiaaDoorW.PrintLast Go.Proofs.YtfaghjadjpiaiaaDoorW.PrintMore
set_option linter.unusedVariables false
set_option linter.unusedSimpArgs false
/-- The arena of a law: 256 words, the first as told. -/
def laidW (xs : List Int) : List Int := storeW (List.replicate 256 0) 0 xs
theorem laidW_length (xs : List Int) : (laidW xs).length = 256 := by
  unfold laidW
  rw [store_length, List.length_replicate]
def LaidPost (xs : List Int) (w : World) (e : Ending) (w' : World) : Prop :=
  e = .returned (.pointer (some ⟨w.heap.size + 1, 0, none⟩)) ∧ IsArena w' (w.heap.size + 1) w.heap.size (laidW xs) ∧ Below w.heap.size w w'
set_option maxRecDepth 100000 in
set_option maxHeartbeats 2000000 in
theorem laid_calls (A : Option Addr) (c : Nat) (xs : List Int) (w : World) (hr : (Kd.int .u64).C w A xs.length xs) (hc : xs.length ≤ c) (hx : AllU xs) (hl : xs.length ≤ 256) :
    Calls Tryd.prog 17 #[.slice A xs.length c] w (LaidPost xs w) := by
  have HN := Aside0.mk (New_calls 4 w (by omega) (by omega))
  have HSt := Aside0.mk (fun (w1 : World) (hA : IsArena w1 (w.heap.size + 1) w.heap.size (List.replicate 256 0)) (hb : Below w.heap.size w w1) =>
    Store_calls (w.heap.size + 1) w.heap.size (List.replicate 256 0) 0 A c xs w1 hA (by constructor <;> decide) (Kd.C_below hr hb) hc hx)
  have he : storeE (List.replicate 256 0) 0 xs.length = 0 := by
    unfold storeE
    rw [if_pos (inB_iff.2 (by rw [List.length_replicate]; omega))]
  rw [he] at HSt
  generalize hP : LaidPost xs w = Post
  have HPost := Aside0.mk hP
  clear hP hr hx he
  go_enter Tryd.func17, Tryd.ntmps17
  go_wp2_with first
    | (go_at_call 51; refine HN.out.mono ?_; rintro e w1 ⟨rfl, hA, hb⟩; have HA := Aside0.mk hA; have HB := Aside0.mk hb; clear hA hb)
    | (go_at_call 52; refine (HSt.out w1 HA.out HB.out).mono ?_; rintro e w2 ⟨rfl, hA2, hg⟩; have HA2 := Aside0.mk hA2; have HG := Aside0.mk hg; clear hA2 hg)
  rw [← HPost.out]
  refine ⟨rfl, HA2.out, pw_below_grown HB.out (some w.heap.size) HB.out.size HG.out (fun k hk => by injection hk with hk; omega)⟩
set_option maxRecDepth 100000 in
set_option maxHeartbeats 2000000 in
theorem awake_calls (w : World) :
    Calls Tryd.prog 16 #[] w fun e w' => e = .returned (.bool true) ∧ Below w.heap.size w w' := by
  have hs0 : (⟨0, 16, 16⟩ : St).small := by unfold St.small; simp only []; omega
  have HBy := Aside0.mk (By_calls ⟨0, 16, 16⟩ 32 32 w hs0 (by omega) (by omega))
  have hs1 : (⟨0, 16, 0⟩ : St).small := by unfold St.small; simp only []; omega
  have hs2 : (⟨16, 16, 0⟩ : St).small := by unfold St.small; simp only []; omega
  have HF := Aside0.mk (fun (w1 : World) => Fits_calls ⟨0, 16, 0⟩ (some ⟨w1.heap.size, 0, none⟩) 1 [⟨16, 16, 0⟩] (w1.alloc (.cells #[.int .i64 16, .int .i64 16, .int .i64 0] 44)) hs1 (C_St1 w1 ⟨16, 16, 0⟩ _) (Nat.le_refl _) (by intro x hx; simp at hx; subst hx; exact hs2))
  clear hs0 hs1 hs2
  generalize hP : (fun (e : Ending) (w' : World) => e = .returned (.bool true) ∧ Below w.heap.size w w') = Post
  have HPost := Aside0.mk hP
  clear hP
  go_enter Tryd.func16, Tryd.ntmps16
  go_wp2_with first
    | (go_at_call 49; refine HBy.out.mono ?_; rintro e w1 ⟨rfl, hb⟩; have HB := Aside0.mk hb; clear hb)
    | (go_at_call 50; refine (HF.out w1).mono ?_; rintro e w2 ⟨rfl, hb2⟩; have HB2 := Aside0.mk hb2; clear hb2)
  rw [← HPost.out]
  refine ⟨rfl, below_then HB.out HB.out.size (below_then (below_alloc (Below.refl _ _) _) (by simp) HB2.out)⟩
end Go.Proofs.YtfaghjadjpiaiaaDoor.Sh
