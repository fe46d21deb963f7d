/- Contract of Row, with a row that is new. The law MoveBack, walked. -/
import Derived.Test.YtfaghjadjpiaiaaDoorYA
namespace Go.Proofs.YtfaghjadjpiaiaaDoor.Sh
open Go.RowKit Go.Shelf Go.Proofs.YtfaghjadjpiaiaaDoorW.PrintWords Go.Proofs.YtfaghjadjpiaiaaDoorW.PrintLast Go.Proofs.YtfaghjadjpiaiaaDoorW.PrintMore
set_option linter.unusedVariables false
set_option linter.unusedSimpArgs false
def RowFPost (l : List Int) (x : Int) (w : World) (e : Ending) (w' : World) : Prop := ∃ A c, e = .returned (.tuple #[.slice A l.length c, .int .i64 x]) ∧ (Kd.int .u64).C w' A l.length l ∧ l.length ≤ c ∧ Below w.heap.size w w' ∧ ∀ ad, A = some ad → w.heap.size ≤ ad.block
theorem C_ownF {w : World} {base : Nat} {e : TypeId} {k : IntKind} {v : Value} {xs : List Int} (h : w.ownsRow base e 1 v xs.length (nums k xs)) : ∃ A c, v = .slice A xs.length c ∧ xs.length ≤ c ∧ (Kd.int k).C w A xs.length xs ∧ ∀ ad, A = some ad → base ≤ ad.block := by
  obtain ⟨A, c, rfl, hc, hC⟩ := C_own h
  refine ⟨A, c, rfl, hc, hC, fun ad had => ?_⟩
  subst had
  exact own_base h ad.block rfl
theorem C_moveW {k : IntKind} {W W' : World} {A : Option Addr} {n : Nat} {b : Nat} {xs : List Int} (hC : (Kd.int k).C W A n xs) (hg : W.grownBy W' (some b)) (hk : ∀ ad, A = some ad → ad.block ≠ b) : (Kd.int k).C W' A n xs := by
  refine ⟨hC.1, hC.2.1, fun hn => ?_⟩
  obtain ⟨ad, rfl, hr⟩ := hC.2.2 hn
  refine ⟨ad, rfl, fun j p hj => ?_⟩
  obtain ⟨cs, h1, h2, h3⟩ := hr j p hj
  refine ⟨cs, h1, h2, fun i u hu => ?_⟩
  have hu' := h3 i u hu
  exact World.grownBy.cell hg hu' (fun hh => hk _ rfl (by rw [add_block] at hh; injection hh))
set_option maxRecDepth 100000 in
set_option maxHeartbeats 2000000 in
theorem RowF_calls (a b : Nat) (ws : List Int) (at_ n : Int) (w : World) (h : IsArena w a b ws) (hat : I64 at_) (hn : I64 n) :
    Calls Tryd.prog 20 #[.pointer (some ⟨a, 0, none⟩), .int .i64 at_, .int .i64 n] w (RowFPost (rowL ws at_ n) (rowE ws at_ n) w) := by
  have HB := Aside0.mk (ABox.start w (.int .i64 0) 31)
  have q0 := (blk_cell HB.out.box 0).trans rfl
  have q1 := blk_frozen HB.out.box 0
  have hA := h.below HB.out.below
  have hl := h.len
  by_cases hi : inB ws.length at_ n = true
  · have e1 : rowL ws at_ n = cutW ws at_ n := if_pos hi
    have e2 : rowE ws at_ n = 0 := if_pos hi
    rw [e1, e2]
    obtain ⟨g0, g1, g2, g3⟩ := inB_iff.1 hi
    have hlc : (cutW ws at_ n).length = n.toNat := by
      have := cutW_length hi
      omega
    have HP : Aside0 (∃ A c, (Kd.int .u64).C (w.alloc (.cells #[.int .i64 0] 31)) A (cutW ws at_ n).length (cutW ws at_ n) ∧ (cutW ws at_ n).length ≤ c ∧ Calls Tryd.prog 60 #[.pointer (some ⟨a, 0, none⟩), .int .i64 at_, .int .i64 n] (w.alloc (.cells #[.int .i64 0] 31)) fun e w' => e = .returned (.slice A (cutW ws at_ n).length c) ∧ (w.alloc (.cells #[.int .i64 0] 31)) = w') := by
      refine ⟨?_⟩
      by_cases h0 : n = 0
      · subst h0
        have e : cutW ws at_ 0 = [] := by simp [cutW]
        rw [e]
        exact ⟨none, 0, Kd.C_nil _ _, Nat.le_refl _, part_nil a b ws at_ _ hA hat hi⟩
      · rw [hlc]
        exact ⟨some ⟨b, at_.toNat, none⟩, ws.length - at_.toNat, C_blk hA.row (by omega) at_.toNat n.toNat (by omega), by omega, part_ok a b ws at_ n _ hA hat hn (by omega) hi⟩
    obtain ⟨A, c, hC, hcl, hv⟩ := HP.out
    have HV := Aside0.mk hv
    have HCl := Aside0.mk (cloneU_calls A c (cutW ws at_ n) _ hC hcl (by omega))
    generalize cutW ws at_ n = L at *
    clear h hA hat e1 e2 hi HP hC hcl hv hlc
    go_enter_defers Tryd.func20, Tryd.ntmps20
    go_wp2_with first
      | (go_at_call 60; with_reducible refine HV.out.mono ?_; rintro e w1 ⟨rfl, rfl⟩)
      | (go_at_call 59
         refine HCl.out.mono ?_
         rintro e w2 ⟨v, rfl, ho, hb⟩
         have HB2 := Aside0.mk (HB.out.step hb)
         have q2 := (blk_cell HB2.out.box 0).trans rfl
         have q3 := blk_frozen HB2.out.box 0
         have HO := Aside0.mk ho
         clear hb ho q0 q1)
    have H1 := HB2.out.put (.int .i64 0)
    have ho2 := own_other HO.out (grown_setCell w2 w.heap.size 0 (.int .i64 0)) (Or.inr (fun hh => by have := own_base HO.out _ hh; simp at this; omega))
    obtain ⟨A2, c2, rfl, hc2, hC2, hf2⟩ := C_ownF ho2
    exact ar_ok _ _ 0 _ _ H1.box (fun W' hc' => Row_res _ _ 0 _ rfl rfl W' hc') ⟨A2, c2, rfl, hC2, hc2, H1.below, fun ad had => by have := hf2 ad had; have h5 := HB.out.below.size; simp at *; omega⟩
  · have e1 : rowL ws at_ n = [] := if_neg hi
    have e2 : rowE ws at_ n = 2 := if_neg hi
    rw [e1, e2]
    have HP := Aside0.mk (part_no a b ws at_ n _ hA hat hn (by simpa using hi))
    clear h hA hat hn e1 e2 hi
    go_enter_defers Tryd.func20, Tryd.ntmps20
    go_wp2_with (go_at_call 60; refine HP.out.mono ?_; rintro e w1 ⟨rfl, rfl⟩)
    exact ar_no _ _ 0 _ _ HB.out.box (fun W' hc' => Row_res _ _ 2 _ rfl rfl W' hc') ⟨none, 0, rfl, Kd.C_nil _ _, Nat.le_refl _, ((HB.out.below.alloc HB.out.below.size _).setCell (Nat.le_refl _) _), fun ad had => by cases had⟩
end Go.Proofs.YtfaghjadjpiaiaaDoor.Sh
namespace Go.Proofs.YtfaghjadjpiaiaaDoor.Sh
open Go.RowKit Go.Shelf Go.Proofs.YtfaghjadjpiaiaaDoorW.PrintWords Go.Proofs.YtfaghjadjpiaiaaDoorW.PrintLast Go.Proofs.YtfaghjadjpiaiaaDoorW.PrintMore
set_option linter.unusedVariables false
set_option linter.unusedSimpArgs false
set_option maxRecDepth 100000 in
set_option maxHeartbeats 4000000 in
theorem back_early (A : Option Addr) (c : Nat) (ws : List Int) (B : Option Addr) (e : Nat) (fn : List Fn0) (s : St) (lo size : Int) (w : World) (h : MvIn w A c ws B e fn) (hE : mvB ws fn = false) :
    Calls Tryd.prog 6 #[.slice A ws.length c, .slice B fn.length e, .agg #[.int .i64 s.lo, .int .i64 s.size, .int .i64 s.sp], .int .i64 lo, .int .i64 size] w fun e w' => e = .returned (.bool true) ∧ Below w.heap.size w w' := by
  have hm : (ws.length : Int) ≤ 9223372036854775807 := by have := h.row.2.1; omega
  have HS := Aside0.mk (BlkW.start w #[.int .i64 s.lo, .int .i64 s.size, .int .i64 s.sp] 44)
  have HN := Aside0.mk (New_mv (h.below HS.out.below))
  have HG := Aside0.mk (fun (W : World) (hB : Below w.heap.size w W) => GreatF_calls B e fn W (Kd.C_below h.fns hB) h.fnc)
  have HAw := Aside0.mk (fun (W : World) => awake_calls W)
  clear h
  generalize hP : (fun (e : Ending) (w' : World) => e = .returned (.bool true) ∧ Below w.heap.size w w') = Post
  have HPost := Aside0.mk hP
  clear hP
  go_enter Tryd.func6, Tryd.ntmps6
  by_cases h1 : (ws.length : Int) > 256
  · clear hE
    go_wp2_with first
      | (go_at_call 9; refine HN.out.mono ?_; rintro e w1 ⟨p, x, rfl, hx, hb⟩; have H1 := Aside0.mk (HS.out.step hb); clear hb hx)
      | (go_at_call 16; refine (HAw.out w1).mono ?_; rintro e w3 ⟨rfl, hb⟩; have H3 := Aside0.mk (H1.out.step hb); clear hb)
    rw [← HPost.out]
    exact ⟨rfl, H3.out.below⟩
  cases h2 : greatF fn with
  | true =>
    rw [h2] at HG
    clear hE
    go_wp2_with first
      | (go_at_call 9; refine HN.out.mono ?_; rintro e w1 ⟨p, x, rfl, hx, hb⟩; have H1 := Aside0.mk (HS.out.step hb); clear hb hx)
      | (go_at_call 10; refine (HG.out _ H1.out.below).mono ?_; rintro e w2 ⟨rfl, hb⟩; have H2 := Aside0.mk (H1.out.step hb); clear hb)
      | (go_at_call 16; refine (HAw.out w2).mono ?_; rintro e w3 ⟨rfl, hb⟩; have H3 := Aside0.mk (H2.out.step hb); clear hb)
    rw [← HPost.out]
    exact ⟨rfl, H3.out.below⟩
  | false =>
    rw [h2] at HG
    have hn : newB fn = false := by
      unfold mvB at hE
      rw [h2, decide_eq_true (by omega)] at hE
      simpa using hE
    clear hE h2
    go_wp2_with first
      | (go_at_call 9; refine HN.out.mono ?_; rintro e w1 ⟨p, x, rfl, hx, hb⟩; have H1 := Aside0.mk (HS.out.step hb); have hx0 : (x != 0) = true := (by simpa using hx hn); clear hb hx)
      | (go_at_call 10; refine (HG.out _ H1.out.below).mono ?_; rintro e w2 ⟨rfl, hb⟩; have H2 := Aside0.mk (H1.out.step hb); clear hb)
      | (go_at_call 16; refine (HAw.out w2).mono ?_; rintro e w3 ⟨rfl, hb⟩; have H3 := Aside0.mk (H2.out.step hb); clear hb)
    rw [← HPost.out]
    exact ⟨rfl, H3.out.below⟩
/-- What stands while a law with one arena runs: the arena; a row that was read before. -/
structure OneW (w : World) (s : St) (wt : World) (a b : Nat) (U : List Int) (W : World) : Prop where
  mv : Mv w s wt W
  one : IsArena W a b U
theorem OneW.step {w : World} {s : St} {wt : World} {a b : Nat} {U : List Int} {W W1 : World} (h : OneW w s wt a b U W) (hb : Below W.heap.size W W1) : OneW w s wt a b U W1 := ⟨h.mv.step hb, h.one.below hb⟩
set_option maxRecDepth 100000 in
set_option maxHeartbeats 8000000 in
theorem back_walk (A : Option Addr) (c : Nat) (ws : List Int) (B : Option Addr) (e : Nat) (fn : List Fn0) (s : St) (lo size : Int) (w : World) (h : MvIn w A c ws B e fn) (hE : mvB ws fn = true) (hs : s.wf) (hlo : I64 lo) (hsz : I64 size) :
    Calls Tryd.prog 6 #[.slice A ws.length c, .slice B fn.length e, .agg #[.int .i64 s.lo, .int .i64 s.size, .int .i64 s.sp], .int .i64 lo, .int .i64 size] w fun e w' => e = .returned (.bool true) ∧ Below w.heap.size w w' := by
  obtain ⟨h1, h2, hn⟩ := mv_of hE
  have hm : (ws.length : Int) ≤ 9223372036854775807 := by omega
  have HS := Aside0.mk (BlkW.start w #[.int .i64 s.lo, .int .i64 s.size, .int .i64 s.sp] 44)
  have HN := Aside0.mk (New_mv1 (h.below HS.out.below) hn)
  have HG := Aside0.mk (fun (W : World) (hB : Below w.heap.size w W) => GreatF_calls B e fn W (Kd.C_below h.fns hB) h.fnc)
  rw [h2] at HG
  have HL := Aside0.mk (fun (W : World) (hB : Below w.heap.size w W) => laid_calls A c ws W (Kd.C_below h.row hB) h.rowc h.all (by omega))
  have HAw := Aside0.mk (fun (W : World) => awake_calls W)
  have HOk := Aside0.mk h.ok
  have HNb := Aside0.mk hn
  have hu := Aside0.mk (used_I hs)
  have HI := Aside0.mk (And.intro hs (And.intro hlo hsz))
  have hlen : (laidW ws).length ≤ 65536 := by rw [laidW_length]; omega
  generalize hU0 : laidW ws = U0 at hlen
  clear h hE h2 hn hlo hsz
  generalize hP : (fun (e : Ending) (w' : World) => e = .returned (.bool true) ∧ Below w.heap.size w w') = Post
  have HPost := Aside0.mk hP
  clear hP
  go_enter Tryd.func6, Tryd.ntmps6
  go_wp2_with first
    | (go_at_call 9; refine HN.out.mono ?_; rintro e w1 ⟨g, t, rfl, hT⟩; have HT := Aside0.mk hT; have H1 := Aside0.mk (Mv.start w s (by have := hT.below; simpa using this)); clear hT)
    | (go_at_call 10; refine (HG.out _ H1.out.below).mono ?_; rintro e w2 ⟨rfl, hb⟩; have H2 := Aside0.mk (H1.out.step hb); have hs12 := hb.size; clear hb)
    | (go_at_call 17; refine (HL.out w2 H2.out.below).mono ?_; rintro e w3 ⟨rfl, hA, hb⟩; rw [hU0] at hA; have HA1 := Aside0.mk hA; have H3 := Aside0.mk (OneW.mk (H2.out.step hb) hA); have hs23 := hb.size; have hlt3 := hA.lta; clear hb hA)
  have hta := HT.out.all HNb.out HOk.out
  go_region_held3 (fun W => W.cell? ⟨w.heap.size, 0, none⟩ = some (.int .i64 s.lo) ∧ W.cell? ⟨w.heap.size, 1, none⟩ = some (.int .i64 s.size) ∧ W.cell? ⟨w.heap.size, 2, none⟩ = some (.int .i64 s.sp) ∧ Aside0 (OneW w s w1 (w2.heap.size + 1) w2.heap.size U0 W) ∧ Aside0 (w2.heap.size + 1 < W.heap.size))
    (first | (have hd := H3.out.step (below_drew (Below.refl _ _)); refine ⟨(blk_cell hd.mv.sb 0).trans rfl, (blk_cell hd.mv.sb 1).trans rfl, (blk_cell hd.mv.sb 2).trans rfl, ⟨hd⟩, ⟨hd.one.lta⟩⟩) | (refine ⟨?_, ?_, ?_, ?_, ?_⟩ <;> assumption))
    (first
      | (go_at_call 24; have hS : _ ∧ _ ∧ _ ∧ Aside0 (OneW w s w1 _ _ _ _) ∧ _ := (by assumption); refine (Used_calls s _).mono ?_; rintro e w4 ⟨rfl, hb⟩; have q3 := Aside0.mk (hS.2.2.2.1.out.step hb); have q4 := Aside0.mk q3.out.one.lta; have q0 := (blk_cell q3.out.mv.sb 0).trans rfl; have q1 := (blk_cell q3.out.mv.sb 1).trans rfl; have q2 := (blk_cell q3.out.mv.sb 2).trans rfl; clear hb hS)
      | (go_at_call 20; have hS : _ ∧ _ ∧ _ ∧ Aside0 (OneW w s w1 _ _ _ _) ∧ _ := (by assumption); refine (RowF_calls _ _ _ _ _ _ hS.2.2.2.1.out.one hs.2.2 hu.out).mono ?_; rintro e w4 ⟨A1, c1, rfl, hC, hc1, hb, hfr⟩; have HC1 := Aside0.mk hC; have HF1 := Aside0.mk (fun (ad : Addr) (had : A1 = some ad) => Nat.lt_of_lt_of_le hS.2.2.2.2.out (hfr ad had)); have q3 := Aside0.mk (hS.2.2.2.1.out.step hb); have q4 := Aside0.mk q3.out.one.lta; have q0 := (blk_cell q3.out.mv.sb 0).trans rfl; have q1 := (blk_cell q3.out.mv.sb 1).trans rfl; have q2 := (blk_cell q3.out.mv.sb 2).trans rfl; clear hb hS hC hfr))
  go_wp2_with fail
  go_at_call 21
  refine (To_mv HT.out HNb.out HOk.out q3.out.mv q3.out.one hs12 s hs lo size HI.out.2.1 HI.out.2.2).mono ?_
  rintro e w5 ⟨rfl, hA, hg⟩
  have HA5 := Aside0.mk hA
  have H5 := Aside0.mk (q3.out.mv.grow hs12 hg)
  have HC5 := Aside0.mk (C_moveW HC1.out hg (fun ad had => by have := HF1.out ad had; omega))
  clear hA hg q0 q1 q2
  by_cases e1 : toE U0 t s lo size = 0
  rotate_left
  · have H5b := Aside0.mk (H5.out.step (below_alloc (Below.refl w5.heap.size _) (.cells #[.int .i64 (toS U0 t s lo size).lo, .int .i64 (toS U0 t s lo size).size, .int .i64 (toS U0 t s lo size).sp] 44)))
    generalize toE U0 t s lo size = x1 at *
    generalize toS U0 t s lo size = o1 at *
    have e1' : (x1 != 0) = true := (by simpa using e1)
    clear e1
    go_wp2_with (go_at_call 16; refine (HAw.out _).mono ?_; rintro e w6 ⟨rfl, hb⟩; have H6 := Aside0.mk (H5b.out.step hb); clear hb)
    rw [← HPost.out]
    exact ⟨rfl, H6.out.below⟩
  have ho1 := toS_wf hlen e1 hta
  obtain ⟨l1, l2, l3⟩ := back_law hta hlen e1
  have HL3 := Aside0.mk l3
  rw [e1]
  have hb5 := below_alloc (Below.refl w5.heap.size w5) (.cells #[.int .i64 (toS U0 t s lo size).lo, .int .i64 (toS U0 t s lo size).size, .int .i64 (toS U0 t s lo size).sp] 44)
  have HN5 := Aside0.mk (heap_alloc_new w5 (.cells #[.int .i64 (toS U0 t s lo size).lo, .int .i64 (toS U0 t s lo size).size, .int .i64 (toS U0 t s lo size).sp] 44))
  clear e1 l3
  generalize toS U0 t s lo size = o1 at *
  generalize toWs U0 t s lo size = U1 at *
  have H5b := Aside0.mk (H5.out.step hb5)
  have HA5b := Aside0.mk (HA5.out.below hb5)
  have HC5b := Aside0.mk (Kd.C_below HC5.out hb5)
  have h5lt := HA5.out.lta
  clear hb5 H5 HA5 HC5
  have z0 := (blk_cell H5b.out.sb 0).trans rfl
  have z1 := (blk_cell H5b.out.sb 1).trans rfl
  go_wp2_with fail
  go_at_call 29
  refine (Zero_calls _ _ U1 s.lo s.size _ HA5b.out hs.1 hs.2.1).mono ?_
  rintro e w6 ⟨rfl, hA, hg⟩
  have HA6 := Aside0.mk hA
  have H6 := Aside0.mk (H5b.out.grow hs12 hg)
  have HC6 := Aside0.mk (C_moveW HC5b.out hg (fun ad had => by have := HF1.out ad had; omega))
  have HN6 := Aside0.mk (blk_grown HN5.out hg (fun hh => by injection hh; omega))
  clear hA hg z0 z1 H5b HA5b HC5b HN5
  generalize zeroW U1 s.lo s.size = U2 at *
  have z0 := (blk_cell H6.out.sb 0).trans rfl
  have z1 := (blk_cell H6.out.sb 1).trans rfl
  have y0 := (blk_cell HN6.out 0).trans rfl
  have y1 := (blk_cell HN6.out 1).trans rfl
  have y2 := (blk_cell HN6.out 2).trans rfl
  go_wp2_with fail
  go_at_call 21
  refine (To_mv HT.out HNb.out HOk.out H6.out HA6.out hs12 o1 ho1 s.lo s.size hs.1 hs.2.1).mono ?_
  rintro e w7 ⟨rfl, hA, hg⟩
  rw [l1, l2]
  have h76 := hg.size
  have HA7 := Aside0.mk hA
  have H7 := Aside0.mk (H6.out.grow hs12 hg)
  have HC7 := Aside0.mk (C_moveW HC6.out hg (fun ad had => by have := HF1.out ad had; omega))
  clear hA hg z0 z1 y0 y1 y2 H6 HA6 HC6 HN6 l1 l2
  generalize toWs U2 t o1 s.lo s.size = U3 at *
  have hb7 := below_alloc (Below.refl w7.heap.size w7) (.cells #[.int .i64 s.lo, .int .i64 s.size, .int .i64 s.sp] 44)
  have HN7 := Aside0.mk (heap_alloc_new w7 (.cells #[.int .i64 s.lo, .int .i64 s.size, .int .i64 s.sp] 44))
  have HW := Aside0.mk (OneW.mk (H7.out.step hb7) (HA7.out.below hb7))
  have HCW := Aside0.mk (Kd.C_below HC7.out hb7)
  clear hb7 H7 HA7 HC7
  go_wp2_with fail
  go_region_held3 (fun W => W.cell? ⟨w.heap.size, 0, none⟩ = some (.int .i64 s.lo) ∧ W.cell? ⟨w.heap.size, 1, none⟩ = some (.int .i64 s.size) ∧ W.cell? ⟨w.heap.size, 2, none⟩ = some (.int .i64 s.sp) ∧ Aside0 (OneW w s w1 (w2.heap.size + 1) w2.heap.size U3 W) ∧ Aside0 ((Kd.int .u64).C W A1 (rowL U0 s.sp (usedS s)).length (rowL U0 s.sp (usedS s))) ∧ Aside0 (W.heap[w7.heap.size]? = some (.cells #[.int .i64 s.lo, .int .i64 s.size, .int .i64 s.sp] 44 (0, 0))))
    (first | (have hbd := below_drew (Below.refl (w7.alloc (.cells #[.int .i64 s.lo, .int .i64 s.size, .int .i64 s.sp] 44)).heap.size (w7.alloc (.cells #[.int .i64 s.lo, .int .i64 s.size, .int .i64 s.sp] 44))); have hd := HW.out.step hbd; refine ⟨(blk_cell hd.mv.sb 0).trans rfl, (blk_cell hd.mv.sb 1).trans rfl, (blk_cell hd.mv.sb 2).trans rfl, ⟨hd⟩, ⟨Kd.C_below HCW.out hbd⟩, ⟨blk_below HN7.out hbd⟩⟩) | (refine ⟨?_, ?_, ?_, ?_, ?_, ?_⟩ <;> assumption))
    (first
      | (go_at_call 24; have hS : _ ∧ _ ∧ _ ∧ Aside0 (OneW w s w1 _ _ _ _) ∧ _ := (by assumption); refine (Used_calls s _).mono ?_; rintro e w8 ⟨rfl, hb⟩; have r3 := Aside0.mk (hS.2.2.2.1.out.step hb); have r4 := Aside0.mk (Kd.C_below hS.2.2.2.2.1.out hb); have r5 := Aside0.mk (blk_below hS.2.2.2.2.2.out hb); have r0 := (blk_cell r3.out.mv.sb 0).trans rfl; have r1 := (blk_cell r3.out.mv.sb 1).trans rfl; have r2 := (blk_cell r3.out.mv.sb 2).trans rfl; clear hb hS)
      | (go_at_call 20; have hS : _ ∧ _ ∧ _ ∧ Aside0 (OneW w s w1 _ _ _ _) ∧ _ := (by assumption); refine (Row_calls _ _ _ _ _ _ hS.2.2.2.1.out.one hs.2.2 hu.out).mono ?_; rintro e w9 ⟨A2, c2, rfl, hC, hc2, hb⟩; have HC2 := Aside0.mk hC; have r3 := Aside0.mk (hS.2.2.2.1.out.step hb); have r4 := Aside0.mk (Kd.C_below hS.2.2.2.2.1.out hb); have r5 := Aside0.mk (blk_below hS.2.2.2.2.2.out hb); have r0 := (blk_cell r3.out.mv.sb 0).trans rfl; have r1 := (blk_cell r3.out.mv.sb 1).trans rfl; have r2 := (blk_cell r3.out.mv.sb 2).trans rfl; clear hb hS hC))
  have y0 := (blk_cell r5.out 0).trans rfl
  have y1 := (blk_cell r5.out 1).trans rfl
  have y2 := (blk_cell r5.out 2).trans rfl
  have HSame := Aside0.mk (SameW_calls A2 A1 c2 c1 _ _ w9 HC2.out hc2 r4.out hc1)
  have he : decide (rowL U3 s.sp (usedS s) = rowL U0 s.sp (usedS s)) = true := decide_eq_true HL3.out
  rw [he] at HSame
  clear he
  go_wp2_with first
    | (go_at_call 23; refine HSame.out.mono ?_; rintro e w10 ⟨rfl, hb⟩; have HM := Aside0.mk (r3.out.mv.step hb); clear hb)
    | (go_at_call 16; refine (HAw.out _).mono ?_; rintro e w11 ⟨rfl, hb⟩; have HM2 := Aside0.mk (HM.out.step hb); clear hb)
  rw [← HPost.out]
  exact ⟨rfl, HM2.out.below⟩
theorem back_calls (A : Option Addr) (c : Nat) (ws : List Int) (B : Option Addr) (e : Nat) (fn : List Fn0) (s : St) (lo size : Int) (w : World) (h : MvIn w A c ws B e fn) (hs : s.wf) (hlo : I64 lo) (hsz : I64 size) :
    Calls Tryd.prog 6 #[.slice A ws.length c, .slice B fn.length e, .agg #[.int .i64 s.lo, .int .i64 s.size, .int .i64 s.sp], .int .i64 lo, .int .i64 size] w fun e w' => e = .returned (.bool true) ∧ Below w.heap.size w w' := by
  by_cases hE : mvB ws fn = true
  · exact back_walk A c ws B e fn s lo size w h hE hs hlo hsz
  · exact back_early A c ws B e fn s lo size w h (by simpa using hE)
end Go.Proofs.YtfaghjadjpiaiaaDoor.Sh
