/- The law MoveTwice, walked. -/
import Derived.Test.YtfaghjadjpiaiaaDoorYA
namespace Go.Proofs.YtfaghjadjpiaiaaDoor.Sh
open Go.RowKit Go.Shelf Go.Proofs.YtfaghjadjpiaiaaDoorW.PrintWords Go.Proofs.YtfaghjadjpiaiaaDoorW.PrintLast Go.Proofs.YtfaghjadjpiaiaaDoorW.PrintMore
set_option linter.unusedVariables false
set_option linter.unusedSimpArgs false
set_option maxRecDepth 100000 in
set_option maxHeartbeats 4000000 in
theorem twice_early (A : Option Addr) (c : Nat) (ws : List Int) (B : Option Addr) (e : Nat) (fn : List Fn0) (s : St) (lo size at_ most : Int) (w : World) (h : MvIn w A c ws B e fn) (hE : mvB ws fn = false) :
    Calls Tryd.prog 5 #[.slice A ws.length c, .slice B fn.length e, .agg #[.int .i64 s.lo, .int .i64 s.size, .int .i64 s.sp], .int .i64 lo, .int .i64 size, .int .i64 at_, .int .i64 most] w fun e w' => e = .returned (.bool true) ∧ Below w.heap.size w w' := by
  have hm : (ws.length : Int) ≤ 9223372036854775807 := by have := h.row.2.1; omega
  have HS := Aside0.mk (BlkW.start w #[.int .i64 s.lo, .int .i64 s.size, .int .i64 s.sp] 44)
  have HN := Aside0.mk (New_mv (h.below HS.out.below))
  have HG := Aside0.mk (fun (W : World) (hB : Below w.heap.size w W) => GreatF_calls B e fn W (Kd.C_below h.fns hB) h.fnc)
  have HAw := Aside0.mk (fun (W : World) => awake_calls W)
  clear h
  generalize hP : (fun (e : Ending) (w' : World) => e = .returned (.bool true) ∧ Below w.heap.size w w') = Post
  have HPost := Aside0.mk hP
  clear hP
  go_enter Tryd.func5, Tryd.ntmps5
  by_cases h1 : (ws.length : Int) > 256
  · clear hE
    go_wp2_with first
      | (go_at_call 9; refine HN.out.mono ?_; rintro e w1 ⟨p, x, rfl, hx, hb⟩; have H1 := Aside0.mk (HS.out.step hb); clear hb hx)
      | (go_at_call 16; refine (HAw.out w1).mono ?_; rintro e w3 ⟨rfl, hb⟩; have H3 := Aside0.mk (H1.out.step hb); clear hb)
    rw [← HPost.out]
    exact ⟨rfl, H3.out.below⟩
  cases h2 : greatF fn with
  | true =>
    rw [h2] at HG
    clear hE
    go_wp2_with first
      | (go_at_call 9; refine HN.out.mono ?_; rintro e w1 ⟨p, x, rfl, hx, hb⟩; have H1 := Aside0.mk (HS.out.step hb); clear hb hx)
      | (go_at_call 10; refine (HG.out _ H1.out.below).mono ?_; rintro e w2 ⟨rfl, hb⟩; have H2 := Aside0.mk (H1.out.step hb); clear hb)
      | (go_at_call 16; refine (HAw.out w2).mono ?_; rintro e w3 ⟨rfl, hb⟩; have H3 := Aside0.mk (H2.out.step hb); clear hb)
    rw [← HPost.out]
    exact ⟨rfl, H3.out.below⟩
  | false =>
    rw [h2] at HG
    have hn : newB fn = false := by
      unfold mvB at hE
      rw [h2, decide_eq_true (by omega)] at hE
      simpa using hE
    clear hE h2
    go_wp2_with first
      | (go_at_call 9; refine HN.out.mono ?_; rintro e w1 ⟨p, x, rfl, hx, hb⟩; have H1 := Aside0.mk (HS.out.step hb); have hx0 : (x != 0) = true := (by simpa using hx hn); clear hb hx)
      | (go_at_call 10; refine (HG.out _ H1.out.below).mono ?_; rintro e w2 ⟨rfl, hb⟩; have H2 := Aside0.mk (H1.out.step hb); clear hb)
      | (go_at_call 16; refine (HAw.out w2).mono ?_; rintro e w3 ⟨rfl, hb⟩; have H3 := Aside0.mk (H2.out.step hb); clear hb)
    rw [← HPost.out]
    exact ⟨rfl, H3.out.below⟩
set_option maxRecDepth 100000 in
set_option maxHeartbeats 8000000 in
theorem twice_walk (A : Option Addr) (c : Nat) (ws : List Int) (B : Option Addr) (e : Nat) (fn : List Fn0) (s : St) (lo size at_ most : Int) (w : World) (h : MvIn w A c ws B e fn) (hE : mvB ws fn = true) (hs : s.wf) (hlo : I64 lo) (hsz : I64 size) (hat : I64 at_) (hmo : I64 most) :
    Calls Tryd.prog 5 #[.slice A ws.length c, .slice B fn.length e, .agg #[.int .i64 s.lo, .int .i64 s.size, .int .i64 s.sp], .int .i64 lo, .int .i64 size, .int .i64 at_, .int .i64 most] w fun e w' => e = .returned (.bool true) ∧ Below w.heap.size w w' := by
  obtain ⟨h1, h2, hn⟩ := mv_of hE
  have hm : (ws.length : Int) ≤ 9223372036854775807 := by omega
  have HS := Aside0.mk (BlkW.start w #[.int .i64 s.lo, .int .i64 s.size, .int .i64 s.sp] 44)
  have HN := Aside0.mk (New_mv1 (h.below HS.out.below) hn)
  have HG := Aside0.mk (fun (W : World) (hB : Below w.heap.size w W) => GreatF_calls B e fn W (Kd.C_below h.fns hB) h.fnc)
  rw [h2] at HG
  have HL := Aside0.mk (fun (W : World) (hB : Below w.heap.size w W) => laid_calls A c ws W (Kd.C_below h.row hB) h.rowc h.all (by omega))
  have HAw := Aside0.mk (fun (W : World) => awake_calls W)
  have HOk := Aside0.mk h.ok
  have HNb := Aside0.mk hn
  have HI := Aside0.mk (And.intro hs (And.intro hlo (And.intro hsz (And.intro hat hmo))))
  clear h hE h2 hn hs hlo hsz hat hmo
  generalize hP : (fun (e : Ending) (w' : World) => e = .returned (.bool true) ∧ Below w.heap.size w w') = Post
  have HPost := Aside0.mk hP
  clear hP
  go_enter Tryd.func5, Tryd.ntmps5
  go_wp2_with first
    | (go_at_call 9; refine HN.out.mono ?_; rintro e w1 ⟨g, t, rfl, hT⟩; have HT := Aside0.mk hT; have H1 := Aside0.mk (Mv.start w s (by have := hT.below; simpa using this)); clear hT)
    | (go_at_call 10; refine (HG.out _ H1.out.below).mono ?_; rintro e w2 ⟨rfl, hb⟩; have H2 := Aside0.mk (H1.out.step hb); have hs12 := hb.size; clear hb)
    | (go_at_call 17; refine (HL.out w3 H3.out.below).mono ?_; rintro e w4 ⟨rfl, hA, hb⟩; have HA2 := Aside0.mk hA; have HA1' := Aside0.mk (HA1.out.below hb); have H4 := Aside0.mk (H3.out.step hb); have hs34 := hb.size; have z0 := (blk_cell H4.out.sb 0).trans rfl; have z1 := (blk_cell H4.out.sb 1).trans rfl; have z2 := (blk_cell H4.out.sb 2).trans rfl; clear hb hA)
    | (go_at_call 17; refine (HL.out w2 H2.out.below).mono ?_; rintro e w3 ⟨rfl, hA, hb⟩; have HA1 := Aside0.mk hA; have H3 := Aside0.mk (H2.out.step hb); have hs23 := hb.size; have hlt3 := hA.lta; clear hb hA)
  go_at_call 21
  obtain ⟨hs, hlo, hsz, hat, hmo⟩ := HI.out
  refine (To_mv HT.out HNb.out HOk.out H4.out HA1'.out hs12 s hs lo size hlo hsz).mono ?_
  rintro e w5 ⟨rfl, hA, hg⟩
  have HA5 := Aside0.mk hA
  have HG5 := Aside0.mk hg
  have H5 := Aside0.mk (H4.out.grow hs12 hg)
  have HB5 := Aside0.mk (HA2.out.other hg (by omega) (by omega))
  have hlen : (laidW ws).length ≤ 65536 := by rw [laidW_length]; omega
  have hta := HT.out.all HNb.out HOk.out
  clear z0 z1 z2 hA hg
  by_cases e1 : toE (laidW ws) t s lo size = 0
  rotate_left
  · have H5b := Aside0.mk (H5.out.step (below_alloc (Below.refl w5.heap.size _) (.cells #[.int .i64 (toS (laidW ws) t s lo size).lo, .int .i64 (toS (laidW ws) t s lo size).size, .int .i64 (toS (laidW ws) t s lo size).sp] 44)))
    generalize toE (laidW ws) t s lo size = x1 at *
    generalize toS (laidW ws) t s lo size = o1 at *
    have e1' : (x1 != 0) = true := (by simpa using e1)
    clear e1
    go_wp2_with (go_at_call 16; refine (HAw.out _).mono ?_; rintro e w6 ⟨rfl, hb⟩; have H6 := Aside0.mk (H5b.out.step hb); clear hb)
    rw [← HPost.out]
    exact ⟨rfl, H6.out.below⟩
  have hlenU : (toWs (laidW ws) t s lo size).length ≤ 65536 := by rw [toWs_length hta hlen e1]; exact hlen
  have ho1 := toS_wf hlen e1 hta
  have HLaw := Aside0.mk (fun h2 h3 => twice_rows (at_ := at_) (most := most) hta hlen e1 h2 h3)
  have HWf2 := Aside0.mk (fun h2 => toS_wf (lo := at_) (size := most) hlenU h2 hta (s := toS (laidW ws) t s lo size))
  have HWf3 := Aside0.mk (fun h3 => toS_wf (lo := at_) (size := most) hlen h3 hta (s := s))
  rw [e1]
  clear e1 hlenU hlen
  generalize toS (laidW ws) t s lo size = o1 at *
  generalize toWs (laidW ws) t s lo size = U1 at *
  have h54 : w4.heap.size ≤ w5.heap.size := HG5.out.size
  go_wp2_with fail
  go_at_call 21
  have hb5 := below_alloc (Below.refl w5.heap.size w5) (.cells #[.int .i64 o1.lo, .int .i64 o1.size, .int .i64 o1.sp] 44)
  refine (To_mv HT.out HNb.out HOk.out (H5.out.step hb5) (HA5.out.below hb5) hs12 o1 ho1 at_ most hat hmo).mono ?_
  rintro e w6 ⟨rfl, hA, hg⟩
  have h65 : w5.heap.size + 1 ≤ w6.heap.size := by have := hg.size; simpa using this
  have HA6 := Aside0.mk hA
  have H6 := Aside0.mk ((H5.out.step hb5).grow hs12 hg)
  have HB6 := Aside0.mk ((HB5.out.below hb5).other hg (by omega) (by omega))
  clear hA hg hb5 HA5 H5 HB5
  generalize hE2 : toE U1 t o1 at_ most = x2 at *
  generalize hO2 : toS U1 t o1 at_ most = o2 at *
  generalize toWs U1 t o1 at_ most = U2 at *
  have hb6 := below_alloc (Below.refl w6.heap.size w6) (.cells #[.int .i64 o2.lo, .int .i64 o2.size, .int .i64 o2.sp] 44)
  have H6b := Aside0.mk (H6.out.step hb6)
  have z0 := (blk_cell H6b.out.sb 0).trans rfl
  have z1 := (blk_cell H6b.out.sb 1).trans rfl
  have z2 := (blk_cell H6b.out.sb 2).trans rfl
  go_wp2_with fail
  go_at_call 21
  refine (To_mv HT.out HNb.out HOk.out H6b.out (HB6.out.below hb6) (by omega : w1.heap.size ≤ w3.heap.size) s hs at_ most hat hmo).mono ?_
  rintro e w7 ⟨rfl, hA, hg⟩
  have h76 : w6.heap.size + 1 ≤ w7.heap.size := by have := hg.size; simpa using this
  have HB7 := Aside0.mk hA
  have H7 := Aside0.mk (H6b.out.grow (by omega : w1.heap.size ≤ w3.heap.size) hg)
  have HA7 := Aside0.mk ((HA6.out.below hb6).other hg (by omega) (by omega))
  have HN7 := Aside0.mk (blk_grown (heap_alloc_new w6 (.cells #[.int .i64 o2.lo, .int .i64 o2.size, .int .i64 o2.sp] 44)) hg (fun hh => by injection hh; omega))
  clear hA hg hb6 z0 z1 z2 H6 H6b HA6 HB6
  generalize hE3 : toE (laidW ws) t s at_ most = x3 at *
  generalize hO3 : toS (laidW ws) t s at_ most = o3 at *
  generalize toWs (laidW ws) t s at_ most = U3 at *
  have hb7 := below_alloc (Below.refl w7.heap.size w7) (.cells #[.int .i64 o3.lo, .int .i64 o3.size, .int .i64 o3.sp] 44)
  have HW := Aside0.mk (TwW.mk (H7.out.step hb7) (HA7.out.below hb7) (HB7.out.below hb7) (blk_below HN7.out hb7) (heap_alloc_new w7 _))
  clear hb7 H7 HA7 HB7 HN7
  by_cases e2 : x2 = 0
  rotate_left
  · have e1' : (x2 != 0) = true := (by simpa using e2)
    clear e2
    go_wp2_with (go_at_call 16; refine (HAw.out _).mono ?_; rintro e w6 ⟨rfl, hb⟩; have H6 := Aside0.mk (HW.out.mv.step hb); clear hb)
    rw [← HPost.out]
    exact ⟨rfl, H6.out.below⟩
  by_cases e3 : x3 = 0
  rotate_left
  · have e1' : (x3 != 0) = true := (by simpa using e3)
    clear e3
    subst e2
    go_wp2_with (go_at_call 16; refine (HAw.out _).mono ?_; rintro e w6 ⟨rfl, hb⟩; have H6 := Aside0.mk (HW.out.mv.step hb); clear hb)
    rw [← HPost.out]
    exact ⟨rfl, H6.out.below⟩
  have HL2 := Aside0.mk (HLaw.out e2 e3)
  have hw2 := HWf2.out e2
  have hu2 := Aside0.mk (used_I hw2)
  subst e2
  subst e3
  clear hE2 hE3 hO2 hO3 HLaw HWf2 HWf3
  obtain ⟨eo, HR2⟩ : o2 = o3 ∧ Aside0 (rowL U2 o3.sp (usedS o3) = rowL U3 o3.sp (usedS o3)) := ⟨HL2.out.1, ⟨HL2.out.2⟩⟩
  subst eo
  clear HL2
  go_wp2_with fail
  go_region_held3 (fun W => W.cell? ⟨w6.heap.size, 0, none⟩ = some (.int .i64 o2.lo) ∧ W.cell? ⟨w6.heap.size, 1, none⟩ = some (.int .i64 o2.size) ∧ W.cell? ⟨w6.heap.size, 2, none⟩ = some (.int .i64 o2.sp) ∧ Aside0 (TwW w s w1 (w2.heap.size + 1) w2.heap.size U2 (w3.heap.size + 1) w3.heap.size U3 w6.heap.size w7.heap.size o2 o2 W))
    (first | (have hd := HW.out.step (below_drew (Below.refl _ _)); refine ⟨(blk_cell hd.nb 0).trans rfl, (blk_cell hd.nb 1).trans rfl, (blk_cell hd.nb 2).trans rfl, ⟨hd⟩⟩) | (refine ⟨?_, ?_, ?_, ?_⟩ <;> assumption))
    (first
      | (go_at_call 24; have hS : _ ∧ _ ∧ _ ∧ Aside0 (TwW w s w1 _ _ _ _ _ _ _ _ _ _ _) := (by assumption); refine (Used_calls o2 _).mono ?_; rintro e w8 ⟨rfl, hb⟩; have q3 := Aside0.mk (hS.2.2.2.out.step hb); have q0 := (blk_cell q3.out.nb 0).trans rfl; have q1 := (blk_cell q3.out.nb 1).trans rfl; have q2 := (blk_cell q3.out.nb 2).trans rfl; clear hb hS)
      | (go_at_call 20; have hS : _ ∧ _ ∧ _ ∧ Aside0 (TwW w s w1 _ _ _ _ _ _ _ _ _ _ _) := (by assumption); refine (Row_calls _ _ _ _ _ _ hS.2.2.2.out.one hw2.2.2 hu2.out).mono ?_; rintro e w8 ⟨A1, c1, rfl, hC, hc1, hb⟩; have HC1 := Aside0.mk hC; have q3 := Aside0.mk (hS.2.2.2.out.step hb); have q0 := (blk_cell q3.out.nb 0).trans rfl; have q1 := (blk_cell q3.out.nb 1).trans rfl; have q2 := (blk_cell q3.out.nb 2).trans rfl; clear hb hS hC))
  go_wp2_with fail
  go_region_held3 (fun W => W.cell? ⟨w7.heap.size, 0, none⟩ = some (.int .i64 o2.lo) ∧ W.cell? ⟨w7.heap.size, 1, none⟩ = some (.int .i64 o2.size) ∧ W.cell? ⟨w7.heap.size, 2, none⟩ = some (.int .i64 o2.sp) ∧ Aside0 (TwW w s w1 (w2.heap.size + 1) w2.heap.size U2 (w3.heap.size + 1) w3.heap.size U3 w6.heap.size w7.heap.size o2 o2 W) ∧ Aside0 ((Kd.int .u64).C W A1 (rowL U2 o2.sp (usedS o2)).length (rowL U2 o2.sp (usedS o2))))
    (first | (have hd := q3.out.step (below_drew (Below.refl _ _)); refine ⟨(blk_cell hd.mb 0).trans rfl, (blk_cell hd.mb 1).trans rfl, (blk_cell hd.mb 2).trans rfl, ⟨hd⟩, ⟨Kd.C_below HC1.out (below_drew (Below.refl _ _))⟩⟩) | (refine ⟨?_, ?_, ?_, ?_, ?_⟩ <;> assumption))
    (first
      | (go_at_call 24; have hS : _ ∧ _ ∧ _ ∧ Aside0 (TwW w s w1 _ _ _ _ _ _ _ _ _ _ _) ∧ _ := (by assumption); refine (Used_calls o2 _).mono ?_; rintro e w8 ⟨rfl, hb⟩; have r3 := Aside0.mk (hS.2.2.2.1.out.step hb); have r4 := Aside0.mk (Kd.C_below hS.2.2.2.2.out hb); have r0 := (blk_cell r3.out.mb 0).trans rfl; have r1 := (blk_cell r3.out.mb 1).trans rfl; have r2 := (blk_cell r3.out.mb 2).trans rfl; clear hb hS)
      | (go_at_call 20; have hS : _ ∧ _ ∧ _ ∧ Aside0 (TwW w s w1 _ _ _ _ _ _ _ _ _ _ _) ∧ _ := (by assumption); refine (Row_calls _ _ _ _ _ _ hS.2.2.2.1.out.two hw2.2.2 hu2.out).mono ?_; rintro e w9 ⟨A2, c2, rfl, hC, hc2, hb⟩; have HC2 := Aside0.mk hC; have r3 := Aside0.mk (hS.2.2.2.1.out.step hb); have r4 := Aside0.mk (Kd.C_below hS.2.2.2.2.out hb); have r0 := (blk_cell r3.out.mb 0).trans rfl; have r1 := (blk_cell r3.out.mb 1).trans rfl; have r2 := (blk_cell r3.out.mb 2).trans rfl; clear hb hS hC))
  have q0' := (blk_cell r3.out.nb 0).trans rfl
  have q1' := (blk_cell r3.out.nb 1).trans rfl
  have q2' := (blk_cell r3.out.nb 2).trans rfl
  have HSame := Aside0.mk (SameW_calls A1 A2 c1 c2 _ _ w9 r4.out hc1 HC2.out hc2)
  have he : decide (rowL U2 o2.sp (usedS o2) = rowL U3 o2.sp (usedS o2)) = true := decide_eq_true HR2.out
  rw [he] at HSame
  clear he
  go_wp2_with first
    | (go_at_call 23; refine HSame.out.mono ?_; rintro e w10 ⟨rfl, hb⟩; have HM := Aside0.mk (r3.out.mv.step hb); clear hb)
    | (go_at_call 16; refine (HAw.out _).mono ?_; rintro e w11 ⟨rfl, hb⟩; have HM2 := Aside0.mk (HM.out.step hb); clear hb)
  rw [← HPost.out]
  exact ⟨rfl, HM2.out.below⟩
theorem twice_calls (A : Option Addr) (c : Nat) (ws : List Int) (B : Option Addr) (e : Nat) (fn : List Fn0) (s : St) (lo size at_ most : Int) (w : World) (h : MvIn w A c ws B e fn) (hs : s.wf) (hlo : I64 lo) (hsz : I64 size) (hat : I64 at_) (hmo : I64 most) :
    Calls Tryd.prog 5 #[.slice A ws.length c, .slice B fn.length e, .agg #[.int .i64 s.lo, .int .i64 s.size, .int .i64 s.sp], .int .i64 lo, .int .i64 size, .int .i64 at_, .int .i64 most] w fun e w' => e = .returned (.bool true) ∧ Below w.heap.size w w' := by
  by_cases hE : mvB ws fn = true
  · exact twice_walk A c ws B e fn s lo size at_ most w h hE hs hlo hsz hat hmo
  · exact twice_early A c ws B e fn s lo size at_ most w h (by simpa using hE)
end Go.Proofs.YtfaghjadjpiaiaaDoor.Sh
