/- Contract of model.ask: what a row tells, or the error. What is handed to ask: by Load. Contracts of package model: Return, Set, Write, Get, Load. What is handed to change: by Call. What is handed to change: by Calc. -/
import Derived.Test.YtfaghjadjpiaiaaDoorZ3
import Derived.Test.YtfaghjadjpiaiaaDoorZ1
namespace Go.Proofs.YtfaghjadjpiaiaaDoor.Sh
open Go.RowKit Go.Shelf Go.Proofs.YtfaghjadjpiaiaaDoorW.PrintWords Go.Proofs.YtfaghjadjpiaiaaDoorW.PrintLast Go.Proofs.YtfaghjadjpiaiaaDoorW.PrintMore
set_option linter.unusedVariables false
set_option linter.unusedSimpArgs false

/-- The boxes of ask: the value, the error. -/
structure AskW (w : World) (v : Vl) (x : Int) (W : World) : Prop where
  below : Below w.heap.size w W
  val : W.heap[w.heap.size]? = some (.cells #[.int .u8 v.k, .int .u64 v.b, .int .i64 v.d, .int .i64 v.s] 26 (0, 0))
  err : W.heap[w.heap.size + 1]? = some (.cells #[.int .i64 x] 31 (0, 0))
theorem AskW.step {w : World} {v : Vl} {x : Int} {W W1 : World} (h : AskW w v x W) (hb : Below W.heap.size W W1) : AskW w v x W1 :=
  ⟨below_then h.below h.below.size hb, (hb.block _ (blk_lt h.val)).trans h.val, (hb.block _ (blk_lt h.err)).trans h.err⟩
theorem AskW.start (w : World) : AskW w zVl 0 ((w.alloc (.cells #[.int .u8 0, .int .u64 0, .int .i64 0, .int .i64 0] 26)).alloc (.cells #[.int .i64 0] 31)) :=
  ⟨below_alloc (below_alloc (Below.refl _ _) _) _, (Below.heap_alloc _ _ _ (by simp)).trans (heap_alloc_new w _), by have := heap_alloc_new (w.alloc (.cells #[.int .u8 0, .int .u64 0, .int .i64 0, .int .i64 0] 26)) (.cells #[.int .i64 0] 31); simpa using this⟩
def AskPost (w : World) (v : Vl) (x : Int) (e : Ending) (w' : World) : Prop := e = .returned (.tuple #[(.agg #[.int .u8 v.k, .int .u64 v.b, .int .i64 v.d, .int .i64 v.s]), .int .i64 x]) ∧ Below w.heap.size w w'
def askDefers (w : World) : List Deferred := [{ target := Target.fn (Fn.func 132) #[], args := #[.pointer (some ⟨w.heap.size + 1, 0, none⟩)] }]
theorem ask_results (tmps : Array Value) (w : World) (v : Vl) (x : Int) (W : World) (h : AskW w v x W) (h6 : tmps[6]?.getD undef = .pointer (some ⟨w.heap.size, 0, none⟩)) (h7 : tmps[7]?.getD undef = .pointer (some ⟨w.heap.size + 1, 0, none⟩)) :
    (results Tryd.f97 tmps).run Tryd.prog W = .ok (.tuple #[(.agg #[.int .u8 v.k, .int .u64 v.b, .int .i64 v.d, .int .i64 v.s]), .int .i64 x]) W := by
  have hv := run_loadVar_row (P := Tryd.prog) W w.heap.size 26 26 _ _ _ h.val Tryd.underlying26 rfl (by kernel_rfl)
  have hc : W.cell? ⟨w.heap.size + 1, 0, none⟩ = some (.int .i64 x) := (blk_cell h.err 0).trans rfl
  unfold results
  rw [Tryd.results97]
  have hv2 : (loadVar 31 ⟨w.heap.size + 1, 0, none⟩).run Tryd.prog W = .ok (.int .i64 x) W := by simp [go_sem, hc]
  simp [h6, h7, asAddr, hv, hv2]
theorem ask_wrong (w : World) (x : Int) (tmps : Array Value) (W : World) (h6 : tmps[6]?.getD undef = .pointer (some ⟨w.heap.size, 0, none⟩)) (h7 : tmps[7]?.getD undef = .pointer (some ⟨w.heap.size + 1, 0, none⟩)) (h : AskW w zVl 0 W) :
    Leaves Tryd.prog Tryd.f97 tmps (AskPost w zVl x) (askDefers w) (.panicking (Wrong x)) W := by
  unfold askDefers
  refine leaves_cons (f := 132) (args := #[.pointer (some ⟨w.heap.size + 1, 0, none⟩)]) (by simp) (by simp [go_sem]) ?_
  refine (caught_wrong ⟨w.heap.size + 1, 0, none⟩ x 0 W ((blk_cell h.err 0).trans rfl) (blk_frozen h.err 0) (blk_lt h.err)).mono ?_
  rintro e u' w2 ⟨rfl, rfl, rfl⟩
  show Leaves _ _ _ _ _ .returning _
  have h1 := h.step (below_alloc (Below.refl _ _) (.cells #[.int .i64 x] 188))
  have h2 : AskW w zVl x ((W.alloc (.cells #[.int .i64 x] 188)).setCell ⟨w.heap.size + 1, 0, none⟩ (.int .i64 x)) :=
    ⟨h1.below.setCell (Nat.le_succ _) _, blk_far h1.val (by simp) _, by simpa using blk_set h1.err 0 (.int .i64 x)⟩
  exact ⟨_, ask_results tmps w zVl x _ h2 h6 h7, rfl, h2.below⟩
theorem ask_fine (w : World) (v : Vl) (x : Int) (tmps : Array Value) (W : World) (h6 : tmps[6]?.getD undef = .pointer (some ⟨w.heap.size, 0, none⟩)) (h7 : tmps[7]?.getD undef = .pointer (some ⟨w.heap.size + 1, 0, none⟩)) (h : AskW w v x W) :
    Leaves Tryd.prog Tryd.f97 tmps (AskPost w v x) (askDefers w) .returning W := by
  unfold askDefers
  refine leaves_cons (f := 132) (args := #[.pointer (some ⟨w.heap.size + 1, 0, none⟩)]) (by simp) (by simp [go_sem]) ?_
  refine (caught_idle ⟨w.heap.size + 1, 0, none⟩ W).mono ?_
  rintro e u' w2 ⟨rfl, rfl, rfl⟩
  show Leaves _ _ _ _ _ .returning _
  exact ⟨_, ask_results tmps w v x _ h h6 h7, rfl, h.below⟩
def WhatOk (w : World) (a : Nat) (A : Option Addr) (c : Nat) (l : List Fr) (g : Nat) (caps : Array Value) (x : Int) (u : Vl) : Prop :=
  ∀ (W : World), Below w.heap.size w W → Calls Tryd.prog g (#[.agg #[.pointer (some ⟨a, 0, none⟩), .slice A l.length c]] ++ caps) W fun e W' => Below W.heap.size W W' ∧ ((x = 0 ∧ e = .returned (.agg #[.int .u8 u.k, .int .u64 u.b, .int .i64 u.d, .int .i64 u.s])) ∨ (x ≠ 0 ∧ e = .panicked (Wrong x)))
def askVal (t : List Ent) (l : List Fr) (x : Int) (u : Vl) : Vl := if rightE t l = 0 ∧ x = 0 then u else zVl
set_option maxRecDepth 100000 in
set_option maxHeartbeats 2000000 in
theorem ask_calls (a : Nat) (t : List Ent) (A : Option Addr) (c : Nat) (l : List Fr) (g : Nat) (caps : Array Value) (x : Int) (u : Vl) (w : World) (h : IsRow w a t A c l)
    (heg : ∀ (args : Array Value) (W : World), (callFunc g args).run Tryd.prog W = .ok (.enter g args) W)
    (hwhat : rightE t l = 0 → WhatOk w a A c l g caps x u) :
    Calls Tryd.prog 97 #[.pointer (some ⟨a, 0, none⟩), .slice A l.length c, .func (.func g) #[] caps] w (AskPost w (askVal t l x u) (chErr t l x)) := by
  have HS := Aside0.mk (AskW.start w)
  have HRt := Aside0.mk (fun (W : World) (hB : Below w.heap.size w W) => Right_calls a t A c l W (h.below hB))
  have HWhat := Aside0.mk hwhat
  clear h hwhat
  generalize hP : AskPost w (askVal t l x u) (chErr t l x) = Post
  have HPost := Aside0.mk hP
  clear hP
  go_enter_defers Tryd.func97, Tryd.ntmps97
  go_wp2_with first
    | (go_at_call 133
       refine (HRt.out _ HS.out.below).mono ?_
       rintro e w3 ⟨rfl, hb⟩
       have H3 := Aside0.mk (HS.out.step hb)
       clear hb)
    | (go_at_call 88
       by_cases hre : rightE t l = 0
       rotate_left
       · rw [show (rightE t l == 0) = false by simpa using hre]
         refine (must_no 9 _).mono ?_
         rintro e w4 ⟨rfl, rfl⟩
         show bodyPostD _ _ _ _ _ _
         rw [← HPost.out, show askVal t l x u = zVl from if_neg (fun hh => hre hh.1), show chErr t l x = 9 from if_neg hre]
         exact ask_wrong w 9 _ _ rfl rfl H3.out
       rw [hre]
       have HRe := Aside0.mk hre
       refine (must_ok 9 _).mono ?_
       rintro e w4 ⟨rfl, rfl⟩
       clear hre)
    | (show Calls _ g _ _ _
       refine (Calls.cast (HWhat.out HRe.out w3 H3.out.below) rfl).mono ?_
       rintro e w5 ⟨hb5, ⟨hx0, rfl⟩ | ⟨hx, rfl⟩⟩
       rotate_left
       · show bodyPostD _ _ _ _ _ _
         rw [← HPost.out, show askVal t l x u = zVl from if_neg (fun hh => hx hh.2), show chErr t l x = x from if_pos HRe.out]
         exact ask_wrong w x _ _ rfl rfl (H3.out.step hb5)
       have H5 := Aside0.mk (H3.out.step hb5)
       have HX := Aside0.mk hx0
       have z0 := (blk_cell H5.out.val 0).trans rfl
       have z1 := (blk_cell H5.out.val 1).trans rfl
       have z2 := (blk_cell H5.out.val 2).trans rfl
       have z3 := (blk_cell H5.out.val 3).trans rfl
       have y0 := blk_frozen H5.out.val 0
       have y1 := blk_frozen H5.out.val 1
       have y2 := blk_frozen H5.out.val 2
       have y3 := blk_frozen H5.out.val 3
       have x0 := (blk_cell H5.out.err 0).trans rfl
       have x1 := blk_frozen H5.out.err 0
       clear hb5 hx0)
  show bodyPostD _ _ _ _ _ _
  rw [← HPost.out, show askVal t l x u = u from if_pos ⟨HRe.out, HX.out⟩, show chErr t l x = 0 from (if_pos HRe.out).trans HX.out]
  have h8 := blk_set4 (.int .u8 u.k) (.int .u64 u.b) (.int .i64 u.d) (.int .i64 u.s) H5.out.val
  have h8e : _ = some (Obj.cells #[.int .i64 0] 31 (0, 0)) := blk_far (blk_far (blk_far (blk_far H5.out.err (p := ⟨w.heap.size, 0, none⟩) (by simp) (.int .u8 u.k)) (p := ⟨w.heap.size, 1, none⟩) (by simp) (.int .u64 u.b)) (p := ⟨w.heap.size, 2, none⟩) (by simp) (.int .i64 u.d)) (p := ⟨w.heap.size, 3, none⟩) (by simp) (.int .i64 u.s)
  refine ask_fine w u 0 _ _ rfl rfl ⟨(below_set4 _ _ _ _ H5.out.below (Nat.le_refl _)).setCell (Nat.le_succ _) _, blk_far h8 (by simp) _, ?_⟩
  simpa using blk_set h8e 0 (.int .i64 0)
def getE (l : List Fr) (d s : Int) : Int := if hasS l d s = true then 0 else 2
set_option maxRecDepth 100000 in
set_option maxHeartbeats 2000000 in
theorem get1_ok (w : World) (a p1 p2 : Nat) (t : List Ent) (A : Option Addr) (c : Nat) (d s : Int) (l : List Fr) (h : IsRow w a t A c l)
    (b1 : w.heap[p1]? = some (.cells #[.int .i64 d] 3 (0, 0))) (b2 : w.heap[p2]? = some (.cells #[.int .i64 s] 3 (0, 0))) :
    WhatOk w a A c l 98 #[.pointer (some ⟨p1, 0, none⟩), .pointer (some ⟨p2, 0, none⟩)] (getE l d s) (vl (fr l d).l s) := by
  intro W hb
  show Calls _ _ #[.agg #[.pointer (some ⟨a, 0, none⟩), .slice A l.length c], .pointer (some ⟨p1, 0, none⟩), .pointer (some ⟨p2, 0, none⟩)] _ _
  have HB := Aside0.mk (FitW.start W a A l.length c zVl)
  have hI := Aside0.mk (h.below hb)
  have HH := Aside0.mk (fun (W1 : World) (hB : Below W.heap.size W W1) => rhas_calls a t A c l d s W1 (hI.out.below hB))
  have H1 := Aside0.mk ((hb.block _ (blk_lt b1)).trans b1)
  have H2 := Aside0.mk ((hb.block _ (blk_lt b2)).trans b2)
  clear hb h b1 b2
  have q0 := HB.out.c0
  have q1 := HB.out.c1
  have q2 : ((W.alloc (.cells #[.pointer (some ⟨a, 0, none⟩), .slice A l.length c] 148)).alloc (.cells #[.int .u8 0, .int .u64 0, .int .i64 0, .int .i64 0] 26)).cell? ⟨p1, 0, none⟩ = some (.int .i64 d) := pw_cell_below HB.out.below ((blk_cell H1.out 0).trans rfl)
  have q3 : ((W.alloc (.cells #[.pointer (some ⟨a, 0, none⟩), .slice A l.length c] 148)).alloc (.cells #[.int .u8 0, .int .u64 0, .int .i64 0, .int .i64 0] 26)).cell? ⟨p2, 0, none⟩ = some (.int .i64 s) := pw_cell_below HB.out.below ((blk_cell H2.out 0).trans rfl)
  go_enter Tryd.func98, Tryd.ntmps98
  go_wp2_with first
    | (go_at_call 95
       refine (HH.out _ HB.out.below).mono ?_
       rintro e w2 ⟨rfl, hb⟩
       have HB2 := Aside0.mk (HB.out.step hb)
       clear hb q0 q1 q2 q3)
    | (go_at_call 88
       with_reducible refine (must_calls (hasS l d s) 2 _).mono ?_
       rintro e w6 ⟨rfl, ⟨hh, rfl⟩ | ⟨hh, rfl⟩⟩
       rotate_left
       · exact ⟨rfl, HB2.out.below, Or.inr ⟨by rw [getE, if_neg (by rw [hh]; decide)]; decide, by rw [getE, if_neg (by rw [hh]; decide)]⟩⟩
       have HHas := Aside0.mk hh
       clear hh)
  obtain ⟨hd0, hd1, hs0, hs1⟩ := hasS_iff.1 HHas.out
  have q1 := HB2.out.c1
  have q2 : w2.cell? ⟨p1, 0, none⟩ = some (.int .i64 d) := pw_cell_below HB2.out.below ((blk_cell H1.out 0).trans rfl)
  have q3 : w2.cell? ⟨p2, 0, none⟩ = some (.int .i64 s) := pw_cell_below HB2.out.below ((blk_cell H2.out 0).trans rfl)
  obtain ⟨ad, A1, c1, rfl, e0, e1, el, eC⟩ := at_Fr (Kd.C_below hI.out.rows HB2.out.below) d hd0 hd1
  obtain ⟨ad1, rfl, f0, f1, f2, f3⟩ := at_Vl eC s hs0 hs1
  have z0 : w2.cell? ⟨W.heap.size + 1, 0, none⟩ = some (.int .u8 0) := (blk_cell HB2.out.val 0).trans rfl
  have z1 : w2.cell? ⟨W.heap.size + 1, 1, none⟩ = some (.int .u64 0) := (blk_cell HB2.out.val 1).trans rfl
  have z2 : w2.cell? ⟨W.heap.size + 1, 2, none⟩ = some (.int .i64 0) := (blk_cell HB2.out.val 2).trans rfl
  have z3 : w2.cell? ⟨W.heap.size + 1, 3, none⟩ = some (.int .i64 0) := (blk_cell HB2.out.val 3).trans rfl
  have y0 := blk_frozen HB2.out.val 0
  have y1 := blk_frozen HB2.out.val 1
  have y2 := blk_frozen HB2.out.val 2
  have y3 := blk_frozen HB2.out.val 3
  clear el eC e0
  obtain ⟨v, hv⟩ : ∃ v, v = vl (fr l d).l s := ⟨_, rfl⟩
  rw [← hv] at f0 f1 f2 f3
  have HVV := Aside0.mk hv
  clear hv
  refine start_ (n := 10) (S := fun w' => w'.cell? ⟨W.heap.size, 1, none⟩ = some (.slice (some ad) l.length c) ∧ w'.cell? ⟨p1, 0, none⟩ = some (.int .i64 d) ∧ w'.cell? ⟨p2, 0, none⟩ = some (.int .i64 s) ∧ w'.cell? ⟨(ad.add (d.toNat * 2)).block, (ad.add (d.toNat * 2)).off + 1, none⟩ = some (.slice (some ad1) (fr l d).l.length c1) ∧ w'.cell? (ad1.add (s.toNat * 4)) = some (.int .u8 v.k) ∧ w'.cell? ⟨(ad1.add (s.toNat * 4)).block, (ad1.add (s.toNat * 4)).off + 1, none⟩ = some (.int .u64 v.b) ∧ w'.cell? ⟨(ad1.add (s.toNat * 4)).block, (ad1.add (s.toNat * 4)).off + 2, none⟩ = some (.int .i64 v.d) ∧ w'.cell? ⟨(ad1.add (s.toNat * 4)).block, (ad1.add (s.toNat * 4)).off + 3, none⟩ = some (.int .i64 v.s)) (ds := [9]) #[false, false, false, false, false, false, false, false, false, false] (by kernel_rfl) rfl rfl ⟨q1, q2, q3, e1, f0, f1, f2, f3⟩ (fun hHeld => ?_)
  refine pure_ (i := 0) (N := some 10) (v := ?_) (a' := ?_) #[true, false, false, false, false, false, false, false, false, false] rfl rfl (by kernel_rfl) (fun _ _ _ h => h) (Or.inl ⟨by rfl, ?_⟩) ?_ ?_
  rotate_left
  · intro w'
    go_simp
    with_reducible rfl
  rotate_left
  · simp only [Act.put, List.setIfInBounds_toArray, List.set_cons_zero, List.set_cons_succ, i64_w, i32_w]
    rfl
  refine take_ (i := 1) (N := some 11) (v := ?_) (a' := ?_) #[true, true, false, false, false, false, false, false, false, false] rfl rfl (by kernel_rfl) (fun _ _ _ h => h) (Or.inl ⟨by rfl, ?_⟩) hHeld ?_ ?_
  rotate_left
  · rintro w' ⟨s0, s1, s2, s3, s4, s5, s6, s7⟩
    go_simp
    with_reducible rfl
  rotate_left
  · simp only [Act.put, List.setIfInBounds_toArray, List.set_cons_zero, List.set_cons_succ, i64_w, i32_w]
    rfl
  refine take_ (i := 2) (N := some 12) (v := ?_) (a' := ?_) #[true, true, true, false, false, false, false, false, false, false] rfl rfl (by kernel_rfl) (fun _ _ _ h => h) (Or.inl ⟨by rfl, ?_⟩) hHeld ?_ ?_
  rotate_left
  · rintro w' ⟨s0, s1, s2, s3, s4, s5, s6, s7⟩
    go_simp
    with_reducible rfl
  rotate_left
  · simp only [Act.put, List.setIfInBounds_toArray, List.set_cons_zero, List.set_cons_succ, i64_w, i32_w]
    rfl
  refine pure_ (i := 3) (N := some 13) (v := ?_) (a' := ?_) #[true, true, true, true, false, false, false, false, false, false] rfl rfl (by kernel_rfl) (fun _ _ _ h => h) (Or.inl ⟨by rfl, ?_⟩) ?_ ?_
  rotate_left
  · intro w'
    go_simp
    with_reducible rfl
  rotate_left
  · simp only [Act.put, List.setIfInBounds_toArray, List.set_cons_zero, List.set_cons_succ, i64_w, i32_w]
    rfl
  refine pure_ (i := 4) (N := some 14) (v := ?_) (a' := ?_) #[true, true, true, true, true, false, false, false, false, false] rfl rfl (by kernel_rfl) (fun _ _ _ h => h) (Or.inl ⟨by rfl, ?_⟩) ?_ ?_
  rotate_left
  · intro w'
    go_simp
    with_reducible rfl
  rotate_left
  · simp only [Act.put, List.setIfInBounds_toArray, List.set_cons_zero, List.set_cons_succ, i64_w, i32_w]
    rfl
  refine take_ (i := 5) (N := some 15) (v := ?_) (a' := ?_) #[true, true, true, true, true, true, false, false, false, false] rfl rfl (by kernel_rfl) (fun _ _ _ h => h) (Or.inl ⟨by rfl, ?_⟩) hHeld ?_ ?_
  rotate_left
  · rintro w' ⟨s0, s1, s2, s3, s4, s5, s6, s7⟩
    go_simp
    with_reducible rfl
  rotate_left
  · simp only [Act.put, List.setIfInBounds_toArray, List.set_cons_zero, List.set_cons_succ, i64_w, i32_w]
    rfl
  refine take_ (i := 6) (N := some 16) (v := ?_) (a' := ?_) #[true, true, true, true, true, true, true, false, false, false] rfl rfl (by kernel_rfl) (fun _ _ _ h => h) (Or.inl ⟨by rfl, ?_⟩) hHeld ?_ ?_
  rotate_left
  · rintro w' ⟨s0, s1, s2, s3, s4, s5, s6, s7⟩
    go_simp
    with_reducible rfl
  rotate_left
  · simp only [Act.put, List.setIfInBounds_toArray, List.set_cons_zero, List.set_cons_succ, i64_w, i32_w]
    rfl
  refine pure_ (i := 7) (N := some 17) (v := ?_) (a' := ?_) #[true, true, true, true, true, true, true, true, false, false] rfl rfl (by kernel_rfl) (fun _ _ _ h => h) (Or.inl ⟨by rfl, ?_⟩) ?_ ?_
  rotate_left
  · intro w'
    go_simp
    with_reducible rfl
  rotate_left
  · simp only [Act.put, List.setIfInBounds_toArray, List.set_cons_zero, List.set_cons_succ, i64_w, i32_w]
    rfl
  refine take_ (i := 8) (N := some 18) (v := ?_) (a' := ?_) #[true, true, true, true, true, true, true, true, true, false] rfl rfl (by kernel_rfl) (fun _ _ _ h => h) (Or.inl ⟨by rfl, ?_⟩) hHeld ?_ ?_
  rotate_left
  · rintro w' ⟨s0, s1, s2, s3, s4, s5, s6, s7⟩
    go_simp
    with_reducible rfl
  rotate_left
  · simp only [Act.put, List.setIfInBounds_toArray, List.set_cons_zero, List.set_cons_succ, i64_w, i32_w]
    rfl
  refine last_ (i := 9) (N := none) #[true, true, true, true, true, true, true, true, true, true] rfl rfl (by kernel_rfl) (by decide) (fun K hK => ?_)
  refine skip_ (w1 := ?_) (by rfl) rfl ?_ ?_
  rotate_left
  · go_simp
    rfl
  refine hK.out _ _ ?_
  clear hK K
  refine done_ (by kernel_rfl) ?_
  clear hHeld
  go_wp2
  have hfin := blk_set4 (.int .u8 v.k) (.int .u64 v.b) (.int .i64 v.d) (.int .i64 v.s) HB2.out.val
  refine ⟨rfl, _, results_c1 Tryd.results98 _ _ (W.heap.size + 1) 26 _ (0, 0) _ rfl hfin Tryd.underlying26 rfl (by kernel_rfl), ?_, Or.inl ⟨by rw [getE, if_pos HHas.out], by rw [← HVV.out]⟩⟩
  exact below_drew (below_set4 _ _ _ _ HB2.out.below (Nat.le_succ _))
end Go.Proofs.YtfaghjadjpiaiaaDoor.Sh
namespace Go.Proofs.YtfaghjadjpiaiaaDoor.Sh
open Go.RowKit Go.Shelf Go.Proofs.YtfaghjadjpiaiaaDoorW.PrintWords Go.Proofs.YtfaghjadjpiaiaaDoorW.PrintLast Go.Proofs.YtfaghjadjpiaiaaDoorW.PrintMore
set_option linter.unusedVariables false
set_option linter.unusedSimpArgs false
theorem I64_slot {w : World} {A : Option Addr} {n : Nat} {l : List Fr} (h : kFr.C w A n l) {d s : Int} (hh : hasS l d s = true) (hn : n = l.length) : I64 s := by
  have h3 := hasS_iff.1 hh
  obtain ⟨ad, A1, c1, _, _, _, _, hC⟩ := at_Fr h d h3.1 (by omega)
  have := hC.2.1
  exact ⟨by omega, by omega⟩
def loadV (l : List Fr) (d s : Int) : Vl := vl (fr l (vl (fr l d).l s).d).l (vl (fr l d).l s).s
set_option maxRecDepth 100000 in
set_option maxHeartbeats 2000000 in
theorem load1_ok (w : World) (a p1 p2 : Nat) (t : List Ent) (A : Option Addr) (c : Nat) (d s : Int) (l : List Fr) (h : IsRow w a t A c l) (hs : I64 s) (hr0 : rightE t l = 0)
    (b1 : w.heap[p1]? = some (.cells #[.int .i64 d] 3 (0, 0))) (b2 : w.heap[p2]? = some (.cells #[.int .i64 s] 3 (0, 0))) :
    WhatOk w a A c l 99 #[.pointer (some ⟨p1, 0, none⟩), .pointer (some ⟨p2, 0, none⟩)] (refE t l d s) (loadV l d s) := by
  intro W hb
  show Calls _ _ #[.agg #[.pointer (some ⟨a, 0, none⟩), .slice A l.length c], .pointer (some ⟨p1, 0, none⟩), .pointer (some ⟨p2, 0, none⟩)] _ _
  have HB := Aside0.mk (FitW.start W a A l.length c zVl)
  have hI := Aside0.mk (h.below hb)
  have HF := Aside0.mk (fun (W1 : World) (hB : Below W.heap.size W W1) => refers_calls a t A c l d s W1 (hI.out.below hB) hs)
  have H1 := Aside0.mk ((hb.block _ (blk_lt b1)).trans b1)
  have H2 := Aside0.mk ((hb.block _ (blk_lt b2)).trans b2)
  have HR0 := Aside0.mk hr0
  clear hb h b1 b2 hs hr0
  have q0 := HB.out.c0
  have q1 := HB.out.c1
  have q2 : ((W.alloc (.cells #[.pointer (some ⟨a, 0, none⟩), .slice A l.length c] 148)).alloc (.cells #[.int .u8 0, .int .u64 0, .int .i64 0, .int .i64 0] 26)).cell? ⟨p1, 0, none⟩ = some (.int .i64 d) := pw_cell_below HB.out.below ((blk_cell H1.out 0).trans rfl)
  have q3 : ((W.alloc (.cells #[.pointer (some ⟨a, 0, none⟩), .slice A l.length c] 148)).alloc (.cells #[.int .u8 0, .int .u64 0, .int .i64 0, .int .i64 0] 26)).cell? ⟨p2, 0, none⟩ = some (.int .i64 s) := pw_cell_below HB.out.below ((blk_cell H2.out 0).trans rfl)
  go_enter Tryd.func99, Tryd.ntmps99
  go_wp2_with first
    | (go_at_call 100
       refine (HF.out _ HB.out.below).mono ?_
       rintro e w2 ⟨hb, ⟨hz, hh, rfl⟩ | ⟨hz, rfl⟩⟩
       rotate_left
       · exact ⟨rfl, (HB.out.step hb).below, Or.inr ⟨hz, rfl⟩⟩
       have HB2 := Aside0.mk (HB.out.step hb)
       have HZ := Aside0.mk hz
       have HHas := Aside0.mk hh
       clear hb q0 q1 q2 q3 hz hh)
  obtain ⟨u, hu⟩ : ∃ u, u = vl (fr l d).l s := ⟨_, rfl⟩
  have HUU := Aside0.mk hu
  have hh2 := right_ref HR0.out HHas.out (refE_zero HZ.out).2.2
  rw [← hu] at hh2
  have HPost := Aside0.mk (show loadV l d s = vl (fr l u.d).l u.s by rw [loadV, ← hu])
  rw [← hu]
  have HB5 := Aside0.mk (HB2.out.step (below_alloc (Below.refl _ _) (.cells #[.int .u8 u.k, .int .u64 u.b, .int .i64 u.d, .int .i64 u.s] 26)))
  have hbk := heap_alloc_new w2 (.cells #[.int .u8 u.k, .int .u64 u.b, .int .i64 u.d, .int .i64 u.s] 26)
  generalize w2.alloc (.cells #[.int .u8 u.k, .int .u64 u.b, .int .i64 u.d, .int .i64 u.s] 26) = w5 at *
  obtain ⟨N, hN⟩ : ∃ N, N = w2.heap.size := ⟨_, rfl⟩
  rw [← hN] at hbk
  rw [← hN]
  clear hN hu
  obtain ⟨hd0, hd1, hs0, hs1⟩ := hasS_iff.1 hh2
  have q1 := HB5.out.c1
  have q2 : w5.cell? ⟨N, 2, none⟩ = some (.int .i64 u.d) := (blk_cell hbk 2).trans rfl
  have q3 : w5.cell? ⟨N, 3, none⟩ = some (.int .i64 u.s) := (blk_cell hbk 3).trans rfl
  obtain ⟨ad, A1, c1, rfl, e0, e1, el, eC⟩ := at_Fr (Kd.C_below hI.out.rows HB5.out.below) u.d hd0 hd1
  obtain ⟨ad1, rfl, f0, f1, f2, f3⟩ := at_Vl eC u.s hs0 hs1
  have z0 : w5.cell? ⟨W.heap.size + 1, 0, none⟩ = some (.int .u8 0) := (blk_cell HB5.out.val 0).trans rfl
  have z1 : w5.cell? ⟨W.heap.size + 1, 1, none⟩ = some (.int .u64 0) := (blk_cell HB5.out.val 1).trans rfl
  have z2 : w5.cell? ⟨W.heap.size + 1, 2, none⟩ = some (.int .i64 0) := (blk_cell HB5.out.val 2).trans rfl
  have z3 : w5.cell? ⟨W.heap.size + 1, 3, none⟩ = some (.int .i64 0) := (blk_cell HB5.out.val 3).trans rfl
  have y0 := blk_frozen HB5.out.val 0
  have y1 := blk_frozen HB5.out.val 1
  have y2 := blk_frozen HB5.out.val 2
  have y3 := blk_frozen HB5.out.val 3
  clear el eC e0 hh2 hbk
  obtain ⟨v, hv⟩ : ∃ v, v = vl (fr l u.d).l u.s := ⟨_, rfl⟩
  rw [← hv] at f0 f1 f2 f3
  have HVV := Aside0.mk hv
  clear hv
  refine start_ (n := 12) (S := fun w' => w'.cell? ⟨W.heap.size, 1, none⟩ = some (.slice (some ad) l.length c) ∧ w'.cell? ⟨N, 2, none⟩ = some (.int .i64 u.d) ∧ w'.cell? ⟨N, 3, none⟩ = some (.int .i64 u.s) ∧ w'.cell? ⟨(ad.add (u.d.toNat * 2)).block, (ad.add (u.d.toNat * 2)).off + 1, none⟩ = some (.slice (some ad1) (fr l u.d).l.length c1) ∧ w'.cell? (ad1.add (u.s.toNat * 4)) = some (.int .u8 v.k) ∧ w'.cell? ⟨(ad1.add (u.s.toNat * 4)).block, (ad1.add (u.s.toNat * 4)).off + 1, none⟩ = some (.int .u64 v.b) ∧ w'.cell? ⟨(ad1.add (u.s.toNat * 4)).block, (ad1.add (u.s.toNat * 4)).off + 2, none⟩ = some (.int .i64 v.d) ∧ w'.cell? ⟨(ad1.add (u.s.toNat * 4)).block, (ad1.add (u.s.toNat * 4)).off + 3, none⟩ = some (.int .i64 v.s)) (ds := [11]) #[false, false, false, false, false, false, false, false, false, false, false, false] (by kernel_rfl) rfl rfl ⟨q1, q2, q3, e1, f0, f1, f2, f3⟩ (fun hHeld => ?_)
  refine pure_ (i := 0) (N := some 10) (v := ?_) (a' := ?_) #[true, false, false, false, false, false, false, false, false, false, false, false] rfl rfl (by kernel_rfl) (fun _ _ _ h => h) (Or.inl ⟨by rfl, ?_⟩) ?_ ?_
  rotate_left
  · intro w'
    go_simp
    with_reducible rfl
  rotate_left
  · simp only [Act.put, List.setIfInBounds_toArray, List.set_cons_zero, List.set_cons_succ, i64_w, i32_w]
    rfl
  refine pure_ (i := 2) (N := some 12) (v := ?_) (a' := ?_) #[true, false, true, false, false, false, false, false, false, false, false, false] rfl rfl (by kernel_rfl) (fun _ _ _ h => h) (Or.inl ⟨by rfl, ?_⟩) ?_ ?_
  rotate_left
  · intro w'
    go_simp
    with_reducible rfl
  rotate_left
  · simp only [Act.put, List.setIfInBounds_toArray, List.set_cons_zero, List.set_cons_succ, i64_w, i32_w]
    rfl
  refine pure_ (i := 7) (N := some 17) (v := ?_) (a' := ?_) #[true, false, true, false, false, false, false, true, false, false, false, false] rfl rfl (by kernel_rfl) (fun _ _ _ h => h) (Or.inl ⟨by rfl, ?_⟩) ?_ ?_
  rotate_left
  · intro w'
    go_simp
    with_reducible rfl
  rotate_left
  · simp only [Act.put, List.setIfInBounds_toArray, List.set_cons_zero, List.set_cons_succ, i64_w, i32_w]
    rfl
  refine take_ (i := 1) (N := some 11) (v := ?_) (a' := ?_) #[true, true, true, false, false, false, false, true, false, false, false, false] rfl rfl (by kernel_rfl) (fun _ _ _ h => h) (Or.inl ⟨by rfl, ?_⟩) hHeld ?_ ?_
  rotate_left
  · rintro w' ⟨s0, s1, s2, s3, s4, s5, s6, s7⟩
    go_simp
    with_reducible rfl
  rotate_left
  · simp only [Act.put, List.setIfInBounds_toArray, List.set_cons_zero, List.set_cons_succ, i64_w, i32_w]
    rfl
  refine take_ (i := 3) (N := some 13) (v := ?_) (a' := ?_) #[true, true, true, true, false, false, false, true, false, false, false, false] rfl rfl (by kernel_rfl) (fun _ _ _ h => h) (Or.inl ⟨by rfl, ?_⟩) hHeld ?_ ?_
  rotate_left
  · rintro w' ⟨s0, s1, s2, s3, s4, s5, s6, s7⟩
    go_simp
    with_reducible rfl
  rotate_left
  · simp only [Act.put, List.setIfInBounds_toArray, List.set_cons_zero, List.set_cons_succ, i64_w, i32_w]
    rfl
  refine pure_ (i := 4) (N := some 14) (v := ?_) (a' := ?_) #[true, true, true, true, true, false, false, true, false, false, false, false] rfl rfl (by kernel_rfl) (fun _ _ _ h => h) (Or.inl ⟨by rfl, ?_⟩) ?_ ?_
  rotate_left
  · intro w'
    go_simp
    with_reducible rfl
  rotate_left
  · simp only [Act.put, List.setIfInBounds_toArray, List.set_cons_zero, List.set_cons_succ, i64_w, i32_w]
    rfl
  refine pure_ (i := 5) (N := some 15) (v := ?_) (a' := ?_) #[true, true, true, true, true, true, false, true, false, false, false, false] rfl rfl (by kernel_rfl) (fun _ _ _ h => h) (Or.inl ⟨by rfl, ?_⟩) ?_ ?_
  rotate_left
  · intro w'
    go_simp
    with_reducible rfl
  rotate_left
  · simp only [Act.put, List.setIfInBounds_toArray, List.set_cons_zero, List.set_cons_succ, i64_w, i32_w]
    rfl
  refine take_ (i := 6) (N := some 16) (v := ?_) (a' := ?_) #[true, true, true, true, true, true, true, true, false, false, false, false] rfl rfl (by kernel_rfl) (fun _ _ _ h => h) (Or.inl ⟨by rfl, ?_⟩) hHeld ?_ ?_
  rotate_left
  · rintro w' ⟨s0, s1, s2, s3, s4, s5, s6, s7⟩
    go_simp
    with_reducible rfl
  rotate_left
  · simp only [Act.put, List.setIfInBounds_toArray, List.set_cons_zero, List.set_cons_succ, i64_w, i32_w]
    rfl
  refine take_ (i := 8) (N := some 18) (v := ?_) (a' := ?_) #[true, true, true, true, true, true, true, true, true, false, false, false] rfl rfl (by kernel_rfl) (fun _ _ _ h => h) (Or.inl ⟨by rfl, ?_⟩) hHeld ?_ ?_
  rotate_left
  · rintro w' ⟨s0, s1, s2, s3, s4, s5, s6, s7⟩
    go_simp
    with_reducible rfl
  rotate_left
  · simp only [Act.put, List.setIfInBounds_toArray, List.set_cons_zero, List.set_cons_succ, i64_w, i32_w]
    rfl
  refine pure_ (i := 9) (N := some 19) (v := ?_) (a' := ?_) #[true, true, true, true, true, true, true, true, true, true, false, false] rfl rfl (by kernel_rfl) (fun _ _ _ h => h) (Or.inl ⟨by rfl, ?_⟩) ?_ ?_
  rotate_left
  · intro w'
    go_simp
    with_reducible rfl
  rotate_left
  · simp only [Act.put, List.setIfInBounds_toArray, List.set_cons_zero, List.set_cons_succ, i64_w, i32_w]
    rfl
  refine take_ (i := 10) (N := some 20) (v := ?_) (a' := ?_) #[true, true, true, true, true, true, true, true, true, true, true, false] rfl rfl (by kernel_rfl) (fun _ _ _ h => h) (Or.inl ⟨by rfl, ?_⟩) hHeld ?_ ?_
  rotate_left
  · rintro w' ⟨s0, s1, s2, s3, s4, s5, s6, s7⟩
    go_simp
    with_reducible rfl
  rotate_left
  · simp only [Act.put, List.setIfInBounds_toArray, List.set_cons_zero, List.set_cons_succ, i64_w, i32_w]
    rfl
  refine last_ (i := 11) (N := none) #[true, true, true, true, true, true, true, true, true, true, true, true] rfl rfl (by kernel_rfl) (by decide) (fun K hK => ?_)
  refine skip_ (w1 := ?_) (by rfl) rfl ?_ ?_
  rotate_left
  · go_simp
    rfl
  refine hK.out _ _ ?_
  clear hK K
  refine done_ (by kernel_rfl) ?_
  clear hHeld
  go_wp2
  have hfin := blk_set4 (.int .u8 v.k) (.int .u64 v.b) (.int .i64 v.d) (.int .i64 v.s) HB5.out.val
  refine ⟨rfl, _, results_c1 Tryd.results99 _ _ (W.heap.size + 1) 26 _ (0, 0) _ rfl hfin Tryd.underlying26 rfl (by kernel_rfl), ?_, Or.inl ⟨HZ.out, by rw [HPost.out, ← HVV.out]⟩⟩
  exact below_drew (below_set4 _ _ _ _ HB5.out.below (Nat.le_succ _))
end Go.Proofs.YtfaghjadjpiaiaaDoor.Sh
namespace Go.Proofs.YtfaghjadjpiaiaaDoor.Sh
open Go.RowKit Go.Shelf Go.Proofs.YtfaghjadjpiaiaaDoorW.PrintWords Go.Proofs.YtfaghjadjpiaiaaDoorW.PrintLast Go.Proofs.YtfaghjadjpiaiaaDoorW.PrintMore
set_option linter.unusedVariables false
set_option linter.unusedSimpArgs false
theorem Return_calls (a : Nat) (t : List Ent) (A : Option Addr) (c : Nat) (l : List Fr) (w : World) (h : IsRow w a t A c l) (hs : SmallR l) :
    Calls Tryd.prog 41 #[.pointer (some ⟨a, 0, none⟩), .slice A l.length c] w (ChPost w (chRow t l (retE l) (l.take (l.length - 1))) (chErr t l (retE l))) := by
  have HC := Aside0.mk (change_calls a t A c l 90 #[] (retE l) (l.take (l.length - 1)) w h hs (enters_of Tryd.func90 (by kernel_rfl) rfl) (fun _ => ret1_ok w a l))
  generalize chRow t l (retE l) (l.take (l.length - 1)) = L at *
  generalize chErr t l (retE l) = X at *
  clear h hs
  go_enter Tryd.func41, Tryd.ntmps41
  go_wp2_with (go_at_call 86; refine HC.out.mono ?_; rintro e w' ⟨A', c', rfl, g1, g2, g3⟩; have G1 := Aside0.mk g1; have G2 := Aside0.mk g2; have G3 := Aside0.mk g3; clear g1 g2 g3)
  go_ret2
  exact ⟨A', c', rfl, G1.out, G2.out, G3.out⟩
theorem Set_calls (a : Nat) (t : List Ent) (A : Option Addr) (c : Nat) (l : List Fr) (d s : Int) (v : Vl) (w : World) (h : IsRow w a t A c l) (hs : SmallR l) (hI : I64 s) :
    Calls Tryd.prog 44 #[.pointer (some ⟨a, 0, none⟩), .slice A l.length c, .int .i64 d, .int .i64 s, .agg #[.int .u8 v.k, .int .u64 v.b, .int .i64 v.d, .int .i64 v.s]] w (ChPost w (chRow t l (setE t l d s v) (setRow l d s v)) (chErr t l (setE t l d s v))) := by
  have hmf : ∀ (fn : Fn) (first cap : Array Value) (w : World), (Instr.makeFunc fn first cap).run Tryd.prog w = .ok (.func fn first cap) w := fun _ _ _ _ => rfl
  have hb : Below w.heap.size w (((w.alloc (.cells #[.int .i64 d] 3)).alloc (.cells #[.int .i64 s] 3)).alloc (.cells #[.int .u8 v.k, .int .u64 v.b, .int .i64 v.d, .int .i64 v.s] 26)) := below_alloc (below_alloc (below_alloc (Below.refl _ _) _) _) _
  have h1 := h.below hb
  have HB := Aside0.mk hb
  have b1 : (((w.alloc (.cells #[.int .i64 d] 3)).alloc (.cells #[.int .i64 s] 3)).alloc (.cells #[.int .u8 v.k, .int .u64 v.b, .int .i64 v.d, .int .i64 v.s] 26)).heap[w.heap.size]? = some (.cells #[.int .i64 d] 3 (0, 0)) := blk_alloc (blk_alloc (heap_alloc_new w _) _) _
  have b2 : (((w.alloc (.cells #[.int .i64 d] 3)).alloc (.cells #[.int .i64 s] 3)).alloc (.cells #[.int .u8 v.k, .int .u64 v.b, .int .i64 v.d, .int .i64 v.s] 26)).heap[w.heap.size + 1]? = some (.cells #[.int .i64 s] 3 (0, 0)) := blk_alloc (by have := heap_alloc_new (w.alloc (.cells #[.int .i64 d] 3)) (.cells #[.int .i64 s] 3); simpa using this) _
  have b3 : (((w.alloc (.cells #[.int .i64 d] 3)).alloc (.cells #[.int .i64 s] 3)).alloc (.cells #[.int .u8 v.k, .int .u64 v.b, .int .i64 v.d, .int .i64 v.s] 26)).heap[w.heap.size + 1 + 1]? = some (.cells #[.int .u8 v.k, .int .u64 v.b, .int .i64 v.d, .int .i64 v.s] 26 (0, 0)) := by
    have := heap_alloc_new ((w.alloc (.cells #[.int .i64 d] 3)).alloc (.cells #[.int .i64 s] 3)) (.cells #[.int .u8 v.k, .int .u64 v.b, .int .i64 v.d, .int .i64 v.s] 26); simpa using this
  have HC := Aside0.mk (change_calls a t A c l 94 #[.pointer (some ⟨w.heap.size, 0, none⟩), .pointer (some ⟨w.heap.size + 1, 0, none⟩), .pointer (some ⟨w.heap.size + 1 + 1, 0, none⟩)] (setE t l d s v) (setRow l d s v) _ h1 hs (enters_of Tryd.func94 (by kernel_rfl) rfl) (fun _ => set1_ok _ a _ _ _ t d s v l h1.tab h1.bits hI b1 b2 b3))
  have HP := Aside0.mk (show ∃ L X, L = chRow t l (setE t l d s v) (setRow l d s v) ∧ X = chErr t l (setE t l d s v) from ⟨_, _, rfl, rfl⟩)
  generalize chRow t l (setE t l d s v) (setRow l d s v) = L at *
  generalize chErr t l (setE t l d s v) = X at *
  clear h hs hb h1 b1 b2 b3 hI HP
  go_enter Tryd.func44, Tryd.ntmps44
  go_wp2_with (go_at_call 86; refine HC.out.mono ?_; rintro e w' ⟨A', c', rfl, g1, g2, g3⟩; have G1 := Aside0.mk g1; have G2 := Aside0.mk g2; have G3 := Aside0.mk g3; clear g1 g2 g3)
  go_ret2
  exact ⟨A', c', rfl, G1.out, G2.out, below_then HB.out HB.out.size G3.out⟩
theorem Write_calls (a : Nat) (t : List Ent) (A : Option Addr) (c : Nat) (l : List Fr) (d s b : Int) (w : World) (h : IsRow w a t A c l) (hs : SmallR l) (hI : I64 s) :
    Calls Tryd.prog 47 #[.pointer (some ⟨a, 0, none⟩), .slice A l.length c, .int .i64 d, .int .i64 s, .int .u64 b] w (ChPost w (chRow t l (writeE t l d s) (writeRow l d s b)) (chErr t l (writeE t l d s))) := by
  have hmf : ∀ (fn : Fn) (first cap : Array Value) (w : World), (Instr.makeFunc fn first cap).run Tryd.prog w = .ok (.func fn first cap) w := fun _ _ _ _ => rfl
  have hb : Below w.heap.size w (((w.alloc (.cells #[.int .i64 d] 3)).alloc (.cells #[.int .i64 s] 3)).alloc (.cells #[.int .u64 b] 24)) := below_alloc (below_alloc (below_alloc (Below.refl _ _) _) _) _
  have h1 := h.below hb
  have HB := Aside0.mk hb
  have b1 : (((w.alloc (.cells #[.int .i64 d] 3)).alloc (.cells #[.int .i64 s] 3)).alloc (.cells #[.int .u64 b] 24)).heap[w.heap.size]? = some (.cells #[.int .i64 d] 3 (0, 0)) := blk_alloc (blk_alloc (heap_alloc_new w _) _) _
  have b2 : (((w.alloc (.cells #[.int .i64 d] 3)).alloc (.cells #[.int .i64 s] 3)).alloc (.cells #[.int .u64 b] 24)).heap[w.heap.size + 1]? = some (.cells #[.int .i64 s] 3 (0, 0)) := blk_alloc (by have := heap_alloc_new (w.alloc (.cells #[.int .i64 d] 3)) (.cells #[.int .i64 s] 3); simpa using this) _
  have b3 : (((w.alloc (.cells #[.int .i64 d] 3)).alloc (.cells #[.int .i64 s] 3)).alloc (.cells #[.int .u64 b] 24)).heap[w.heap.size + 1 + 1]? = some (.cells #[.int .u64 b] 24 (0, 0)) := by
    have := heap_alloc_new ((w.alloc (.cells #[.int .i64 d] 3)).alloc (.cells #[.int .i64 s] 3)) (.cells #[.int .u64 b] 24); simpa using this
  have HC := Aside0.mk (change_calls a t A c l 101 #[.pointer (some ⟨w.heap.size, 0, none⟩), .pointer (some ⟨w.heap.size + 1, 0, none⟩), .pointer (some ⟨w.heap.size + 1 + 1, 0, none⟩)] (writeE t l d s) (writeRow l d s b) _ h1 hs (enters_of Tryd.func101 (by kernel_rfl) rfl) (fun hr0 => write1_ok _ a _ _ _ t d s b l h1.tab h1.bits hI hr0 b1 b2 b3))
  have HP := Aside0.mk (show ∃ L X, L = chRow t l (writeE t l d s) (writeRow l d s b) ∧ X = chErr t l (writeE t l d s) from ⟨_, _, rfl, rfl⟩)
  generalize chRow t l (writeE t l d s) (writeRow l d s b) = L at *
  generalize chErr t l (writeE t l d s) = X at *
  clear h hs hb h1 b1 b2 b3 hI HP
  go_enter Tryd.func47, Tryd.ntmps47
  go_wp2_with (go_at_call 86; refine HC.out.mono ?_; rintro e w' ⟨A', c', rfl, g1, g2, g3⟩; have G1 := Aside0.mk g1; have G2 := Aside0.mk g2; have G3 := Aside0.mk g3; clear g1 g2 g3)
  go_ret2
  exact ⟨A', c', rfl, G1.out, G2.out, below_then HB.out HB.out.size G3.out⟩
theorem Get_calls (a : Nat) (t : List Ent) (A : Option Addr) (c : Nat) (l : List Fr) (d s : Int) (w : World) (h : IsRow w a t A c l) :
    Calls Tryd.prog 45 #[.pointer (some ⟨a, 0, none⟩), .slice A l.length c, .int .i64 d, .int .i64 s] w (AskPost w (askVal t l (getE l d s) (vl (fr l d).l s)) (chErr t l (getE l d s))) := by
  have hmf : ∀ (fn : Fn) (first cap : Array Value) (w : World), (Instr.makeFunc fn first cap).run Tryd.prog w = .ok (.func fn first cap) w := fun _ _ _ _ => rfl
  have hb : Below w.heap.size w (((w.alloc (.cells #[.int .i64 d] 3)).alloc (.cells #[.int .i64 s] 3)).alloc (.cells #[.int .u8 0, .int .u64 0, .int .i64 0, .int .i64 0] 26)) := below_alloc (below_alloc (below_alloc (Below.refl _ _) _) _) _
  have h1 := h.below hb
  have HB := Aside0.mk hb
  have b1 : (((w.alloc (.cells #[.int .i64 d] 3)).alloc (.cells #[.int .i64 s] 3)).alloc (.cells #[.int .u8 0, .int .u64 0, .int .i64 0, .int .i64 0] 26)).heap[w.heap.size]? = some (.cells #[.int .i64 d] 3 (0, 0)) := blk_alloc (blk_alloc (heap_alloc_new w _) _) _
  have b2 : (((w.alloc (.cells #[.int .i64 d] 3)).alloc (.cells #[.int .i64 s] 3)).alloc (.cells #[.int .u8 0, .int .u64 0, .int .i64 0, .int .i64 0] 26)).heap[w.heap.size + 1]? = some (.cells #[.int .i64 s] 3 (0, 0)) := blk_alloc (by have := heap_alloc_new (w.alloc (.cells #[.int .i64 d] 3)) (.cells #[.int .i64 s] 3); simpa using this) _
  have b3 : (((w.alloc (.cells #[.int .i64 d] 3)).alloc (.cells #[.int .i64 s] 3)).alloc (.cells #[.int .u8 0, .int .u64 0, .int .i64 0, .int .i64 0] 26)).heap[w.heap.size + 1 + 1]? = some (.cells #[.int .u8 0, .int .u64 0, .int .i64 0, .int .i64 0] 26 (0, 0)) := by
    have := heap_alloc_new ((w.alloc (.cells #[.int .i64 d] 3)).alloc (.cells #[.int .i64 s] 3)) (.cells #[.int .u8 0, .int .u64 0, .int .i64 0, .int .i64 0] 26); simpa using this
  have B3 := Aside0.mk b3
  have HC := Aside0.mk (ask_calls a t A c l 98 #[.pointer (some ⟨w.heap.size, 0, none⟩), .pointer (some ⟨w.heap.size + 1, 0, none⟩)] (getE l d s) (vl (fr l d).l s) _ h1 (enters_of Tryd.func98 (by kernel_rfl) rfl) (fun _ => get1_ok _ a _ _ t A c d s l h1 b1 b2))
  generalize askVal t l (getE l d s) (vl (fr l d).l s) = L at *
  generalize chErr t l (getE l d s) = X at *
  clear h hb h1 b1 b2 b3
  go_enter Tryd.func45, Tryd.ntmps45
  go_wp2_with (go_at_call 97; refine HC.out.mono ?_; rintro e w' ⟨rfl, g3⟩; have B4 := Aside0.mk ((g3.block _ (blk_lt B3.out)).trans B3.out); have G3 := Aside0.mk (below_then HB.out HB.out.size g3); clear g3; have z0 := (blk_cell B4.out 0).trans rfl; have z1 := (blk_cell B4.out 1).trans rfl; have z2 := (blk_cell B4.out 2).trans rfl; have z3 := (blk_cell B4.out 3).trans rfl; have y0 := blk_frozen B4.out 0; have y1 := blk_frozen B4.out 1; have y2 := blk_frozen B4.out 2; have y3 := blk_frozen B4.out 3)
  have hfin := blk_set4 (.int .u8 L.k) (.int .u64 L.b) (.int .i64 L.d) (.int .i64 L.s) B4.out
  exact ⟨rfl, _, results_ct Tryd.results45 _ _ (w.heap.size + 1 + 1) 26 _ (0, 0) _ rfl hfin Tryd.underlying26 rfl (by kernel_rfl), rfl, below_set4 _ _ _ _ G3.out (by omega)⟩
theorem Load_calls (a : Nat) (t : List Ent) (A : Option Addr) (c : Nat) (l : List Fr) (d s : Int) (w : World) (h : IsRow w a t A c l) (hI : I64 s) :
    Calls Tryd.prog 46 #[.pointer (some ⟨a, 0, none⟩), .slice A l.length c, .int .i64 d, .int .i64 s] w (AskPost w (askVal t l (refE t l d s) (loadV l d s)) (chErr t l (refE t l d s))) := by
  have hmf : ∀ (fn : Fn) (first cap : Array Value) (w : World), (Instr.makeFunc fn first cap).run Tryd.prog w = .ok (.func fn first cap) w := fun _ _ _ _ => rfl
  have hb : Below w.heap.size w (((w.alloc (.cells #[.int .i64 d] 3)).alloc (.cells #[.int .i64 s] 3)).alloc (.cells #[.int .u8 0, .int .u64 0, .int .i64 0, .int .i64 0] 26)) := below_alloc (below_alloc (below_alloc (Below.refl _ _) _) _) _
  have h1 := h.below hb
  have HB := Aside0.mk hb
  have b1 : (((w.alloc (.cells #[.int .i64 d] 3)).alloc (.cells #[.int .i64 s] 3)).alloc (.cells #[.int .u8 0, .int .u64 0, .int .i64 0, .int .i64 0] 26)).heap[w.heap.size]? = some (.cells #[.int .i64 d] 3 (0, 0)) := blk_alloc (blk_alloc (heap_alloc_new w _) _) _
  have b2 : (((w.alloc (.cells #[.int .i64 d] 3)).alloc (.cells #[.int .i64 s] 3)).alloc (.cells #[.int .u8 0, .int .u64 0, .int .i64 0, .int .i64 0] 26)).heap[w.heap.size + 1]? = some (.cells #[.int .i64 s] 3 (0, 0)) := blk_alloc (by have := heap_alloc_new (w.alloc (.cells #[.int .i64 d] 3)) (.cells #[.int .i64 s] 3); simpa using this) _
  have b3 : (((w.alloc (.cells #[.int .i64 d] 3)).alloc (.cells #[.int .i64 s] 3)).alloc (.cells #[.int .u8 0, .int .u64 0, .int .i64 0, .int .i64 0] 26)).heap[w.heap.size + 1 + 1]? = some (.cells #[.int .u8 0, .int .u64 0, .int .i64 0, .int .i64 0] 26 (0, 0)) := by
    have := heap_alloc_new ((w.alloc (.cells #[.int .i64 d] 3)).alloc (.cells #[.int .i64 s] 3)) (.cells #[.int .u8 0, .int .u64 0, .int .i64 0, .int .i64 0] 26); simpa using this
  have B3 := Aside0.mk b3
  have HC := Aside0.mk (ask_calls a t A c l 99 #[.pointer (some ⟨w.heap.size, 0, none⟩), .pointer (some ⟨w.heap.size + 1, 0, none⟩)] (refE t l d s) (loadV l d s) _ h1 (enters_of Tryd.func99 (by kernel_rfl) rfl) (fun hr0 => load1_ok _ a _ _ t A c d s l h1 hI hr0 b1 b2))
  generalize askVal t l (refE t l d s) (loadV l d s) = L at *
  generalize chErr t l (refE t l d s) = X at *
  clear h hb h1 b1 b2 b3
  go_enter Tryd.func46, Tryd.ntmps46
  go_wp2_with (go_at_call 97; refine HC.out.mono ?_; rintro e w' ⟨rfl, g3⟩; have B4 := Aside0.mk ((g3.block _ (blk_lt B3.out)).trans B3.out); have G3 := Aside0.mk (below_then HB.out HB.out.size g3); clear g3; have z0 := (blk_cell B4.out 0).trans rfl; have z1 := (blk_cell B4.out 1).trans rfl; have z2 := (blk_cell B4.out 2).trans rfl; have z3 := (blk_cell B4.out 3).trans rfl; have y0 := blk_frozen B4.out 0; have y1 := blk_frozen B4.out 1; have y2 := blk_frozen B4.out 2; have y3 := blk_frozen B4.out 3)
  have hfin := blk_set4 (.int .u8 L.k) (.int .u64 L.b) (.int .i64 L.d) (.int .i64 L.s) B4.out
  exact ⟨rfl, _, results_ct Tryd.results46 _ _ (w.heap.size + 1 + 1) 26 _ (0, 0) _ rfl hfin Tryd.underlying26 rfl (by kernel_rfl), rfl, below_set4 _ _ _ _ G3.out (by omega)⟩
end Go.Proofs.YtfaghjadjpiaiaaDoor.Sh
namespace Go.Proofs.YtfaghjadjpiaiaaDoor.Sh
open Go.RowKit Go.Shelf Go.Proofs.YtfaghjadjpiaiaaDoorW.PrintWords Go.Proofs.YtfaghjadjpiaiaaDoorW.PrintLast Go.Proofs.YtfaghjadjpiaiaaDoorW.PrintMore
set_option linter.unusedVariables false
set_option linter.unusedSimpArgs false
def callE (t : List Ent) (f : Int) : Int := if 0 ≤ tSize t f then 0 else 1
def slotAt (t : List Ent) (f : Int) (k i : Nat) : Vl := if i < k ∧ tPtr t f (i : Int) = false then ⟨1, 0, 0, 0⟩ else zVl
def slotsOf (t : List Ent) (f : Int) (n k : Nat) : List Vl := (List.range n).map (slotAt t f k)
def newFr (t : List Ent) (f : Int) : Fr := ⟨f, slotsOf t f (tSize t f).toNat (tSize t f).toNat⟩
theorem slotsOf_length (t : List Ent) (f : Int) (n k : Nat) : (slotsOf t f n k).length = n := by simp [slotsOf]
theorem slotsOf_zero (t : List Ent) (f : Int) (n : Nat) : slotsOf t f n 0 = List.replicate n zVl := by
  apply List.ext_getElem
  · simp [slotsOf]
  · intro i h1 h2
    simp [slotsOf, slotAt]
theorem slotsOf_get (t : List Ent) (f : Int) {n k i : Nat} (h : i < n) : (slotsOf t f n k)[i]? = some (slotAt t f k i) := by
  simp [slotsOf, h]
theorem slotsOf_skip (t : List Ent) (f : Int) {n k : Nat} (hp : tPtr t f (k : Int) = true) : slotsOf t f n (k + 1) = slotsOf t f n k := by
  unfold slotsOf
  apply List.map_congr_left
  intro i _
  unfold slotAt
  by_cases hi : i = k
  · subst hi
    rw [if_neg (by rw [hp]; simp), if_neg (by omega)]
  · have : (i < k + 1 ∧ tPtr t f (i : Int) = false) ↔ (i < k ∧ tPtr t f (i : Int) = false) := by
      constructor <;> rintro ⟨h1, h2⟩ <;> exact ⟨by omega, h2⟩
    simp only [this]
theorem slotsOf_step (t : List Ent) (f : Int) {n k : Nat} (hk : k < n) (hp : tPtr t f (k : Int) = false) : slotsOf t f n (k + 1) = (slotsOf t f n k).set k ⟨1, 0, 0, 0⟩ := by
  apply List.ext_getElem?
  intro i
  by_cases hi : i < n
  · rw [slotsOf_get t f hi]
    by_cases hik : i = k
    · subst hik
      rw [List.getElem?_set_self (by rw [slotsOf_length]; exact hi)]
      unfold slotAt
      rw [if_pos ⟨by omega, hp⟩]
    · rw [List.getElem?_set_ne (fun h => hik h.symm), slotsOf_get t f hi]
      unfold slotAt
      have : (i < k + 1 ∧ tPtr t f (i : Int) = false) ↔ (i < k ∧ tPtr t f (i : Int) = false) := by
        constructor <;> rintro ⟨h1, h2⟩ <;> exact ⟨by omega, h2⟩
      simp only [this]
  · rw [List.getElem?_eq_none (by rw [slotsOf_length]; omega), List.getElem?_eq_none (by rw [List.length_set, slotsOf_length]; omega)]
set_option maxRecDepth 100000 in
set_option maxHeartbeats 2000000 in
theorem call1_ok (w : World) (a p1 : Nat) (t : List Ent) (f : Int) (l : List Fr) (hT : IsTab w a t) (hA : AllE t) (hz : tSize t f ≤ 1000000) (hl : l.length ≤ 1000000)
    (b1 : w.heap[p1]? = some (.cells #[.int .i64 f] 3 (0, 0))) :
    HowOk w a l 87 #[.pointer (some ⟨p1, 0, none⟩)] (callE t f) (l ++ [newFr t f]) := by
  intro B r W A2 c2 hb hB hr hBW hrow hR
  show Calls _ _ #[.pointer (some ⟨r, 0, none⟩), .pointer (some ⟨p1, 0, none⟩)] _ _
  have HB := Aside0.mk (show BoxW W r a A2 l.length c2 p1 p1 f f W from ⟨hrow, (hb.block _ (blk_lt b1)).trans b1, (hb.block _ (blk_lt b1)).trans b1, Below.refl _ _⟩)
  have HTb := Aside0.mk (show IsTab W a t from hT.below hb)
  have HA := Aside0.mk hA
  have HS := Aside0.mk hR
  have HPos := Aside0.mk (And.intro hr hBW)
  have HP1 := Aside0.mk (show p1 < B from Nat.lt_of_lt_of_le (blk_lt b1) hB)
  clear hb hB hr hBW hrow hR hT hA b1
  have q0 := HB.out.r0
  have q2 := HB.out.q1
  go_enter Tryd.func87, Tryd.ntmps87
  go_wp2_with fail
  refine start_ (n := 8) (S := fun w' => w'.cell? ⟨r, 0, none⟩ = some (.pointer (some ⟨a, 0, none⟩)) ∧ w'.cell? ⟨p1, 0, none⟩ = some (.int .i64 f)) (ds := []) #[false, false, false, false, false, false, false, false] (by kernel_rfl) rfl rfl ⟨q0, q2⟩ (fun hHeld => ?_)
  refine pure_ (i := 0) (N := some 5) (v := ?_) (a' := ?_) #[true, false, false, false, false, false, false, false] rfl rfl (by kernel_rfl) (fun _ _ _ h => h) (Or.inl ⟨by rfl, ?_⟩) ?_ ?_
  rotate_left
  · intro w'
    go_simp
    with_reducible rfl
  rotate_left
  · simp only [Act.put, List.setIfInBounds_toArray, List.set_cons_zero, List.set_cons_succ, i64_w, i32_w]
    rfl
  refine pure_ (i := 1) (N := some 6) (v := ?_) (a' := ?_) #[true, true, false, false, false, false, false, false] rfl rfl (by kernel_rfl) (fun _ _ _ h => h) (Or.inl ⟨by rfl, ?_⟩) ?_ ?_
  rotate_left
  · intro w'
    go_simp
    with_reducible rfl
  rotate_left
  · simp only [Act.put, List.setIfInBounds_toArray, List.set_cons_zero, List.set_cons_succ, i64_w, i32_w]
    rfl
  refine pure_ (i := 2) (N := some 7) (v := ?_) (a' := ?_) #[true, true, true, false, false, false, false, false] rfl rfl (by kernel_rfl) (fun _ _ _ h => h) (Or.inl ⟨by rfl, ?_⟩) ?_ ?_
  rotate_left
  · intro w'
    go_simp
    with_reducible rfl
  rotate_left
  · simp only [Act.put, List.setIfInBounds_toArray, List.set_cons_zero, List.set_cons_succ, i64_w, i32_w]
    rfl
  refine take_ (i := 3) (N := some 8) (v := ?_) (a' := ?_) #[true, true, true, true, false, false, false, false] rfl rfl (by kernel_rfl) (fun _ _ _ h => h) (Or.inl ⟨by rfl, ?_⟩) hHeld ?_ ?_
  rotate_left
  · rintro w' ⟨s0, s1⟩
    go_simp
    with_reducible rfl
  rotate_left
  · simp only [Act.put, List.setIfInBounds_toArray, List.set_cons_zero, List.set_cons_succ, i64_w, i32_w]
    rfl
  refine take_ (i := 4) (N := some 9) (v := ?_) (a' := ?_) #[true, true, true, true, true, false, false, false] rfl rfl (by kernel_rfl) (fun _ _ _ h => h) (Or.inl ⟨by rfl, ?_⟩) hHeld ?_ ?_
  rotate_left
  · rintro w' ⟨s0, s1⟩
    go_simp
    with_reducible rfl
  rotate_left
  · simp only [Act.put, List.setIfInBounds_toArray, List.set_cons_zero, List.set_cons_succ, i64_w, i32_w]
    rfl
  refine one_ (i := 5) (N := some 10) #[true, true, true, true, true, true, false, false] rfl rfl (by kernel_rfl) (by decide) (fun K hK => ?_)
  refine goes_ Tryd.func72 (by kernel_rfl) rfl #[.pointer (some ⟨a, 0, none⟩), .int .i64 f] (by rfl) rfl rfl (by simp only [List.map_toArray, List.map_cons, List.map_nil]; rfl) ?_
  with_reducible refine (size_calls a t f _ (HTb.out.below (below_drew (Below.refl _ _)))).mono ?_
  rintro e w5 ⟨rfl, rfl⟩
  refine ⟨_, rfl, ?_⟩
  refine hK.out _ _ ⟨q0, q2⟩ (fun hHeld => ?_)
  clear hK K
  refine norm_ (a' := ?_) ?_ ?_
  rotate_left
  · show Act.put _ (some 10) _ = _
    simp only [Act.put, List.setIfInBounds_toArray, List.set_cons_zero, List.set_cons_succ, i64_w, i32_w]
    rfl
  refine pure_ (i := 6) (N := some 11) (v := ?_) (a' := ?_) #[true, true, true, true, true, true, true, false] rfl rfl (by kernel_rfl) (fun _ _ _ h => h) (Or.inl ⟨by rfl, ?_⟩) ?_ ?_
  rotate_left
  · intro w'
    go_simp
    with_reducible rfl
  rotate_left
  · simp only [Act.put, List.setIfInBounds_toArray, List.set_cons_zero, List.set_cons_succ, i64_w, i32_w]
    rfl
  refine one_ (i := 7) (N := some 12) #[true, true, true, true, true, true, true, true] rfl rfl (by kernel_rfl) (by decide) (fun K hK => ?_)
  show if _ = true then Oper.wp _ _ _ _ _ _ else _
  refine goesT_ Tryd.func88 (by kernel_rfl) rfl #[.bool (decide (tSize t f ≥ 0)), .int .i64 1] (by rfl) rfl rfl (by simp only [List.map_toArray, List.map_cons, List.map_nil]; rfl) ?_
  with_reducible refine (must_calls _ _ _).mono ?_
  rintro e w6 ⟨rfl, ⟨hh, rfl⟩ | ⟨hh, rfl⟩⟩
  rotate_left
  · exact Or.inr ⟨_, rfl, rfl, below_drew (Below.refl _ _), Or.inr ⟨by rw [callE, if_neg (of_decide_eq_false hh)]; decide, by rw [callE, if_neg (of_decide_eq_false hh)]⟩⟩
  refine Or.inl ⟨_, rfl, ?_⟩
  have HZ := Aside0.mk (show 0 ≤ tSize t f from of_decide_eq_true hh)
  clear hh
  refine hK.out _ _ ⟨q0, q2⟩ (fun hHeld => ?_)
  clear hK K
  refine norm_ (a' := ?_) ?_ ?_
  rotate_left
  · show Act.put _ (some 12) _ = _
    simp only [Act.put, List.setIfInBounds_toArray, List.set_cons_zero, List.set_cons_succ, i64_w, i32_w]
    rfl
  refine done_ (by kernel_rfl) ?_
  clear hHeld q0 q2
  have HB1 := Aside0.mk (HB.out.step (below_drew (Below.refl _ _)))
  have hs1 : W.drew.heap.size = W.heap.size := rfl
  have HSz1 := Aside0.mk hs1
  clear hs1
  generalize W.drew = w1 at *
  have q0 := HB1.out.r0
  have q2 := HB1.out.q1
  have HCE := Aside0.mk (show callE t f = 0 from if_pos HZ.out)
  have HT1 := Aside0.mk (HTb.out.below HB1.out.below)
  obtain ⟨n, hn⟩ : ∃ n : Nat, tSize t f = (n : Int) := ⟨(tSize t f).toNat, by have := HZ.out; omega⟩
  rw [hn] at hz
  have HN := Aside0.mk hn
  have HNF := Aside0.mk (show newFr t f = ⟨f, slotsOf t f n n⟩ by unfold newFr; rw [hn]; simp)
  have HSC := Aside0.mk (fun (W1 : World) (hB : Below w1.heap.size w1 W1) => size_calls a t f W1 (HT1.out.below hB))
  rw [hn]
  rw [hn] at HSC
  clear hn
  go_wp2_with fail
  refine start_ (n := 8) (S := fun w' => w'.cell? ⟨r, 0, none⟩ = some (.pointer (some ⟨a, 0, none⟩)) ∧ w'.cell? ⟨p1, 0, none⟩ = some (.int .i64 f)) (ds := []) #[false, false, false, false, false, false, false, false] (by kernel_rfl) rfl rfl ⟨q0, q2⟩ (fun hHeld => ?_)
  refine pure_ (i := 0) (N := some 13) (v := ?_) (a' := ?_) #[true, false, false, false, false, false, false, false] rfl rfl (by kernel_rfl) (fun _ _ _ h => h) (Or.inl ⟨by rfl, ?_⟩) ?_ ?_
  rotate_left
  · intro w'
    go_simp
    with_reducible rfl
  rotate_left
  · simp only [Act.put, List.setIfInBounds_toArray, List.set_cons_zero, List.set_cons_succ, i64_w, i32_w]
    rfl
  refine pure_ (i := 1) (N := some 14) (v := ?_) (a' := ?_) #[true, true, false, false, false, false, false, false] rfl rfl (by kernel_rfl) (fun _ _ _ h => h) (Or.inl ⟨by rfl, ?_⟩) ?_ ?_
  rotate_left
  · intro w'
    go_simp
    with_reducible rfl
  rotate_left
  · simp only [Act.put, List.setIfInBounds_toArray, List.set_cons_zero, List.set_cons_succ, i64_w, i32_w]
    rfl
  refine pure_ (i := 2) (N := some 15) (v := ?_) (a' := ?_) #[true, true, true, false, false, false, false, false] rfl rfl (by kernel_rfl) (fun _ _ _ h => h) (Or.inl ⟨by rfl, ?_⟩) ?_ ?_
  rotate_left
  · intro w'
    go_simp
    with_reducible rfl
  rotate_left
  · simp only [Act.put, List.setIfInBounds_toArray, List.set_cons_zero, List.set_cons_succ, i64_w, i32_w]
    rfl
  refine take_ (i := 3) (N := some 16) (v := ?_) (a' := ?_) #[true, true, true, true, false, false, false, false] rfl rfl (by kernel_rfl) (fun _ _ _ h => h) (Or.inl ⟨by rfl, ?_⟩) hHeld ?_ ?_
  rotate_left
  · rintro w' ⟨s0, s1⟩
    go_simp
    with_reducible rfl
  rotate_left
  · simp only [Act.put, List.setIfInBounds_toArray, List.set_cons_zero, List.set_cons_succ, i64_w, i32_w]
    rfl
  refine take_ (i := 4) (N := some 17) (v := ?_) (a' := ?_) #[true, true, true, true, true, false, false, false] rfl rfl (by kernel_rfl) (fun _ _ _ h => h) (Or.inl ⟨by rfl, ?_⟩) hHeld ?_ ?_
  rotate_left
  · rintro w' ⟨s0, s1⟩
    go_simp
    with_reducible rfl
  rotate_left
  · simp only [Act.put, List.setIfInBounds_toArray, List.set_cons_zero, List.set_cons_succ, i64_w, i32_w]
    rfl
  refine one_ (i := 5) (N := some 18) #[true, true, true, true, true, true, false, false] rfl rfl (by kernel_rfl) (by decide) (fun K hK => ?_)
  refine goes_ Tryd.func72 (by kernel_rfl) rfl #[.pointer (some ⟨a, 0, none⟩), .int .i64 f] (by rfl) rfl rfl (by simp only [List.map_toArray, List.map_cons, List.map_nil]; rfl) ?_
  with_reducible refine (HSC.out _ (below_drew (Below.refl _ _))).mono ?_
  rintro e w5 ⟨rfl, rfl⟩
  refine ⟨_, rfl, ?_⟩
  refine hK.out _ _ ⟨q0, q2⟩ (fun hHeld => ?_)
  clear hK K
  refine norm_ (a' := ?_) ?_ ?_
  rotate_left
  · show Act.put _ (some 18) _ = _
    simp only [Act.put, List.setIfInBounds_toArray, List.set_cons_zero, List.set_cons_succ, i64_w, i32_w]
    rfl
  refine one_ (i := 6) (N := some 19) #[true, true, true, true, true, true, true, false] rfl rfl (by kernel_rfl) (by decide) (fun K hK => ?_)
  refine Kd.R_make_step kVl (w0 := w1) (W := w1.drew) w1.heap.size 26 (by rfl) rfl 78 (.tmp 18) (.tmp 18) rfl (n : Int) rfl rfl Tryd.underlying78 (.agg #[.int .u8 0, .int .u64 0, .int .i64 0, .int .i64 0]) 32 info26 rfl (by decide) (by decide) zVl (ok := fun _ => True) (okp := fun _ => False) ?hzero (fun _ h => h.elim) trivial (Int.natCast_nonneg _) ?hl (below_drew (Below.refl _ _)) (Nat.le_refl _) ?_
  case hzero => exact kVl_mkM _ _ _ zVl
  case hl => omega
  intro v6 w6 hR6 hB6 hg6 hat6
  have HB6 := Aside0.mk (HB1.out.step hB6)
  have HR6 := Aside0.mk hR6
  have HBB6 := Aside0.mk hB6
  clear hR6 hB6 hg6 hat6
  refine hK.out _ _ ⟨HB6.out.r0, HB6.out.q1⟩ (fun hHeld => ?_)
  clear hK K
  refine norm_ (a' := ?_) ?_ ?_
  rotate_left
  · show Act.put _ (some 19) _ = _
    simp only [Act.put, List.setIfInBounds_toArray, List.set_cons_zero, List.set_cons_succ, i64_w, i32_w]
    rfl
  refine pure_ (i := 7) (N := some 3) (v := ?_) (a' := ?_) #[true, true, true, true, true, true, true, true] rfl rfl (by kernel_rfl) (fun _ _ _ h => h) (Or.inl ⟨by rfl, ?_⟩) ?_ ?_
  rotate_left
  · intro w'
    go_simp
    with_reducible rfl
  rotate_left
  · simp only [Act.put, List.setIfInBounds_toArray, List.set_cons_zero, List.set_cons_succ, i64_w, i32_w]
    rfl
  refine done_ (by kernel_rfl) ?_
  clear hHeld q0 q2
  obtain ⟨A6, c6, rfl⟩ := Kd.R_slice HR6.out
  have hrl : (List.replicate ((n : Int)).toNat zVl).length = n := by simp
  have HR7 : Aside0 (kVl.R 26 w6 W.heap.size (fun _ => True) (.slice A6 n c6) (slotsOf t f n 0)) := ⟨by
    have h := HR6.out
    rw [hrl, HSz1.out] at h
    rw [slotsOf_zero]
    simpa using h⟩
  rw [hrl]
  clear hrl HR6 HBB6
  have HBl : Aside0 (Below W.heap.size W w6) := ⟨HB6.out.below⟩
  go_wp2_with fail
  clear HB6
  go_loopw [22] (fun i wr => ∃ k : Nat, k ≤ n ∧ i = .int .i64 k ∧ Aside0 (kVl.R 26 wr W.heap.size (fun _ => True) (.slice A6 n c6) (slotsOf t f n k)) ∧ Aside0 (Below W.heap.size W wr)) (fun i _ => n - (intOf i).toNat)
  case atStart => exact ⟨0, Nat.zero_le _, rfl, HR7, HBl⟩
  case round =>
    obtain ⟨k, hk, rfl, HRk, HBk⟩ := hrel
    clear HR7 HBl
    have HBr := Aside0.mk (HB.out.step HBk.out)
    by_cases hlt : k < n
    · have HPt := Aside0.mk (fun (W1 : World) (hB : Below W.heap.size W W1) => ptr_calls a t f (k : Int) W1 (HTb.out.below hB) HA.out ⟨by omega, by omega⟩)
      have q0 := HBr.out.r0
      have q2 := HBr.out.q1
      go_wp2_with fail
      refine start_ (n := 8) (S := fun w' => w'.cell? ⟨r, 0, none⟩ = some (.pointer (some ⟨a, 0, none⟩)) ∧ w'.cell? ⟨p1, 0, none⟩ = some (.int .i64 f)) (ds := []) #[false, false, false, false, false, false, false, false] (by kernel_rfl) rfl rfl ⟨q0, q2⟩ (fun hHeld => ?_)
      refine pure_ (i := 0) (N := some 25) (v := ?_) (a' := ?_) #[true, false, false, false, false, false, false, false] rfl rfl (by kernel_rfl) (fun _ _ _ h => h) (Or.inl ⟨by rfl, ?_⟩) ?_ ?_
      rotate_left
      · intro w'
        go_simp
        with_reducible rfl
      rotate_left
      · simp only [Act.put, List.setIfInBounds_toArray, List.set_cons_zero, List.set_cons_succ, i64_w, i32_w]
        rfl
      refine pure_ (i := 1) (N := some 26) (v := ?_) (a' := ?_) #[true, true, false, false, false, false, false, false] rfl rfl (by kernel_rfl) (fun _ _ _ h => h) (Or.inl ⟨by rfl, ?_⟩) ?_ ?_
      rotate_left
      · intro w'
        go_simp
        with_reducible rfl
      rotate_left
      · simp only [Act.put, List.setIfInBounds_toArray, List.set_cons_zero, List.set_cons_succ, i64_w, i32_w]
        rfl
      refine pure_ (i := 2) (N := some 27) (v := ?_) (a' := ?_) #[true, true, true, false, false, false, false, false] rfl rfl (by kernel_rfl) (fun _ _ _ h => h) (Or.inl ⟨by rfl, ?_⟩) ?_ ?_
      rotate_left
      · intro w'
        go_simp
        with_reducible rfl
      rotate_left
      · simp only [Act.put, List.setIfInBounds_toArray, List.set_cons_zero, List.set_cons_succ, i64_w, i32_w]
        rfl
      refine pure_ (i := 5) (N := some 30) (v := ?_) (a' := ?_) #[true, true, true, false, false, true, false, false] rfl rfl (by kernel_rfl) (fun _ _ _ h => h) (Or.inl ⟨by rfl, ?_⟩) ?_ ?_
      rotate_left
      · intro w'
        go_simp
        with_reducible rfl
      rotate_left
      · simp only [Act.put, List.setIfInBounds_toArray, List.set_cons_zero, List.set_cons_succ, i64_w, i32_w]
        rfl
      refine take_ (i := 3) (N := some 28) (v := ?_) (a' := ?_) #[true, true, true, true, false, true, false, false] rfl rfl (by kernel_rfl) (fun _ _ _ h => h) (Or.inl ⟨by rfl, ?_⟩) hHeld ?_ ?_
      rotate_left
      · rintro w' ⟨s0, s1⟩
        go_simp
        with_reducible rfl
      rotate_left
      · simp only [Act.put, List.setIfInBounds_toArray, List.set_cons_zero, List.set_cons_succ, i64_w, i32_w]
        rfl
      refine take_ (i := 4) (N := some 29) (v := ?_) (a' := ?_) #[true, true, true, true, true, true, false, false] rfl rfl (by kernel_rfl) (fun _ _ _ h => h) (Or.inl ⟨by rfl, ?_⟩) hHeld ?_ ?_
      rotate_left
      · rintro w' ⟨s0, s1⟩
        go_simp
        with_reducible rfl
      rotate_left
      · simp only [Act.put, List.setIfInBounds_toArray, List.set_cons_zero, List.set_cons_succ, i64_w, i32_w]
        rfl
      refine one_ (i := 6) (N := some 31) #[true, true, true, true, true, true, true, false] rfl rfl (by kernel_rfl) (by decide) (fun K hK => ?_)
      refine goes_ Tryd.func89 (by kernel_rfl) rfl #[.pointer (some ⟨a, 0, none⟩), .int .i64 f, .int .i64 (k : Int)] (by rfl) rfl rfl (by simp only [List.map_toArray, List.map_cons, List.map_nil]; rfl) ?_
      with_reducible refine (HPt.out _ (below_drew HBk.out)).mono ?_
      rintro e w8 ⟨rfl, hB8⟩
      refine ⟨_, rfl, ?_⟩
      have HB8 := Aside0.mk (below_of_drew hB8)
      clear hB8
      refine hK.out _ _ ⟨(pw_cell_below HB8.out q0), (pw_cell_below HB8.out q2)⟩ (fun hHeld => ?_)
      clear hK K
      refine norm_ (a' := ?_) ?_ ?_
      rotate_left
      · show Act.put _ (some 31) _ = _
        simp only [Act.put, List.setIfInBounds_toArray, List.set_cons_zero, List.set_cons_succ, i64_w, i32_w]
        rfl
      refine pure_ (i := 7) (N := some 32) (v := ?_) (a' := ?_) #[true, true, true, true, true, true, true, true] rfl rfl (by kernel_rfl) (fun _ _ _ h => h) (Or.inl ⟨by rfl, ?_⟩) ?_ ?_
      rotate_left
      · intro w'
        go_simp
        with_reducible rfl
      rotate_left
      · simp only [Act.put, List.setIfInBounds_toArray, List.set_cons_zero, List.set_cons_succ, i64_w, i32_w]
        rfl
      refine done_ (by kernel_rfl) ?_
      clear hHeld q0 q2
      have HR8 := Aside0.mk (Kd.R_below HRk.out HB8.out)
      have HBl8 := Aside0.mk (below_then HBk.out HBk.out.size HB8.out)
      by_cases hp : tPtr t f (k : Int) = true
      · have HSk := Aside0.mk (slotsOf_skip t f (n := n) hp)
        rw [hp]
        go_wp2
        go_roundw
        case rel => exact ⟨k + 1, by omega, by go_num, ⟨by rw [HSk.out]; exact HR8.out⟩, HBl8⟩
        case measure => simp [intOf]; omega
      · have hpf : tPtr t f (k : Int) = false := by simpa using hp
        have HSk := Aside0.mk (slotsOf_step t f hlt hpf)
        rw [hpf]
        obtain ⟨ad6, rfl⟩ : ∃ ad6, A6 = some ad6 := by
          obtain ⟨ad6, he, _⟩ := (Kd.R_reads' HR8.out).2.2.2.2 (by rw [slotsOf_length]; omega)
          exact ⟨ad6, he⟩
        obtain ⟨g, rfl⟩ := Kd.R_head HR8.out
        obtain ⟨cs, hsl, hsM, hsc, hsf⟩ := Kd.R_elem HR8.out zVl (k : Int) (Int.natCast_nonneg _) (by omega)
        obtain rfl := kVl_openM hsM
        have hsv : (slotsOf t f n k).getD ((k : Int)).toNat zVl = zVl := by
          have h1 := slotsOf_get t f (n := n) (k := k) hlt
          simp only [Int.toNat_natCast, List.getD_eq_getElem?_getD, h1]
          unfold slotAt
          rw [if_neg (by omega)]
          rfl
        rw [hsv] at hsc
        have hseg := Kd.R_seg HR8.out (k : Int) (Int.natCast_nonneg _) (by omega) (c := zVl.cells) rfl hsc (seg := [.int .u8 1]) (j := 0) (by decide) (x' := ⟨1, 0, 0, 0⟩) (okp := fun _ => False) (kVl_mkM _ _ _ ⟨1, 0, 0, 0⟩) (fun _ h => h.elim)
        have HSeg := Aside0.mk hseg
        have hgb : W.heap.size ≤ g := Kd.R_base HR8.out g (by simp [Value.ownBlock])
        have HGb := Aside0.mk hgb
        have hc0 : w8.cell? ⟨g, k * 4, none⟩ = some (.int .u8 0) := by
          have := hsc 0 _ rfl
          simp only [Int.toNat_natCast, Nat.add_zero] at this
          exact this
        have hf0 : w8.frozen? ⟨g, k * 4, none⟩ = false := by
          have := hsf 0
          simp only [Int.toNat_natCast, Nat.add_zero] at this
          exact this
        clear hseg hgb hsc hsf hsv hsM hsl
        go_wp2
        go_roundw
        case rel =>
          have h1 := HSeg.out.1
          simp only [Int.toNat_natCast, Nat.add_zero] at h1
          exact ⟨k + 1, by omega, by go_num, ⟨by rw [HSk.out]; exact h1⟩, ⟨HBl8.out.setCell HGb.out _⟩⟩
        case measure => simp [intOf]; omega
    · have hkn : k = n := by omega
      subst hkn
      have HRow := Aside0.mk HBr.out.row
      have hrlt : r < W.heap.size := blk_lt HB.out.row
      have hwr : W.heap.size ≤ wr.heap.size := HBk.out.size
      have HLt := Aside0.mk (And.intro hrlt hwr)
      have q1 := HBr.out.r1
      have q2 := HBr.out.q1
      have q3 := blk_frozen HRow.out 1
      have HNe : Aside0 (some r ≠ (Value.slice A2 l.length c2).ownBlock) := ⟨fun h => (Kd.S_R HS.out).1 r h.symm rfl⟩
      have HOlt : Aside0 (∀ j, (Value.slice A2 l.length c2).ownBlock = some j → j < W.heap.size) := ⟨fun j hj => Kd.S_lt HS.out j hj⟩
      clear hrlt hwr
      go_wp2_with fail
      refine start_ (n := 13) (S := fun w' => w'.cell? ⟨r, 1, none⟩ = some (.slice A2 l.length c2) ∧ w'.cell? ⟨p1, 0, none⟩ = some (.int .i64 f) ∧ w'.frozen? ⟨r, 1, none⟩ = false) (ds := [12]) #[false, false, false, false, false, false, false, false, false, false, false, false, false] (by kernel_rfl) rfl rfl ⟨q1, q2, q3⟩ (fun hHeld => ?_)
      refine pure_ (i := 0) (N := some 38) (v := ?_) (a' := ?_) #[true, false, false, false, false, false, false, false, false, false, false, false, false] rfl rfl (by kernel_rfl) (fun _ _ _ h => h) (Or.inl ⟨by rfl, ?_⟩) ?_ ?_
      rotate_left
      · intro w'
        go_simp
        with_reducible rfl
      rotate_left
      · simp only [Act.put, List.setIfInBounds_toArray, List.set_cons_zero, List.set_cons_succ, i64_w, i32_w]
        rfl
      refine pure_ (i := 1) (N := some 39) (v := ?_) (a' := ?_) #[true, true, false, false, false, false, false, false, false, false, false, false, false] rfl rfl (by kernel_rfl) (fun _ _ _ h => h) (Or.inl ⟨by rfl, ?_⟩) ?_ ?_
      rotate_left
      · intro w'
        go_simp
        with_reducible rfl
      rotate_left
      · simp only [Act.put, List.setIfInBounds_toArray, List.set_cons_zero, List.set_cons_succ, i64_w, i32_w]
        rfl
      refine pure_ (i := 2) (N := some 40) (v := ?_) (a' := ?_) #[true, true, true, false, false, false, false, false, false, false, false, false, false] rfl rfl (by kernel_rfl) (fun _ _ _ h => h) (Or.inl ⟨by rfl, ?_⟩) ?_ ?_
      rotate_left
      · intro w'
        go_simp
        with_reducible rfl
      rotate_left
      · simp only [Act.put, List.setIfInBounds_toArray, List.set_cons_zero, List.set_cons_succ, i64_w, i32_w]
        rfl
      refine pure_ (i := 3) (N := some 41) (v := ?_) (a' := ?_) #[true, true, true, true, false, false, false, false, false, false, false, false, false] rfl rfl (by kernel_rfl) (fun _ _ _ h => h) (Or.inl ⟨by rfl, ?_⟩) ?_ ?_
      rotate_left
      · intro w'
        go_simp
        with_reducible rfl
      rotate_left
      · simp only [Act.put, List.setIfInBounds_toArray, List.set_cons_zero, List.set_cons_succ, i64_w, i32_w]
        rfl
      refine pure_ (i := 6) (N := some 44) (v := ?_) (a' := ?_) #[true, true, true, true, false, false, true, false, false, false, false, false, false] rfl rfl (by kernel_rfl) (fun _ _ _ h => h) (Or.inl ⟨by rfl, ?_⟩) ?_ ?_
      rotate_left
      · intro w'
        go_simp
        with_reducible rfl
      rotate_left
      · simp only [Act.put, List.setIfInBounds_toArray, List.set_cons_zero, List.set_cons_succ, i64_w, i32_w]
        rfl
      refine take_ (i := 4) (N := some 42) (v := ?_) (a' := ?_) #[true, true, true, true, true, false, true, false, false, false, false, false, false] rfl rfl (by kernel_rfl) (fun _ _ _ h => h) (Or.inl ⟨by rfl, ?_⟩) hHeld ?_ ?_
      rotate_left
      · rintro w' ⟨s0, s1, s2⟩
        go_simp
        with_reducible rfl
      rotate_left
      · simp only [Act.put, List.setIfInBounds_toArray, List.set_cons_zero, List.set_cons_succ, i64_w, i32_w]
        rfl
      refine take_ (i := 5) (N := some 43) (v := ?_) (a' := ?_) #[true, true, true, true, true, true, true, false, false, false, false, false, false] rfl rfl (by kernel_rfl) (fun _ _ _ h => h) (Or.inl ⟨by rfl, ?_⟩) hHeld ?_ ?_
      rotate_left
      · rintro w' ⟨s0, s1, s2⟩
        go_simp
        with_reducible rfl
      rotate_left
      · simp only [Act.put, List.setIfInBounds_toArray, List.set_cons_zero, List.set_cons_succ, i64_w, i32_w]
        rfl
      refine pure_ (i := 7) (N := some 45) (v := ?_) (a' := ?_) #[true, true, true, true, true, true, true, true, false, false, false, false, false] rfl rfl (by kernel_rfl) (fun _ _ _ h => h) (Or.inl ⟨by rfl, ?_⟩) ?_ ?_
      rotate_left
      · intro w'
        go_simp
        with_reducible rfl
      rotate_left
      · simp only [Act.put, List.setIfInBounds_toArray, List.set_cons_zero, List.set_cons_succ, i64_w, i32_w]
        rfl
      refine one_ (i := 8) (N := some 46) #[true, true, true, true, true, true, true, true, true, false, false, false, false] rfl rfl (by kernel_rfl) (by decide) (fun K hK => ?_)
      refine value_ (w1 := ?_) (v := ?_) (by rfl) rfl ?_ ?_
      rotate_left 2
      · go_simp
        constructor
        · rfl
        · rfl
      refine hK.out _ _ ⟨(pw_cell_below (below_alloc (Below.refl _ _) _) q1), (pw_cell_below (below_alloc (Below.refl _ _) _) q2), (((below_alloc (Below.refl _ _) _).frozen (blk_lt HRow.out)).trans q3)⟩ (fun hHeld => ?_)
      clear hK K
      refine norm_ (a' := ?_) ?_ ?_
      rotate_left
      · show Act.put _ (some 46) _ = _
        simp only [Act.put, List.setIfInBounds_toArray, List.set_cons_zero, List.set_cons_succ, i64_w, i32_w]
        rfl
      refine one_ (i := 9) (N := some 47) #[true, true, true, true, true, true, true, true, true, true, false, false, false] rfl rfl (by kernel_rfl) (by decide) (fun K hK => ?_)
      refine Kd.S_append_step kFr (w0 := W) (W := wr.drew) B (by rfl) (.tmp 42) (.tmp 46) 23 80 (.agg #[.int .i64 0, .slice none 0 0]) 32 rfl Tryd.underlying23 info80 rfl (by decide) (by omega) (.slice A2 l.length c2) l ⟨f, slotsOf t f k k⟩ [.int .i64 f, .slice A6 k c6] (fun j => j ≠ r) (fun j => W.heap.size ≤ j) rfl (by simp only [Act.eval]; rfl) ?hM ?hok ?hfresh ?hO ?hB ?hbase (by omega) ?_
      case hM => exact kFr_mkM _ _ _ ⟨f, slotsOf t f k k⟩ (Kd.R_drew (Kd.R_lower (Kd.R_mono (Kd.R_bound HRk.out) (fun j hj => hj.2.1)) HPos.out.2))
      case hok => exact fun j hj => ⟨fun h => by have := HLt.out.1; omega, fun h => by have := HOlt.out j h.symm; omega⟩
      case hfresh => exact fun j hj h => by have h1 := HLt.out; have h2 : wr.heap.size ≤ j := hj; omega
      case hO => exact Kd.S_drew (Kd.S_below (Kd.S_mono (Kd.S_bound HS.out) (fun j hj => ⟨hj.1, by have := hj.2.2.1; omega⟩)) HBk.out)
      case hB => exact below_drew (HBk.out.mono HPos.out.2)
      case hbase => exact Nat.le_trans HPos.out.2 HLt.out.2
      intro v9 w9 hS9 hB9 hgr9 hat9
      obtain ⟨A9, c9, rfl⟩ := Kd.S_slice hS9
      have hrw9 := (hgr9.block r (by have := HLt.out; exact Nat.lt_of_lt_of_le this.1 this.2) HNe.out).trans HRow.out
      have HRow9 := Aside0.mk hrw9
      have HS9 := Aside0.mk hS9
      have HB9 := Aside0.mk hB9
      have e1 := (blk_cell hrw9 1).trans rfl
      have e3 := blk_frozen hrw9 1
      have e2 : w9.cell? ⟨p1, 0, none⟩ = some (.int .i64 f) := World.grownBy.cell hgr9 q2 (fun h => by have h1 := Kd.S_base HS.out p1 h.symm; have h2 := HP1.out; omega)
      clear hS9 hB9 hgr9 hat9 hrw9
      refine hK.out _ _ ⟨e1, e2, e3⟩ (fun hHeld => ?_)
      clear hK K
      refine norm_ (a' := ?_) ?_ ?_
      rotate_left
      · show Act.put _ (some 47) _ = _
        simp only [Act.put, List.setIfInBounds_toArray, List.set_cons_zero, List.set_cons_succ, i64_w, i32_w]
        rfl
      refine pure_ (i := 10) (N := some 48) (v := ?_) (a' := ?_) #[true, true, true, true, true, true, true, true, true, true, true, false, false] rfl rfl (by kernel_rfl) (fun _ _ _ h => h) (Or.inl ⟨by rfl, ?_⟩) ?_ ?_
      rotate_left
      · intro w'
        go_simp
        with_reducible rfl
      rotate_left
      · simp only [Act.put, List.setIfInBounds_toArray, List.set_cons_zero, List.set_cons_succ, i64_w, i32_w]
        rfl
      refine pure_ (i := 11) (N := some 49) (v := ?_) (a' := ?_) #[true, true, true, true, true, true, true, true, true, true, true, true, false] rfl rfl (by kernel_rfl) (fun _ _ _ h => h) (Or.inl ⟨by rfl, ?_⟩) ?_ ?_
      rotate_left
      · intro w'
        go_simp
        with_reducible rfl
      rotate_left
      · simp only [Act.put, List.setIfInBounds_toArray, List.set_cons_zero, List.set_cons_succ, i64_w, i32_w]
        rfl
      refine last_ (i := 12) (N := none) #[true, true, true, true, true, true, true, true, true, true, true, true, true] rfl rfl (by kernel_rfl) (by decide) (fun K hK => ?_)
      refine skip_ (w1 := ?_) (by rfl) rfl ?_ ?_
      rotate_left
      · go_simp
        rfl
      refine hK.out _ _ ?_
      clear hK K
      refine done_ (by kernel_rfl) ?_
      clear hHeld
      go_end0
      have hlen : (l ++ [(⟨f, slotsOf t f k k⟩ : Fr)]).length = (l ++ [newFr t f]).length := by simp
      have hrow := blk_set HRow9.out 1 (.slice A9 (l ++ [(⟨f, slotsOf t f k k⟩ : Fr)]).length c9)
      rw [HCE.out, HNF.out]
      refine ⟨HB9.out.setCell (p := ⟨r, 1, none⟩) HPos.out.1 _, Or.inl ⟨rfl, rfl, A9, c9, by simpa using hrow, ?_, by simpa using (Kd.S_reads' HS9.out).2.1⟩⟩
      have hF := Kd.F_mono (Kd.F_far (p := ⟨r, 1, none⟩) (Kd.R_F (Kd.R_mono (Kd.R_bound (Kd.S_R HS9.out)) (ok' := fun j => B ≤ j ∧ j ≠ r) (fun j hj => ⟨hj.2.1, hj.1⟩))) (fun j hj => hj.2) (.slice A9 (l ++ [(⟨f, slotsOf t f k k⟩ : Fr)]).length c9)) (fun j hj => hj.1)
      simpa using hF
theorem Call_calls (a : Nat) (t : List Ent) (A : Option Addr) (c : Nat) (l : List Fr) (f : Int) (w : World) (h : IsRow w a t A c l) (hs : SmallR l) (hz : tSize t f ≤ 1000000) :
    Calls Tryd.prog 40 #[.pointer (some ⟨a, 0, none⟩), .slice A l.length c, .int .i64 f] w (ChPost w (chRow t l (callE t f) (l ++ [newFr t f])) (chErr t l (callE t f))) := by
  have hmf : ∀ (fn : Fn) (first cap : Array Value) (w : World), (Instr.makeFunc fn first cap).run Tryd.prog w = .ok (.func fn first cap) w := fun _ _ _ _ => rfl
  have hb : Below w.heap.size w (w.alloc (.cells #[.int .i64 f] 3)) := below_alloc (Below.refl _ _) _
  have h1 := h.below hb
  have HB := Aside0.mk hb
  have b1 : (w.alloc (.cells #[.int .i64 f] 3)).heap[w.heap.size]? = some (.cells #[.int .i64 f] 3 (0, 0)) := heap_alloc_new w _
  have HC := Aside0.mk (change_calls a t A c l 87 #[.pointer (some ⟨w.heap.size, 0, none⟩)] (callE t f) (l ++ [newFr t f]) _ h1 hs (enters_of Tryd.func87 (by kernel_rfl) rfl) (fun _ => call1_ok _ a _ t f l h1.tab h1.bits hz hs.len b1))
  generalize chRow t l (callE t f) (l ++ [newFr t f]) = L at *
  generalize chErr t l (callE t f) = X at *
  clear h hs hb h1 b1
  go_enter Tryd.func40, Tryd.ntmps40
  go_wp2_with (go_at_call 86; refine HC.out.mono ?_; rintro e w' ⟨A', c', rfl, g1, g2, g3⟩; have G1 := Aside0.mk g1; have G2 := Aside0.mk g2; have G3 := Aside0.mk g3; clear g1 g2 g3)
  go_ret2
  exact ⟨A', c', rfl, G1.out, G2.out, below_then HB.out HB.out.size G3.out⟩
end Go.Proofs.YtfaghjadjpiaiaaDoor.Sh
namespace Go.Proofs.YtfaghjadjpiaiaaDoor.Sh
open Go.RowKit Go.Shelf Go.Proofs.YtfaghjadjpiaiaaDoorW.PrintWords Go.Proofs.YtfaghjadjpiaiaaDoorW.PrintLast Go.Proofs.YtfaghjadjpiaiaaDoorW.PrintMore
set_option linter.unusedVariables false
set_option linter.unusedSimpArgs false
theorem add_num (ad : Addr) (j : Nat) (h : j ≠ 0) : ad.add j = ⟨ad.block, ad.off + j, none⟩ := by unfold Addr.add; split <;> simp_all
def calcErr (t : List Ent) (l : List Fr) (op d : Int) (ns : List Int) : Int :=
  if ns.length = 3 ∧ calcE op = 0 then (if ns.all (hasS l d) = true then (if ns.all (fun s => !tPtr t (fr l d).f s) = true then 0 else 5) else 2) else 1
def calcRow (l : List Fr) (op d : Int) (ns : List Int) : List Fr :=
  setRow l d (rd ns 0) (bitsV (vl (fr l d).l (rd ns 0)) (calcV op (vl (fr l d).l (rd ns 1)).b (vl (fr l d).l (rd ns 2)).b))
/-- What stands while Calc's function runs. -/
structure CalW (W0 : World) (r a : Nat) (A : Option Addr) (n c p1 p2 p3 : Nat) (op d : Int) (A0 : Option Addr) (n0 c0 : Nat) (W : World) : Prop where
  row : W.heap[r]? = some (.cells #[.pointer (some ⟨a, 0, none⟩), .slice A n c] 148 (0, 0))
  b1 : W.heap[p1]? = some (.cells #[.int .u8 op] 5 (0, 0))
  b2 : W.heap[p2]? = some (.cells #[.slice A0 n0 c0] 27 (0, 0))
  b3 : W.heap[p3]? = some (.cells #[.int .i64 d] 3 (0, 0))
  below : Below W0.heap.size W0 W
section
variable {W0 : World} {r a : Nat} {A : Option Addr} {n c p1 p2 p3 : Nat} {op d : Int} {A0 : Option Addr} {n0 c0 : Nat} {W W1 : World}
theorem CalW.step (h : CalW W0 r a A n c p1 p2 p3 op d A0 n0 c0 W) (hb : Below W.heap.size W W1) : CalW W0 r a A n c p1 p2 p3 op d A0 n0 c0 W1 :=
  ⟨(hb.block _ (blk_lt h.row)).trans h.row, (hb.block _ (blk_lt h.b1)).trans h.b1, (hb.block _ (blk_lt h.b2)).trans h.b2, (hb.block _ (blk_lt h.b3)).trans h.b3, below_then h.below h.below.size hb⟩
theorem CalW.r0 (h : CalW W0 r a A n c p1 p2 p3 op d A0 n0 c0 W) : W.cell? ⟨r, 0, none⟩ = some (.pointer (some ⟨a, 0, none⟩)) := (blk_cell h.row 0).trans rfl
theorem CalW.r1 (h : CalW W0 r a A n c p1 p2 p3 op d A0 n0 c0 W) : W.cell? ⟨r, 1, none⟩ = some (.slice A n c) := (blk_cell h.row 1).trans rfl
theorem CalW.q1 (h : CalW W0 r a A n c p1 p2 p3 op d A0 n0 c0 W) : W.cell? ⟨p1, 0, none⟩ = some (.int .u8 op) := (blk_cell h.b1 0).trans rfl
theorem CalW.q2 (h : CalW W0 r a A n c p1 p2 p3 op d A0 n0 c0 W) : W.cell? ⟨p2, 0, none⟩ = some (.slice A0 n0 c0) := (blk_cell h.b2 0).trans rfl
theorem CalW.q3 (h : CalW W0 r a A n c p1 p2 p3 op d A0 n0 c0 W) : W.cell? ⟨p3, 0, none⟩ = some (.int .i64 d) := (blk_cell h.b3 0).trans rfl
end
set_option maxRecDepth 100000 in
set_option maxHeartbeats 4000000 in
theorem calc1_ok (w : World) (a p1 p2 p3 : Nat) (t : List Ent) (op d : Int) (A0 : Option Addr) (c0 : Nat) (ns : List Int) (l : List Fr) (hT : IsTab w a t) (hA : AllE t) (hI : AllI ns) (hns : (Kd.int .i64).C w A0 ns.length ns)
    (b1 : w.heap[p1]? = some (.cells #[.int .u8 op] 5 (0, 0))) (b2 : w.heap[p2]? = some (.cells #[.slice A0 ns.length c0] 27 (0, 0))) (b3 : w.heap[p3]? = some (.cells #[.int .i64 d] 3 (0, 0))) :
    HowOk w a l 103 #[.pointer (some ⟨p1, 0, none⟩), .pointer (some ⟨p2, 0, none⟩), .pointer (some ⟨p3, 0, none⟩)] (calcErr t l op d ns) (calcRow l op d ns) := by
  intro B r W A2 c2 hb hB hr hBW hrow hR
  show Calls _ _ #[.pointer (some ⟨r, 0, none⟩), .pointer (some ⟨p1, 0, none⟩), .pointer (some ⟨p2, 0, none⟩), .pointer (some ⟨p3, 0, none⟩)] _ _
  have HB := Aside0.mk (show CalW W r a A2 l.length c2 p1 p2 p3 op d A0 ns.length c0 W from ⟨hrow, (hb.block _ (blk_lt b1)).trans b1, (hb.block _ (blk_lt b2)).trans b2, (hb.block _ (blk_lt b3)).trans b3, Below.refl _ _⟩)
  have HI := Aside0.mk (show IsRow W a t A2 c2 l from ⟨hT.below hb, hA, (Kd.S_reads' hR).2.2, (Kd.S_reads' hR).2.1⟩)
  have HNs := Aside0.mk (Kd.C_below hns hb)
  have HAI := Aside0.mk hI
  have HS := Aside0.mk hR
  have HPos := Aside0.mk (And.intro hr hBW)
  have hmax : (ns.length : Int) ≤ 9223372036854775807 := by have := hns.2.1; omega
  clear hb hB hr hBW hrow hR hT hA hI hns b1 b2 b3
  have q1 := HB.out.q1
  have q2 := HB.out.q2
  go_enter Tryd.func103, Tryd.ntmps103
  by_cases h3 : ns.length = 3
  rotate_left
  · have HE := Aside0.mk (show calcErr t l op d ns = 1 from if_neg (fun h => h3 h.1))
    have hd : (((ns.length : Nat) : Int) == 3) = false := by
      apply beq_eq_false_iff_ne.2; omega
    clear h3
    go_wp2_with first
      | (go_at_call 104; refine (Calc_calls op 0 0 _).mono ?_; rintro e w1 ⟨rfl, hb1⟩; have HB1 := Aside0.mk (HB.out.step hb1); clear hb1 q1 q2; have q2 := HB1.out.q2)
      | (go_at_call 88; refine (must_no 1 _).mono ?_; rintro e w2 ⟨rfl, rfl⟩)
    exact ⟨rfl, HB1.out.below.mono HPos.out.2, Or.inr ⟨by rw [HE.out]; decide, by rw [HE.out]⟩⟩
  have hd : (((ns.length : Nat) : Int) == 3) = true := by
    apply beq_iff_eq.2; omega
  have H3 := Aside0.mk h3
  by_cases hop : calcE op = 0
  rotate_left
  · have HE := Aside0.mk (show calcErr t l op d ns = 1 from if_neg (fun h => hop h.2))
    have hd2 : (calcE op == 0) = false := by simpa using hop
    clear h3 hop
    go_wp2_with first
      | (go_at_call 104; refine (Calc_calls op 0 0 _).mono ?_; rintro e w1 ⟨rfl, hb1⟩; have HB1 := Aside0.mk (HB.out.step hb1); clear hb1 q1 q2; have q2 := HB1.out.q2)
      | (go_at_call 88; refine (must_no 1 _).mono ?_; rintro e w2 ⟨rfl, rfl⟩)
    exact ⟨rfl, HB1.out.below.mono HPos.out.2, Or.inr ⟨by rw [HE.out]; decide, by rw [HE.out]⟩⟩
  have hd2 : (calcE op == 0) = true := by simpa using hop
  have HOp := Aside0.mk hop
  clear h3 hop
  go_wp2_with first
    | (go_at_call 104; refine (Calc_calls op 0 0 _).mono ?_; rintro e w1 ⟨rfl, hb1⟩; have HB1 := Aside0.mk (HB.out.step hb1); clear hb1 q1 q2; have q2 := HB1.out.q2)
    | (go_at_call 88; refine (must_ok 1 _).mono ?_; rintro e w2 ⟨rfl, rfl⟩)
  have HBl1 := Aside0.mk HB1.out.below
  go_loopw [27] (fun i wr => ∃ k : Nat, k ≤ ns.length ∧ i = .int .i64 k ∧ Aside0 (Below W.heap.size W wr) ∧ Aside0 ((ns.take k).all (hasS l d) = true)) (fun i _ => ns.length - (intOf i).toNat)
  case atStart => exact ⟨0, Nat.zero_le _, rfl, HBl1, ⟨by simp⟩⟩
  case round =>
    obtain ⟨k, hk, rfl, HBk, HAll⟩ := hrel
    clear HBl1 q2
    have HBr := Aside0.mk (HB.out.step HBk.out)
    by_cases hlt : k < ns.length
    · obtain ⟨ad0, hA0, hcell⟩ := Kd.at_int (Kd.C_below HNs.out HBk.out) (k : Int) (by omega) (by omega)
      simp only [Int.toNat_natCast] at hcell
      have HA0 := Aside0.mk hA0
      rw [hA0]
      have hget : ns[k]? = some (rd ns k) := by simp [rd, List.getElem?_eq_getElem hlt]
      have HT := Aside0.mk (take_get hget)
      have HMem := Aside0.mk (List.mem_of_getElem? hget)
      obtain ⟨s, hs⟩ : ∃ s, s = rd ns k := ⟨_, rfl⟩
      rw [← hs] at hcell HT HMem
      have HH := Aside0.mk (fun (W1 : World) (hB : Below W.heap.size W W1) => rhas_calls a t A2 c2 l d s W1 (HI.out.below hB))
      have q0 := HBr.out.r0
      have q1 := HBr.out.r1
      have q3 := HBr.out.q3
      clear hget hs hA0
      go_wp2_with fail
      clear hcell
      refine start_ (n := 7) (S := fun w' => w'.cell? ⟨r, 0, none⟩ = some (.pointer (some ⟨a, 0, none⟩)) ∧ w'.cell? ⟨r, 1, none⟩ = some (.slice A2 l.length c2) ∧ w'.cell? ⟨p3, 0, none⟩ = some (.int .i64 d)) (ds := []) #[false, false, false, false, false, false, false] (by kernel_rfl) rfl rfl ⟨q0, q1, q3⟩ (fun hHeld => ?_)
      refine pure_ (i := 0) (N := some 31) (v := ?_) (a' := ?_) #[true, false, false, false, false, false, false] rfl rfl (by kernel_rfl) (fun _ _ _ h => h) (Or.inl ⟨by rfl, ?_⟩) ?_ ?_
      rotate_left
      · intro w'
        go_simp
        with_reducible rfl
      rotate_left
      · simp only [Act.put, List.setIfInBounds_toArray, List.set_cons_zero, List.set_cons_succ, i64_w, i32_w]
        rfl
      refine pure_ (i := 1) (N := some 32) (v := ?_) (a' := ?_) #[true, true, false, false, false, false, false] rfl rfl (by kernel_rfl) (fun _ _ _ h => h) (Or.inl ⟨by rfl, ?_⟩) ?_ ?_
      rotate_left
      · intro w'
        go_simp
        with_reducible rfl
      rotate_left
      · simp only [Act.put, List.setIfInBounds_toArray, List.set_cons_zero, List.set_cons_succ, i64_w, i32_w]
        rfl
      refine pure_ (i := 4) (N := some 35) (v := ?_) (a' := ?_) #[true, true, false, false, true, false, false] rfl rfl (by kernel_rfl) (fun _ _ _ h => h) (Or.inl ⟨by rfl, ?_⟩) ?_ ?_
      rotate_left
      · intro w'
        go_simp
        with_reducible rfl
      rotate_left
      · simp only [Act.put, List.setIfInBounds_toArray, List.set_cons_zero, List.set_cons_succ, i64_w, i32_w]
        rfl
      refine take_ (i := 2) (N := some 33) (v := ?_) (a' := ?_) #[true, true, true, false, true, false, false] rfl rfl (by kernel_rfl) (fun _ _ _ h => h) (Or.inl ⟨by rfl, ?_⟩) hHeld ?_ ?_
      rotate_left
      · rintro w' ⟨s0, s1, s2⟩
        go_simp
        with_reducible rfl
      rotate_left
      · simp only [Act.put, List.setIfInBounds_toArray, List.set_cons_zero, List.set_cons_succ, i64_w, i32_w]
        rfl
      refine take_ (i := 3) (N := some 34) (v := ?_) (a' := ?_) #[true, true, true, true, true, false, false] rfl rfl (by kernel_rfl) (fun _ _ _ h => h) (Or.inl ⟨by rfl, ?_⟩) hHeld ?_ ?_
      rotate_left
      · rintro w' ⟨s0, s1, s2⟩
        go_simp
        with_reducible rfl
      rotate_left
      · simp only [Act.put, List.setIfInBounds_toArray, List.set_cons_zero, List.set_cons_succ, i64_w, i32_w]
        rfl
      refine one_ (i := 5) (N := some 36) #[true, true, true, true, true, true, false] rfl rfl (by kernel_rfl) (by decide) (fun K hK => ?_)
      refine goes_ Tryd.func95 (by kernel_rfl) rfl #[.agg #[.pointer (some ⟨a, 0, none⟩), .slice A2 l.length c2], .int .i64 d, .int .i64 s] (by rfl) rfl rfl (by simp only [List.map_toArray, List.map_cons, List.map_nil]; rfl) ?_
      with_reducible refine (HH.out _ (below_drew HBk.out)).mono ?_
      rintro e w5 ⟨rfl, hB5⟩
      refine ⟨_, rfl, ?_⟩
      have HB5 := Aside0.mk (HBr.out.step (below_of_drew hB5))
      clear hB5
      refine hK.out _ _ ⟨HB5.out.r0, HB5.out.r1, HB5.out.q3⟩ (fun hHeld => ?_)
      clear hK K
      refine norm_ (a' := ?_) ?_ ?_
      rotate_left
      · show Act.put _ (some 36) _ = _
        simp only [Act.put, List.setIfInBounds_toArray, List.set_cons_zero, List.set_cons_succ, i64_w, i32_w]
        rfl
      refine one_ (i := 6) (N := some 37) #[true, true, true, true, true, true, true] rfl rfl (by kernel_rfl) (by decide) (fun K hK => ?_)
      show if _ = true then Oper.wp _ _ _ _ _ _ else _
      refine goesT_ Tryd.func88 (by kernel_rfl) rfl #[.bool (hasS l d s), .int .i64 2] (by rfl) rfl rfl (by simp only [List.map_toArray, List.map_cons, List.map_nil]; rfl) ?_
      with_reducible refine (must_calls _ _ _).mono ?_
      rintro e w6 ⟨rfl, ⟨hh, rfl⟩ | ⟨hh, rfl⟩⟩
      rotate_left
      · have HE : calcErr t l op d ns = 2 := by
          unfold calcErr
          rw [if_pos ⟨H3.out, HOp.out⟩, if_neg]
          intro h
          have := List.all_eq_true.1 h s HMem.out
          rw [hh] at this
          cases this
        exact Or.inr ⟨_, rfl, rfl, HB5.out.below.mono HPos.out.2, Or.inr ⟨by rw [HE]; decide, by rw [HE]⟩⟩
      refine Or.inl ⟨_, rfl, ?_⟩
      have HHas := Aside0.mk hh
      clear hh
      refine hK.out _ _ ⟨HB5.out.r0, HB5.out.r1, HB5.out.q3⟩ (fun hHeld => ?_)
      clear hK K
      refine norm_ (a' := ?_) ?_ ?_
      rotate_left
      · show Act.put _ (some 37) _ = _
        simp only [Act.put, List.setIfInBounds_toArray, List.set_cons_zero, List.set_cons_succ, i64_w, i32_w]
        rfl
      refine done_ (by kernel_rfl) ?_
      clear hHeld q0 q1 q3
      have HAll2 : Aside0 ((ns.take (k + 1)).all (hasS l d) = true) := ⟨by rw [HT.out, List.all_append, HAll.out]; simpa using HHas.out⟩
      have HBl5 := Aside0.mk HB5.out.below
      go_wp2
      go_roundw
      case rel => exact ⟨k + 1, by omega, by go_num, HBl5, HAll2⟩
      case measure => simp [intOf]; omega
    · have hkn : k = ns.length := by omega
      have HA1 : Aside0 (ns.all (hasS l d) = true) := ⟨by have := HAll.out; rwa [hkn, List.take_length] at this⟩
      clear HAll HB1
      have q2 := HBr.out.q2
      obtain ⟨w2, hw2⟩ : ∃ w2 : World, w2 = wr := ⟨_, rfl⟩
      rw [← hw2] at HBk HBr q2
      rw [← hw2]
      clear hw2 hkn
      go_wp2_with fail
      have HBl2 := Aside0.mk HBr.out.below
      go_loopw [41] (fun i wr => ∃ k2 : Nat, k2 ≤ ns.length ∧ i = .int .i64 k2 ∧ Aside0 (Below W.heap.size W wr) ∧ Aside0 ((ns.take k2).all (fun s => !tPtr t (fr l d).f s) = true)) (fun i _ => ns.length - (intOf i).toNat)
      case atStart => exact ⟨0, Nat.zero_le _, rfl, HBl2, ⟨by simp⟩⟩
      case round =>
        obtain ⟨k2, hk2, rfl, HBk, HAll⟩ := hrel
        clear HBl2 q2
        have HBr2 := Aside0.mk (HB.out.step HBk.out)
        by_cases hlt2 : k2 < ns.length
        · obtain ⟨ad0, hA0, hcell⟩ := Kd.at_int (Kd.C_below HNs.out HBk.out) (k2 : Int) (by omega) (by omega)
          simp only [Int.toNat_natCast] at hcell
          have HA0 := Aside0.mk hA0
          rw [hA0]
          have hget : ns[k2]? = some (rd ns k2) := by simp [rd, List.getElem?_eq_getElem hlt2]
          have HT := Aside0.mk (take_get hget)
          have HMem := Aside0.mk (List.mem_of_getElem? hget)
          obtain ⟨s, hs⟩ : ∃ s, s = rd ns k2 := ⟨_, rfl⟩
          rw [← hs] at hcell HT HMem
          have hin := List.all_eq_true.1 HA1.out s HMem.out
          have HIn := Aside0.mk (hasS_iff.1 hin)
          have HH := Aside0.mk (fun (W1 : World) (hB : Below W.heap.size W W1) => rptr_calls a t A2 c2 l d s W1 (HI.out.below hB) HIn.out.1 HIn.out.2.1 (HAI.out s HMem.out))
          clear hin
          have q0 := HBr2.out.r0
          have q1 := HBr2.out.r1
          have q3 := HBr2.out.q3
          clear hget hs hA0
          go_wp2_with fail
          clear hcell
          refine start_ (n := 8) (S := fun w' => w'.cell? ⟨r, 0, none⟩ = some (.pointer (some ⟨a, 0, none⟩)) ∧ w'.cell? ⟨r, 1, none⟩ = some (.slice A2 l.length c2) ∧ w'.cell? ⟨p3, 0, none⟩ = some (.int .i64 d)) (ds := []) #[false, false, false, false, false, false, false, false] (by kernel_rfl) rfl rfl ⟨q0, q1, q3⟩ (fun hHeld => ?_)
          refine pure_ (i := 0) (N := some 45) (v := ?_) (a' := ?_) #[true, false, false, false, false, false, false, false] rfl rfl (by kernel_rfl) (fun _ _ _ h => h) (Or.inl ⟨by rfl, ?_⟩) ?_ ?_
          rotate_left
          · intro w'
            go_simp
            with_reducible rfl
          rotate_left
          · simp only [Act.put, List.setIfInBounds_toArray, List.set_cons_zero, List.set_cons_succ, i64_w, i32_w]
            rfl
          refine pure_ (i := 1) (N := some 46) (v := ?_) (a' := ?_) #[true, true, false, false, false, false, false, false] rfl rfl (by kernel_rfl) (fun _ _ _ h => h) (Or.inl ⟨by rfl, ?_⟩) ?_ ?_
          rotate_left
          · intro w'
            go_simp
            with_reducible rfl
          rotate_left
          · simp only [Act.put, List.setIfInBounds_toArray, List.set_cons_zero, List.set_cons_succ, i64_w, i32_w]
            rfl
          refine pure_ (i := 4) (N := some 49) (v := ?_) (a' := ?_) #[true, true, false, false, true, false, false, false] rfl rfl (by kernel_rfl) (fun _ _ _ h => h) (Or.inl ⟨by rfl, ?_⟩) ?_ ?_
          rotate_left
          · intro w'
            go_simp
            with_reducible rfl
          rotate_left
          · simp only [Act.put, List.setIfInBounds_toArray, List.set_cons_zero, List.set_cons_succ, i64_w, i32_w]
            rfl
          refine take_ (i := 2) (N := some 47) (v := ?_) (a' := ?_) #[true, true, true, false, true, false, false, false] rfl rfl (by kernel_rfl) (fun _ _ _ h => h) (Or.inl ⟨by rfl, ?_⟩) hHeld ?_ ?_
          rotate_left
          · rintro w' ⟨s0, s1, s2⟩
            go_simp
            with_reducible rfl
          rotate_left
          · simp only [Act.put, List.setIfInBounds_toArray, List.set_cons_zero, List.set_cons_succ, i64_w, i32_w]
            rfl
          refine take_ (i := 3) (N := some 48) (v := ?_) (a' := ?_) #[true, true, true, true, true, false, false, false] rfl rfl (by kernel_rfl) (fun _ _ _ h => h) (Or.inl ⟨by rfl, ?_⟩) hHeld ?_ ?_
          rotate_left
          · rintro w' ⟨s0, s1, s2⟩
            go_simp
            with_reducible rfl
          rotate_left
          · simp only [Act.put, List.setIfInBounds_toArray, List.set_cons_zero, List.set_cons_succ, i64_w, i32_w]
            rfl
          refine one_ (i := 5) (N := some 50) #[true, true, true, true, true, true, false, false] rfl rfl (by kernel_rfl) (by decide) (fun K hK => ?_)
          refine goes_ Tryd.func102 (by kernel_rfl) rfl #[.agg #[.pointer (some ⟨a, 0, none⟩), .slice A2 l.length c2], .int .i64 d, .int .i64 s] (by rfl) rfl rfl (by simp only [List.map_toArray, List.map_cons, List.map_nil]; rfl) ?_
          with_reducible refine (HH.out _ (below_drew HBk.out)).mono ?_
          rintro e w5 ⟨rfl, hB5⟩
          refine ⟨_, rfl, ?_⟩
          have HB5 := Aside0.mk (HBr2.out.step (below_of_drew hB5))
          clear hB5
          refine hK.out _ _ ⟨HB5.out.r0, HB5.out.r1, HB5.out.q3⟩ (fun hHeld => ?_)
          clear hK K
          refine norm_ (a' := ?_) ?_ ?_
          rotate_left
          · show Act.put _ (some 50) _ = _
            simp only [Act.put, List.setIfInBounds_toArray, List.set_cons_zero, List.set_cons_succ, i64_w, i32_w]
            rfl
          refine pure_ (i := 6) (N := some 51) (v := ?_) (a' := ?_) #[true, true, true, true, true, true, true, false] rfl rfl (by kernel_rfl) (fun _ _ _ h => h) (Or.inl ⟨by rfl, ?_⟩) ?_ ?_
          rotate_left
          · intro w'
            go_simp
            with_reducible rfl
          rotate_left
          · simp only [Act.put, List.setIfInBounds_toArray, List.set_cons_zero, List.set_cons_succ, i64_w, i32_w]
            rfl
          refine one_ (i := 7) (N := some 52) #[true, true, true, true, true, true, true, true] rfl rfl (by kernel_rfl) (by decide) (fun K hK => ?_)
          show if _ = true then Oper.wp _ _ _ _ _ _ else _
          refine goesT_ Tryd.func88 (by kernel_rfl) rfl #[.bool (!tPtr t (fr l d).f s), .int .i64 5] (by rfl) rfl rfl (by simp only [List.map_toArray, List.map_cons, List.map_nil]; rfl) ?_
          with_reducible refine (must_calls _ _ _).mono ?_
          rintro e w6 ⟨rfl, ⟨hh, rfl⟩ | ⟨hh, rfl⟩⟩
          rotate_left
          · have HE : calcErr t l op d ns = 5 := by
              unfold calcErr
              rw [if_pos ⟨H3.out, HOp.out⟩, if_pos HA1.out, if_neg]
              intro h
              have := List.all_eq_true.1 h s HMem.out
              rw [hh] at this
              cases this
            exact Or.inr ⟨_, rfl, rfl, HB5.out.below.mono HPos.out.2, Or.inr ⟨by rw [HE]; decide, by rw [HE]⟩⟩
          refine Or.inl ⟨_, rfl, ?_⟩
          have HHas := Aside0.mk hh
          clear hh
          refine hK.out _ _ ⟨HB5.out.r0, HB5.out.r1, HB5.out.q3⟩ (fun hHeld => ?_)
          clear hK K
          refine norm_ (a' := ?_) ?_ ?_
          rotate_left
          · show Act.put _ (some 52) _ = _
            simp only [Act.put, List.setIfInBounds_toArray, List.set_cons_zero, List.set_cons_succ, i64_w, i32_w]
            rfl
          refine done_ (by kernel_rfl) ?_
          clear hHeld q0 q1 q3
          have HAll2 : Aside0 ((ns.take (k2 + 1)).all (fun s => !tPtr t (fr l d).f s) = true) := ⟨by rw [HT.out, List.all_append, HAll.out]; simpa using HHas.out⟩
          have HBl5 := Aside0.mk HB5.out.below
          go_wp2
          go_roundw
          case rel => exact ⟨k2 + 1, by omega, by go_num, HBl5, HAll2⟩
          case measure => simp [intOf]; omega
        · have hkn : k2 = ns.length := by omega
          have HA2 : Aside0 (ns.all (fun s => !tPtr t (fr l d).f s) = true) := ⟨by have := HAll.out; rwa [hkn, List.take_length] at this⟩
          clear HAll
          have q1 := HBr2.out.r1
          have q3 := HBr2.out.q3
          obtain ⟨w3, hw3⟩ : ∃ w3 : World, w3 = wr := ⟨_, rfl⟩
          rw [← hw3] at HBk HBr2 q1 q3
          rw [← hw3]
          clear hw3 hkn
          go_wp2_with fail
          have hmem : ∀ i : Nat, i < 3 → rd ns (i : Int) ∈ ns := by
            intro i hi
            have hl : i < ns.length := by have := H3.out; omega
            exact List.mem_of_getElem? (show ns[i]? = some (rd ns (i : Int)) by simp [rd, List.getElem?_eq_getElem hl])
          obtain ⟨s0, hs0⟩ : ∃ s, s = rd ns 0 := ⟨_, rfl⟩
          obtain ⟨s1, hs1⟩ : ∃ s, s = rd ns 1 := ⟨_, rfl⟩
          obtain ⟨s2, hs2⟩ : ∃ s, s = rd ns 2 := ⟨_, rfl⟩
          have k0 := hasS_iff.1 (List.all_eq_true.1 HA1.out s0 (hs0 ▸ hmem 0 (by omega)))
          have k1 := hasS_iff.1 (List.all_eq_true.1 HA1.out s1 (hs1 ▸ hmem 1 (by omega)))
          have k2' := hasS_iff.1 (List.all_eq_true.1 HA1.out s2 (hs2 ▸ hmem 2 (by omega)))
          obtain ⟨ad0, hA0, m0⟩ := Kd.at_int (Kd.C_below HNs.out HBk.out) 0 (by omega) (by have := H3.out; omega)
          obtain ⟨ad0', hA0', m1⟩ := Kd.at_int (Kd.C_below HNs.out HBk.out) 1 (by omega) (by have := H3.out; omega)
          obtain ⟨ad0'', hA0'', m2⟩ := Kd.at_int (Kd.C_below HNs.out HBk.out) 2 (by omega) (by have := H3.out; omega)
          rw [hA0] at hA0' hA0''
          cases hA0'
          cases hA0''
          obtain ⟨ad, A1, c1, rfl, e0, e1, el, eC⟩ := at_Fr (Kd.C_below HI.out.rows HBk.out) d k0.1 k0.2.1
          obtain ⟨ad1, rfl, f10, f1, f12, f13⟩ := at_Vl eC s1 k1.2.2.1 k1.2.2.2
          obtain ⟨ad1', had, f20, f2, f22, f23⟩ := at_Vl eC s2 k2'.2.2.1 k2'.2.2.2
          cases had
          have HRd := Aside0.mk (And.intro hs0 (And.intro hs1 hs2))
          rw [← hs0] at m0
          rw [← hs1] at m1
          rw [← hs2] at m2
          have q2 := HBr2.out.q2
          have q4 := HBr2.out.q1
          have HA0 := Aside0.mk hA0
          rw [hA0] at q2
          have HK := Aside0.mk (And.intro k0 (And.intro k1 k2'))
          have d0 := k0.1
          have d1 := k0.2.1
          have a0 := k0.2.2.1
          have a1 := k0.2.2.2
          have a2 := k1.2.2.1
          have a3 := k1.2.2.2
          have a4 := k2'.2.2.1
          have a5 := k2'.2.2.2
          clear hmem hs0 hs1 hs2 k0 k1 k2' e0 el eC f10 f12 f13 f20 f22 f23 hA0
          refine start_ (n := 9) (S := fun w' => w'.cell? ⟨r, 1, none⟩ = some (.slice (some ad) l.length c2) ∧ w'.cell? ⟨p3, 0, none⟩ = some (.int .i64 d) ∧ w'.cell? ⟨(ad.add (d.toNat * 2)).block, (ad.add (d.toNat * 2)).off + 1, none⟩ = some (.slice (some ad1) (fr l d).l.length c1)) (ds := []) #[false, false, false, false, false, false, false, false, false] (by kernel_rfl) rfl rfl ⟨q1, q3, e1⟩ (fun hHeld => ?_)
          refine pure_ (i := 0) (N := some 54) (v := ?_) (a' := ?_) #[true, false, false, false, false, false, false, false, false] rfl rfl (by kernel_rfl) (fun _ _ _ h => h) (Or.inl ⟨by rfl, ?_⟩) ?_ ?_
          rotate_left
          · intro w'
            go_simp
            with_reducible rfl
          rotate_left
          · simp only [Act.put, List.setIfInBounds_toArray, List.set_cons_zero, List.set_cons_succ, i64_w, i32_w]
            rfl
          refine pure_ (i := 1) (N := some 55) (v := ?_) (a' := ?_) #[true, true, false, false, false, false, false, false, false] rfl rfl (by kernel_rfl) (fun _ _ _ h => h) (Or.inl ⟨by rfl, ?_⟩) ?_ ?_
          rotate_left
          · intro w'
            go_simp
            with_reducible rfl
          rotate_left
          · simp only [Act.put, List.setIfInBounds_toArray, List.set_cons_zero, List.set_cons_succ, i64_w, i32_w]
            rfl
          refine pure_ (i := 2) (N := some 56) (v := ?_) (a' := ?_) #[true, true, true, false, false, false, false, false, false] rfl rfl (by kernel_rfl) (fun _ _ _ h => h) (Or.inl ⟨by rfl, ?_⟩) ?_ ?_
          rotate_left
          · intro w'
            go_simp
            with_reducible rfl
          rotate_left
          · simp only [Act.put, List.setIfInBounds_toArray, List.set_cons_zero, List.set_cons_succ, i64_w, i32_w]
            rfl
          refine take_ (i := 3) (N := some 57) (v := ?_) (a' := ?_) #[true, true, true, true, false, false, false, false, false] rfl rfl (by kernel_rfl) (fun _ _ _ h => h) (Or.inl ⟨by rfl, ?_⟩) hHeld ?_ ?_
          rotate_left
          · rintro w' ⟨s0, s1, s2⟩
            go_simp
            with_reducible rfl
          rotate_left
          · simp only [Act.put, List.setIfInBounds_toArray, List.set_cons_zero, List.set_cons_succ, i64_w, i32_w]
            rfl
          refine take_ (i := 4) (N := some 58) (v := ?_) (a' := ?_) #[true, true, true, true, true, false, false, false, false] rfl rfl (by kernel_rfl) (fun _ _ _ h => h) (Or.inl ⟨by rfl, ?_⟩) hHeld ?_ ?_
          rotate_left
          · rintro w' ⟨s0, s1, s2⟩
            go_simp
            with_reducible rfl
          rotate_left
          · simp only [Act.put, List.setIfInBounds_toArray, List.set_cons_zero, List.set_cons_succ, i64_w, i32_w]
            rfl
          refine pure_ (i := 5) (N := some 59) (v := ?_) (a' := ?_) #[true, true, true, true, true, true, false, false, false] rfl rfl (by kernel_rfl) (fun _ _ _ h => h) (Or.inl ⟨by rfl, ?_⟩) ?_ ?_
          rotate_left
          · intro w'
            go_simp
            with_reducible rfl
          rotate_left
          · simp only [Act.put, List.setIfInBounds_toArray, List.set_cons_zero, List.set_cons_succ, i64_w, i32_w]
            rfl
          refine pure_ (i := 6) (N := some 60) (v := ?_) (a' := ?_) #[true, true, true, true, true, true, true, false, false] rfl rfl (by kernel_rfl) (fun _ _ _ h => h) (Or.inl ⟨by rfl, ?_⟩) ?_ ?_
          rotate_left
          · intro w'
            go_simp
            with_reducible rfl
          rotate_left
          · simp only [Act.put, List.setIfInBounds_toArray, List.set_cons_zero, List.set_cons_succ, i64_w, i32_w]
            rfl
          refine take_ (i := 7) (N := some 61) (v := ?_) (a' := ?_) #[true, true, true, true, true, true, true, true, false] rfl rfl (by kernel_rfl) (fun _ _ _ h => h) (Or.inl ⟨by rfl, ?_⟩) hHeld ?_ ?_
          rotate_left
          · rintro w' ⟨s0, s1, s2⟩
            go_simp
            with_reducible rfl
          rotate_left
          · simp only [Act.put, List.setIfInBounds_toArray, List.set_cons_zero, List.set_cons_succ, i64_w, i32_w]
            rfl
          refine pure_ (i := 8) (N := some 11) (v := ?_) (a' := ?_) #[true, true, true, true, true, true, true, true, true] rfl rfl (by kernel_rfl) (fun _ _ _ h => h) (Or.inl ⟨by rfl, ?_⟩) ?_ ?_
          rotate_left
          · intro w'
            go_simp
            with_reducible rfl
          rotate_left
          · simp only [Act.put, List.setIfInBounds_toArray, List.set_cons_zero, List.set_cons_succ, i64_w, i32_w]
            rfl
          refine done_ (by kernel_rfl) ?_
          clear hHeld q1 q3
          obtain ⟨g1, c1', g3, _⟩ := put_row (Kd.S_below HS.out HBk.out) d s0 d0 d1 a0 a1
          rw [e1] at g3
          cases g3
          have f1 : w3.cell? ⟨g1, s1.toNat * 4 + 1, none⟩ = some (.int .u64 (vl (fr l d).l s1).b) := by
            rw [add_plain] at f1
            exact f1
          have f2 : w3.cell? ⟨g1, s2.toNat * 4 + 1, none⟩ = some (.int .u64 (vl (fr l d).l s2).b) := by
            rw [add_plain] at f2
            exact f2
          have m0 : w3.cell? ad0 = some (.int .i64 s0) := by
            have h : w3.cell? (ad0.add 0) = some (.int .i64 s0) := m0
            rwa [Addr.add_zero'] at h
          have m1 : w3.cell? ⟨ad0.block, ad0.off + 1, none⟩ = some (.int .i64 s1) := by
            have h : w3.cell? (ad0.add 1) = some (.int .i64 s1) := m1
            rwa [add_num ad0 1 (by decide)] at h
          have m2 : w3.cell? ⟨ad0.block, ad0.off + 2, none⟩ = some (.int .i64 s2) := by
            have h : w3.cell? (ad0.add 2) = some (.int .i64 s2) := m2
            rwa [add_num ad0 2 (by decide)] at h
          have hn3 : ((ns.length : Nat) : Int) = 3 := by have := H3.out; omega
          have hl0 : 0 < ns.length := by omega
          have hl1 : (1 : Int) < ((ns.length : Nat) : Int) := by omega
          have hl2 : (2 : Int) < ((ns.length : Nat) : Int) := by omega
          obtain ⟨w4, hw4⟩ : ∃ w4 : World, w4 = w3.drew := ⟨_, rfl⟩
          have HB4 : Aside0 (CalW W r a (some ad) l.length c2 p1 p2 p3 op d A0 ns.length c0 w4) := ⟨hw4 ▸ HBr2.out.step (below_drew (Below.refl _ _))⟩
          rw [← hw4]
          have q2 : w4.cell? ⟨p2, 0, none⟩ = some (.slice (some ad0) ns.length c0) := hw4 ▸ q2
          have q4 : w4.cell? ⟨p1, 0, none⟩ = some (.int .u8 op) := hw4 ▸ q4
          have e1 : w4.cell? ⟨(ad.add (d.toNat * 2)).block, (ad.add (d.toNat * 2)).off + 1, none⟩ = some (.slice (some ⟨g1, 0, none⟩) (fr l d).l.length c1) := hw4 ▸ e1
          have f1 : w4.cell? ⟨g1, s1.toNat * 4 + 1, none⟩ = some (.int .u64 (vl (fr l d).l s1).b) := hw4 ▸ f1
          have f2 : w4.cell? ⟨g1, s2.toNat * 4 + 1, none⟩ = some (.int .u64 (vl (fr l d).l s2).b) := hw4 ▸ f2
          have m0 : w4.cell? ad0 = some (.int .i64 s0) := hw4 ▸ m0
          have m1 : w4.cell? ⟨ad0.block, ad0.off + 1, none⟩ = some (.int .i64 s1) := hw4 ▸ m1
          have m2 : w4.cell? ⟨ad0.block, ad0.off + 2, none⟩ = some (.int .i64 s2) := hw4 ▸ m2
          clear hw4 hn3
          go_wp2_with fail
          refine start_ (n := 26) (S := fun w' => w'.cell? ⟨p2, 0, none⟩ = some (.slice (some ad0) ns.length c0) ∧ w'.cell? ⟨p1, 0, none⟩ = some (.int .u8 op) ∧ w'.cell? ad0 = some (.int .i64 s0) ∧ w'.cell? ⟨ad0.block, ad0.off + 1, none⟩ = some (.int .i64 s1) ∧ w'.cell? ⟨ad0.block, ad0.off + 2, none⟩ = some (.int .i64 s2) ∧ w'.cell? ⟨g1, s1.toNat * 4 + 1, none⟩ = some (.int .u64 (vl (fr l d).l s1).b) ∧ w'.cell? ⟨g1, s2.toNat * 4 + 1, none⟩ = some (.int .u64 (vl (fr l d).l s2).b) ∧ w'.cell? ⟨(ad.add (d.toNat * 2)).block, (ad.add (d.toNat * 2)).off + 1, none⟩ = some (.slice (some ⟨g1, 0, none⟩) (fr l d).l.length c1)) (ds := [25]) #[false, false, false, false, false, false, false, false, false, false, false, false, false, false, false, false, false, false, false, false, false, false, false, false, false, false] (by kernel_rfl) rfl rfl ⟨q2, q4, m0, m1, m2, f1, f2, e1⟩ (fun hHeld => ?_)
          refine pure_ (i := 0) (N := some 63) (v := ?_) (a' := ?_) #[true, false, false, false, false, false, false, false, false, false, false, false, false, false, false, false, false, false, false, false, false, false, false, false, false, false] rfl rfl (by kernel_rfl) (fun _ _ _ h => h) (Or.inl ⟨by rfl, ?_⟩) ?_ ?_
          rotate_left
          · intro w'
            go_simp
            with_reducible rfl
          rotate_left
          · simp only [Act.put, List.setIfInBounds_toArray, List.set_cons_zero, List.set_cons_succ, i64_w, i32_w]
            rfl
          refine pure_ (i := 5) (N := some 68) (v := ?_) (a' := ?_) #[true, false, false, false, false, true, false, false, false, false, false, false, false, false, false, false, false, false, false, false, false, false, false, false, false, false] rfl rfl (by kernel_rfl) (fun _ _ _ h => h) (Or.inl ⟨by rfl, ?_⟩) ?_ ?_
          rotate_left
          · intro w'
            go_simp
            with_reducible rfl
          rotate_left
          · simp only [Act.put, List.setIfInBounds_toArray, List.set_cons_zero, List.set_cons_succ, i64_w, i32_w]
            rfl
          refine pure_ (i := 12) (N := some 75) (v := ?_) (a' := ?_) #[true, false, false, false, false, true, false, false, false, false, false, false, true, false, false, false, false, false, false, false, false, false, false, false, false, false] rfl rfl (by kernel_rfl) (fun _ _ _ h => h) (Or.inl ⟨by rfl, ?_⟩) ?_ ?_
          rotate_left
          · intro w'
            go_simp
            with_reducible rfl
          rotate_left
          · simp only [Act.put, List.setIfInBounds_toArray, List.set_cons_zero, List.set_cons_succ, i64_w, i32_w]
            rfl
          refine take_ (i := 1) (N := some 64) (v := ?_) (a' := ?_) #[true, true, false, false, false, true, false, false, false, false, false, false, true, false, false, false, false, false, false, false, false, false, false, false, false, false] rfl rfl (by kernel_rfl) (fun _ _ _ h => h) (Or.inl ⟨by rfl, ?_⟩) hHeld ?_ ?_
          rotate_left
          · rintro w' ⟨s0, s1, s2, s3, s4, s5, s6, s7⟩
            go_simp
            with_reducible rfl
          rotate_left
          · simp only [Act.put, List.setIfInBounds_toArray, List.set_cons_zero, List.set_cons_succ, i64_w, i32_w]
            rfl
          refine pure_ (i := 2) (N := some 65) (v := ?_) (a' := ?_) #[true, true, true, false, false, true, false, false, false, false, false, false, true, false, false, false, false, false, false, false, false, false, false, false, false, false] rfl rfl (by kernel_rfl) (fun _ _ _ h => h) (Or.inl ⟨by rfl, ?_⟩) ?_ ?_
          rotate_left
          · intro w'
            go_simp
            with_reducible rfl
          rotate_left
          · simp only [Act.put, List.setIfInBounds_toArray, List.set_cons_zero, List.set_cons_succ, i64_w, i32_w]
            rfl
          refine take_ (i := 3) (N := some 66) (v := ?_) (a' := ?_) #[true, true, true, true, false, true, false, false, false, false, false, false, true, false, false, false, false, false, false, false, false, false, false, false, false, false] rfl rfl (by kernel_rfl) (fun _ _ _ h => h) (Or.inl ⟨by rfl, ?_⟩) hHeld ?_ ?_
          rotate_left
          · rintro w' ⟨s0, s1, s2, s3, s4, s5, s6, s7⟩
            go_simp
            with_reducible rfl
          rotate_left
          · simp only [Act.put, List.setIfInBounds_toArray, List.set_cons_zero, List.set_cons_succ, i64_w, i32_w]
            rfl
          refine take_ (i := 4) (N := some 67) (v := ?_) (a' := ?_) #[true, true, true, true, true, true, false, false, false, false, false, false, true, false, false, false, false, false, false, false, false, false, false, false, false, false] rfl rfl (by kernel_rfl) (fun _ _ _ h => h) (Or.inl ⟨by rfl, ?_⟩) hHeld ?_ ?_
          rotate_left
          · rintro w' ⟨s0, s1, s2, s3, s4, s5, s6, s7⟩
            go_simp
            with_reducible rfl
          rotate_left
          · simp only [Act.put, List.setIfInBounds_toArray, List.set_cons_zero, List.set_cons_succ, i64_w, i32_w]
            rfl
          refine take_ (i := 6) (N := some 69) (v := ?_) (a' := ?_) #[true, true, true, true, true, true, true, false, false, false, false, false, true, false, false, false, false, false, false, false, false, false, false, false, false, false] rfl rfl (by kernel_rfl) (fun _ _ _ h => h) (Or.inl ⟨by rfl, ?_⟩) hHeld ?_ ?_
          rotate_left
          · rintro w' ⟨s0, s1, s2, s3, s4, s5, s6, s7⟩
            go_simp
            with_reducible rfl
          rotate_left
          · simp only [Act.put, List.setIfInBounds_toArray, List.set_cons_zero, List.set_cons_succ, i64_w, i32_w]
            rfl
          refine pure_ (i := 7) (N := some 70) (v := ?_) (a' := ?_) #[true, true, true, true, true, true, true, true, false, false, false, false, true, false, false, false, false, false, false, false, false, false, false, false, false, false] rfl rfl (by kernel_rfl) (fun _ _ _ h => h) (Or.inl ⟨by rfl, ?_⟩) ?_ ?_
          rotate_left
          · intro w'
            go_simp
            with_reducible rfl
          rotate_left
          · simp only [Act.put, List.setIfInBounds_toArray, List.set_cons_zero, List.set_cons_succ, i64_w, i32_w]
            rfl
          refine take_ (i := 8) (N := some 71) (v := ?_) (a' := ?_) #[true, true, true, true, true, true, true, true, true, false, false, false, true, false, false, false, false, false, false, false, false, false, false, false, false, false] rfl rfl (by kernel_rfl) (fun _ _ _ h => h) (Or.inl ⟨by rfl, ?_⟩) hHeld ?_ ?_
          rotate_left
          · rintro w' ⟨s0, s1, s2, s3, s4, s5, s6, s7⟩
            go_simp
            with_reducible rfl
          rotate_left
          · simp only [Act.put, List.setIfInBounds_toArray, List.set_cons_zero, List.set_cons_succ, i64_w, i32_w]
            rfl
          refine pure_ (i := 9) (N := some 72) (v := ?_) (a' := ?_) #[true, true, true, true, true, true, true, true, true, true, false, false, true, false, false, false, false, false, false, false, false, false, false, false, false, false] rfl rfl (by kernel_rfl) (fun _ _ _ h => h) (Or.inl ⟨by rfl, ?_⟩) ?_ ?_
          rotate_left
          · intro w'
            go_simp
            with_reducible rfl
          rotate_left
          · simp only [Act.put, List.setIfInBounds_toArray, List.set_cons_zero, List.set_cons_succ, i64_w, i32_w]
            rfl
          refine pure_ (i := 10) (N := some 73) (v := ?_) (a' := ?_) #[true, true, true, true, true, true, true, true, true, true, true, false, true, false, false, false, false, false, false, false, false, false, false, false, false, false] rfl rfl (by kernel_rfl) (fun _ _ _ h => h) (Or.inl ⟨by rfl, ?_⟩) ?_ ?_
          rotate_left
          · intro w'
            go_simp
            with_reducible rfl
          rotate_left
          · simp only [Act.put, List.setIfInBounds_toArray, List.set_cons_zero, List.set_cons_succ, i64_w, i32_w]
            rfl
          refine take_ (i := 11) (N := some 74) (v := ?_) (a' := ?_) #[true, true, true, true, true, true, true, true, true, true, true, true, true, false, false, false, false, false, false, false, false, false, false, false, false, false] rfl rfl (by kernel_rfl) (fun _ _ _ h => h) (Or.inl ⟨by rfl, ?_⟩) hHeld ?_ ?_
          rotate_left
          · rintro w' ⟨s0, s1, s2, s3, s4, s5, s6, s7⟩
            go_simp
            with_reducible rfl
          rotate_left
          · simp only [Act.put, List.setIfInBounds_toArray, List.set_cons_zero, List.set_cons_succ, i64_w, i32_w]
            rfl
          refine take_ (i := 13) (N := some 76) (v := ?_) (a' := ?_) #[true, true, true, true, true, true, true, true, true, true, true, true, true, true, false, false, false, false, false, false, false, false, false, false, false, false] rfl rfl (by kernel_rfl) (fun _ _ _ h => h) (Or.inl ⟨by rfl, ?_⟩) hHeld ?_ ?_
          rotate_left
          · rintro w' ⟨s0, s1, s2, s3, s4, s5, s6, s7⟩
            go_simp
            with_reducible rfl
          rotate_left
          · simp only [Act.put, List.setIfInBounds_toArray, List.set_cons_zero, List.set_cons_succ, i64_w, i32_w]
            rfl
          refine pure_ (i := 14) (N := some 77) (v := ?_) (a' := ?_) #[true, true, true, true, true, true, true, true, true, true, true, true, true, true, true, false, false, false, false, false, false, false, false, false, false, false] rfl rfl (by kernel_rfl) (fun _ _ _ h => h) (Or.inl ⟨by rfl, ?_⟩) ?_ ?_
          rotate_left
          · intro w'
            go_simp
            with_reducible rfl
          rotate_left
          · simp only [Act.put, List.setIfInBounds_toArray, List.set_cons_zero, List.set_cons_succ, i64_w, i32_w]
            rfl
          refine take_ (i := 15) (N := some 78) (v := ?_) (a' := ?_) #[true, true, true, true, true, true, true, true, true, true, true, true, true, true, true, true, false, false, false, false, false, false, false, false, false, false] rfl rfl (by kernel_rfl) (fun _ _ _ h => h) (Or.inl ⟨by rfl, ?_⟩) hHeld ?_ ?_
          rotate_left
          · rintro w' ⟨s0, s1, s2, s3, s4, s5, s6, s7⟩
            go_simp
            with_reducible rfl
          rotate_left
          · simp only [Act.put, List.setIfInBounds_toArray, List.set_cons_zero, List.set_cons_succ, i64_w, i32_w]
            rfl
          refine pure_ (i := 16) (N := some 79) (v := ?_) (a' := ?_) #[true, true, true, true, true, true, true, true, true, true, true, true, true, true, true, true, true, false, false, false, false, false, false, false, false, false] rfl rfl (by kernel_rfl) (fun _ _ _ h => h) (Or.inl ⟨by rfl, ?_⟩) ?_ ?_
          rotate_left
          · intro w'
            go_simp
            with_reducible rfl
          rotate_left
          · simp only [Act.put, List.setIfInBounds_toArray, List.set_cons_zero, List.set_cons_succ, i64_w, i32_w]
            rfl
          refine pure_ (i := 17) (N := some 80) (v := ?_) (a' := ?_) #[true, true, true, true, true, true, true, true, true, true, true, true, true, true, true, true, true, true, false, false, false, false, false, false, false, false] rfl rfl (by kernel_rfl) (fun _ _ _ h => h) (Or.inl ⟨by rfl, ?_⟩) ?_ ?_
          rotate_left
          · intro w'
            go_simp
            with_reducible rfl
          rotate_left
          · simp only [Act.put, List.setIfInBounds_toArray, List.set_cons_zero, List.set_cons_succ, i64_w, i32_w]
            rfl
          refine take_ (i := 18) (N := some 81) (v := ?_) (a' := ?_) #[true, true, true, true, true, true, true, true, true, true, true, true, true, true, true, true, true, true, true, false, false, false, false, false, false, false] rfl rfl (by kernel_rfl) (fun _ _ _ h => h) (Or.inl ⟨by rfl, ?_⟩) hHeld ?_ ?_
          rotate_left
          · rintro w' ⟨s0, s1, s2, s3, s4, s5, s6, s7⟩
            go_simp
            with_reducible rfl
          rotate_left
          · simp only [Act.put, List.setIfInBounds_toArray, List.set_cons_zero, List.set_cons_succ, i64_w, i32_w]
            rfl
          refine one_ (i := 19) (N := some 82) #[true, true, true, true, true, true, true, true, true, true, true, true, true, true, true, true, true, true, true, true, false, false, false, false, false, false] rfl rfl (by kernel_rfl) (by decide) (fun K hK => ?_)
          refine goes_ Tryd.func104 (by kernel_rfl) rfl #[.int .u8 op, .int .u64 (vl (fr l d).l s1).b, .int .u64 (vl (fr l d).l s2).b] (by rfl) rfl rfl (by simp only [List.map_toArray, List.map_cons, List.map_nil]; rfl) ?_
          with_reducible refine (Calc_calls _ _ _ _).mono ?_
          rintro e w9 ⟨rfl, hB9⟩
          refine ⟨_, rfl, ?_⟩
          have hB9 := below_of_drew hB9
          have HB9 := Aside0.mk (HB4.out.step hB9)
          have e9 := pw_cell_below hB9 e1
          obtain ⟨g1', c9, g39, hsc, hsf, hok, hBg, hlc, hst, hput⟩ := put_row (W := w9) (Kd.S_below HS.out HB9.out.below) d s0 d0 d1 a0 a1
          rw [e9] at g39
          cases g39
          have HPut := Aside0.mk hput
          have HG := Aside0.mk (And.intro hok hBg)
          have hst : (Instr.storeAt 24 (.pointer (some ⟨g1, s0.toNat * 4 + 1, none⟩)) (.int .u64 (calcV op (vl (fr l d).l s1).b (vl (fr l d).l s2).b))).run Tryd.prog w9 = .ok () (w9.setCells g1 (s0.toNat * 4 + 1) [.int .u64 (calcV op (vl (fr l d).l s1).b (vl (fr l d).l s2).b)]) := hst _ 24 _ _ 1 rfl (by kernel_rfl) (by simp) (by simp [Value.oneCell'])
          have HSt := Aside0.mk hst
          have x1 := pw_cell_below hB9 q2
          have x2 := pw_cell_below hB9 q4
          have x3 := pw_cell_below hB9 m0
          have x4 := pw_cell_below hB9 m1
          have x5 := pw_cell_below hB9 m2
          have x6 := pw_cell_below hB9 f1
          have x7 := pw_cell_below hB9 f2
          clear hput hok hBg hlc hsc hsf hst hB9
          refine hK.out _ _ ⟨x1, x2, x3, x4, x5, x6, x7, e9⟩ (fun hHeld => ?_)
          clear hK K
          refine norm_ (a' := ?_) ?_ ?_
          rotate_left
          · show Act.put _ (some 82) _ = _
            simp only [Act.put, List.setIfInBounds_toArray, List.set_cons_zero, List.set_cons_succ, i64_w, i32_w]
            rfl
          refine pure_ (i := 20) (N := some 62) (v := ?_) (a' := ?_) #[true, true, true, true, true, true, true, true, true, true, true, true, true, true, true, true, true, true, true, true, true, false, false, false, false, false] rfl rfl (by kernel_rfl) (fun _ _ _ h => h) (Or.inl ⟨by rfl, ?_⟩) ?_ ?_
          rotate_left
          · intro w'
            go_simp
            with_reducible rfl
          rotate_left
          · simp only [Act.put, List.setIfInBounds_toArray, List.set_cons_zero, List.set_cons_succ, i64_w, i32_w]
            rfl
          refine pure_ (i := 21) (N := some 83) (v := ?_) (a' := ?_) #[true, true, true, true, true, true, true, true, true, true, true, true, true, true, true, true, true, true, true, true, true, true, false, false, false, false] rfl rfl (by kernel_rfl) (fun _ _ _ h => h) (Or.inl ⟨by rfl, ?_⟩) ?_ ?_
          rotate_left
          · intro w'
            go_simp
            with_reducible rfl
          rotate_left
          · simp only [Act.put, List.setIfInBounds_toArray, List.set_cons_zero, List.set_cons_succ, i64_w, i32_w]
            rfl
          refine pure_ (i := 22) (N := some 84) (v := ?_) (a' := ?_) #[true, true, true, true, true, true, true, true, true, true, true, true, true, true, true, true, true, true, true, true, true, true, true, false, false, false] rfl rfl (by kernel_rfl) (fun _ _ _ h => h) (Or.inl ⟨by rfl, ?_⟩) ?_ ?_
          rotate_left
          · intro w'
            go_simp
            with_reducible rfl
          rotate_left
          · simp only [Act.put, List.setIfInBounds_toArray, List.set_cons_zero, List.set_cons_succ, i64_w, i32_w]
            rfl
          refine pure_ (i := 23) (N := some 85) (v := ?_) (a' := ?_) #[true, true, true, true, true, true, true, true, true, true, true, true, true, true, true, true, true, true, true, true, true, true, true, true, false, false] rfl rfl (by kernel_rfl) (fun _ _ _ h => h) (Or.inl ⟨by rfl, ?_⟩) ?_ ?_
          rotate_left
          · intro w'
            go_simp
            with_reducible rfl
          rotate_left
          · simp only [Act.put, List.setIfInBounds_toArray, List.set_cons_zero, List.set_cons_succ, i64_w, i32_w]
            rfl
          refine pure_ (i := 24) (N := some 86) (v := ?_) (a' := ?_) #[true, true, true, true, true, true, true, true, true, true, true, true, true, true, true, true, true, true, true, true, true, true, true, true, true, false] rfl rfl (by kernel_rfl) (fun _ _ _ h => h) (Or.inl ⟨by rfl, ?_⟩) ?_ ?_
          rotate_left
          · intro w'
            go_simp
            with_reducible rfl
          rotate_left
          · simp only [Act.put, List.setIfInBounds_toArray, List.set_cons_zero, List.set_cons_succ, i64_w, i32_w]
            rfl
          refine last_ (i := 25) (N := none) #[true, true, true, true, true, true, true, true, true, true, true, true, true, true, true, true, true, true, true, true, true, true, true, true, true, true] rfl rfl (by kernel_rfl) (by decide) (fun K hK => ?_)
          refine store_ (by rfl) rfl rfl rfl rfl HSt.out ?_
          refine hK.out _ _ ?_
          clear hK K
          refine done_ (by kernel_rfl) ?_
          clear hHeld
          obtain ⟨hS9, hg9⟩ := HPut.out [.int .u64 (calcV op (vl (fr l d).l s1).b (vl (fr l d).l s2).b)] 1 (bitsV (vl (fr l d).l s0) (calcV op (vl (fr l d).l s1).b (vl (fr l d).l s2).b)) (by simp) (by simp [Vl.cells, bitsV])
          have hbe : Below B W (w9.setCells g1 (s0.toNat * 4 + 1) [.int .u64 (calcV op (vl (fr l d).l s1).b (vl (fr l d).l s2).b)]) := below_setCells HG.out.2 _ _ (HB9.out.below.mono HPos.out.2)
          have hE : calcErr t l op d ns = 0 := by unfold calcErr; rw [if_pos ⟨H3.out, HOp.out⟩, if_pos HA1.out, if_pos HA2.out]
          have hRw : calcRow l op d ns = setRow l d s0 (bitsV (vl (fr l d).l s0) (calcV op (vl (fr l d).l s1).b (vl (fr l d).l s2).b)) := by unfold calcRow; rw [← HRd.out.1, ← HRd.out.2.1, ← HRd.out.2.2]
          rw [hE, hRw]
          refine ⟨rfl, _, results_none (by rfl) _ _ _, hbe, Or.inl ⟨rfl, rfl, some ad, c2, ?_, ?_, by rw [setRow_length]; exact HI.out.cap⟩⟩
          · rw [setRow_length]
            exact (hg9.block r (by have := blk_lt HB9.out.row; exact this) (fun he => HG.out.1 (by cases he; rfl))).trans HB9.out.row
          · rw [setRow_length]
            exact Kd.F_mono (Kd.R_F (Kd.R_bound (Kd.S_R hS9))) (fun k hk => hk.2.1)
theorem CalcM_calls (a : Nat) (t : List Ent) (A : Option Addr) (c : Nat) (l : List Fr) (op d : Int) (A0 : Option Addr) (c0 : Nat) (ns : List Int) (w : World) (h : IsRow w a t A c l) (hs : SmallR l) (hI : AllI ns) (hns : (Kd.int .i64).C w A0 ns.length ns) :
    Calls Tryd.prog 48 #[.pointer (some ⟨a, 0, none⟩), .slice A l.length c, .int .u8 op, .int .i64 d, .slice A0 ns.length c0] w (ChPost w (chRow t l (calcErr t l op d ns) (calcRow l op d ns)) (chErr t l (calcErr t l op d ns))) := by
  have hmf : ∀ (fn : Fn) (first cap : Array Value) (w : World), (Instr.makeFunc fn first cap).run Tryd.prog w = .ok (.func fn first cap) w := fun _ _ _ _ => rfl
  have hb : Below w.heap.size w (((w.alloc (.cells #[.int .u8 op] 5)).alloc (.cells #[.int .i64 d] 3)).alloc (.cells #[.slice A0 ns.length c0] 27)) := below_alloc (below_alloc (below_alloc (Below.refl _ _) _) _) _
  have h1 := h.below hb
  have HB := Aside0.mk hb
  have b1 : (((w.alloc (.cells #[.int .u8 op] 5)).alloc (.cells #[.int .i64 d] 3)).alloc (.cells #[.slice A0 ns.length c0] 27)).heap[w.heap.size]? = some (.cells #[.int .u8 op] 5 (0, 0)) := blk_alloc (blk_alloc (heap_alloc_new w _) _) _
  have b2 : (((w.alloc (.cells #[.int .u8 op] 5)).alloc (.cells #[.int .i64 d] 3)).alloc (.cells #[.slice A0 ns.length c0] 27)).heap[w.heap.size + 1]? = some (.cells #[.int .i64 d] 3 (0, 0)) := blk_alloc (by have := heap_alloc_new (w.alloc (.cells #[.int .u8 op] 5)) (.cells #[.int .i64 d] 3); simpa using this) _
  have b3 : (((w.alloc (.cells #[.int .u8 op] 5)).alloc (.cells #[.int .i64 d] 3)).alloc (.cells #[.slice A0 ns.length c0] 27)).heap[w.heap.size + 1 + 1]? = some (.cells #[.slice A0 ns.length c0] 27 (0, 0)) := by
    have := heap_alloc_new ((w.alloc (.cells #[.int .u8 op] 5)).alloc (.cells #[.int .i64 d] 3)) (.cells #[.slice A0 ns.length c0] 27); simpa using this
  have HC := Aside0.mk (change_calls a t A c l 103 #[.pointer (some ⟨w.heap.size, 0, none⟩), .pointer (some ⟨w.heap.size + 1 + 1, 0, none⟩), .pointer (some ⟨w.heap.size + 1, 0, none⟩)] (calcErr t l op d ns) (calcRow l op d ns) _ h1 hs (enters_of Tryd.func103 (by kernel_rfl) rfl) (fun _ => calc1_ok _ a _ _ _ t op d A0 c0 ns l h1.tab h1.bits hI (Kd.C_below hns hb) b1 b3 b2))
  generalize chRow t l (calcErr t l op d ns) (calcRow l op d ns) = L at *
  generalize chErr t l (calcErr t l op d ns) = X at *
  clear h hs hb h1 b1 b2 b3 hI hns
  go_enter Tryd.func48, Tryd.ntmps48
  go_wp2_with (go_at_call 86; refine HC.out.mono ?_; rintro e w' ⟨A', c', rfl, g1, g2, g3⟩; have G1 := Aside0.mk g1; have G2 := Aside0.mk g2; have G3 := Aside0.mk g3; clear g1 g2 g3)
  go_ret2
  exact ⟨A', c', rfl, G1.out, G2.out, below_then HB.out HB.out.size G3.out⟩
end Go.Proofs.YtfaghjadjpiaiaaDoor.Sh
