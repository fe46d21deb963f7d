/- Contract of model's row.right: the first error of a row. Contracts of package model: Right, clone. Contract of model.change: a row that is changed by what is handed in, or the error and the row as it was. -/
import Derived.Test.YtfaghjadjpiaiaaDoorY4
import Derived.Test.YtfaghjadjpiaiaaDoorY1
import Derived.Test.YtfaghjadjpiaiaaDoorWApart
namespace Go.Proofs.YtfaghjadjpiaiaaDoor.Sh
open Go.RowKit Go.Shelf Go.Proofs.YtfaghjadjpiaiaaDoorW.PrintWords Go.Proofs.YtfaghjadjpiaiaaDoorW.PrintLast Go.Proofs.YtfaghjadjpiaiaaDoorW.PrintMore
set_option linter.unusedVariables false
set_option linter.unusedSimpArgs false
/-- The first that isn't 0. -/
def firstNZ : List Int → Int
  | [] => 0
  | x :: r => if x = 0 then firstNZ r else x
def shapeOk (t : List Ent) (f : Fr) : Bool := decide (0 ≤ tSize t f.f) && (tSize t f.f == (f.l.length : Int))
def slotErrs (t : List Ent) (l : List Fr) (d : Nat) : List Int := (List.range (fr l d).l.length).map fun (i : Nat) => fitsE t l d i (vl (fr l d).l i)
def allErrs (t : List Ent) (l : List Fr) (k : Nat) : List Int := ((List.range l.length).drop k).flatMap (slotErrs t l)
/-- The error's number of a row; 0: it is right. -/
def rightE (t : List Ent) (l : List Fr) : Int := if l.all (shapeOk t) = true then firstNZ (allErrs t l 0) else 9
theorem allErrs_step {t : List Ent} {l : List Fr} {k : Nat} (h : k < l.length) : allErrs t l k = slotErrs t l k ++ allErrs t l (k + 1) := by
  unfold allErrs
  rw [List.drop_eq_getElem_cons (by simpa using h), List.flatMap_cons]
  simp
theorem slotErrs_step {t : List Ent} {l : List Fr} {d i : Nat} (h : i < (fr l d).l.length) : (slotErrs t l d).drop i = fitsE t l d i (vl (fr l d).l i) :: (slotErrs t l d).drop (i + 1) := by
  rw [List.drop_eq_getElem_cons (by simpa [slotErrs] using h)]
  simp [slotErrs]
theorem res_right (a : Act) (k : Nat) (v : Value) (h : k ≠ 2) : results Tryd.f152 (a.put (some k) v).tmps = results Tryd.f152 a.tmps := by
  unfold results
  rw [Tryd.results152]
  simp [Act.put, Array.getD_eq_getD_getElem?, Array.getElem?_setIfInBounds_ne h]
theorem res_right2 (t1 t2 : Array Value) (h : t1[2]?.getD undef = t2[2]?.getD undef) : results Tryd.f152 t1 = results Tryd.f152 t2 := by
  unfold results
  rw [Tryd.results152]
  simp [Array.getD_eq_getD_getElem?, h]
theorem right_wrong {R : Ending → World → Prop} (tmps : Array Value) (q : Nat) (x y : Int) (W : World) (ht : tmps[2]?.getD undef = .pointer (some ⟨q, 0, none⟩)) (hblk : W.heap[q]? = some (.cells #[.int .i64 y] 31 (0, 0)))
    (hR : R (.returned (.int .i64 x)) ((W.alloc (.cells #[.int .i64 x] 188)).setCell ⟨q, 0, none⟩ (.int .i64 x))) :
    Leaves Tryd.prog Tryd.f152 tmps R [{ target := Target.fn (Fn.func 132) #[], args := #[.pointer (some ⟨q, 0, none⟩)] }] (.panicking (Wrong x)) W := by
  refine leaves_cons (f := 132) (args := #[.pointer (some ⟨q, 0, none⟩)]) (by simp) (by simp [go_sem]) ?_
  refine (caught_wrong ⟨q, 0, none⟩ x y W ((blk_cell hblk 0).trans rfl) (blk_frozen hblk 0) (blk_lt hblk)).mono ?_
  rintro e u' w'' ⟨rfl, rfl, rfl⟩
  have h2 : (W.alloc (.cells #[.int .i64 x] 188)).heap[q]? = some (.cells #[.int .i64 y] 31 (0, 0)) := (Below.heap_alloc _ _ _ (blk_lt hblk)).trans hblk
  have h3 := blk_set h2 0 (.int .i64 x)
  have hc : ((W.alloc (.cells #[.int .i64 x] 188)).setCell ⟨q, 0, none⟩ (.int .i64 x)).cell? ⟨q, 0, none⟩ = some (.int .i64 x) := (blk_cell h3 0).trans rfl
  refine ⟨.int .i64 x, ?_, hR⟩
  unfold results
  rw [Tryd.results152]
  simp [go_sem, ht, hc]
theorem right_fine {R : Ending → World → Prop} (tmps : Array Value) (q : Nat) (y : Int) (W : World) (ht : tmps[2]?.getD undef = .pointer (some ⟨q, 0, none⟩)) (hblk : W.heap[q]? = some (.cells #[.int .i64 y] 31 (0, 0)))
    (hR : R (.returned (.int .i64 y)) W) :
    Leaves Tryd.prog Tryd.f152 tmps R [{ target := Target.fn (Fn.func 132) #[], args := #[.pointer (some ⟨q, 0, none⟩)] }] .returning W := by
  refine leaves_cons (f := 132) (args := #[.pointer (some ⟨q, 0, none⟩)]) (by simp) (by simp [go_sem]) ?_
  refine (caught_idle ⟨q, 0, none⟩ W).mono ?_
  rintro e u' w'' ⟨rfl, rfl, rfl⟩
  have hc : W.cell? ⟨q, 0, none⟩ = some (.int .i64 y) := (blk_cell hblk 0).trans rfl
  refine ⟨.int .i64 y, ?_, hR⟩
  unfold results
  rw [Tryd.results152]
  simp [go_sem, ht, hc]
theorem Thrown.ok {x : Int} {e : Ending} (h : Thrown x e) (hx : x = 0) : e = .returned (.tuple #[]) := by
  rcases h with ⟨_, h⟩ | ⟨h, _⟩
  · exact h
  · exact absurd hx h
theorem Thrown.no {x : Int} {e : Ending} (h : Thrown x e) (hx : x ≠ 0) : e = .panicked (Wrong x) := by
  rcases h with ⟨h, _⟩ | ⟨_, h⟩
  · exact absurd h hx
  · exact h
/-- The boxes of row.right. -/
structure RtW (w : World) (a : Nat) (A : Option Addr) (n c : Nat) (W : World) : Prop where
  below : Below w.heap.size w W
  row : W.heap[w.heap.size]? = some (.cells #[.pointer (some ⟨a, 0, none⟩), .slice A n c] 148 (0, 0))
  err : W.heap[w.heap.size + 1]? = some (.cells #[.int .i64 0] 31 (0, 0))
theorem RtW.step {w : World} {a : Nat} {A : Option Addr} {n c : Nat} {W W1 : World} (h : RtW w a A n c W) (hb : Below W.heap.size W W1) : RtW w a A n c W1 :=
  ⟨below_then h.below h.below.size hb, (hb.block _ (blk_lt h.row)).trans h.row, (hb.block _ (blk_lt h.err)).trans h.err⟩
theorem RtW.start (w : World) (a : Nat) (A : Option Addr) (n c : Nat) : RtW w a A n c ((w.alloc (.cells #[.pointer (some ⟨a, 0, none⟩), .slice A n c] 148)).alloc (.cells #[.int .i64 0] 31)) :=
  ⟨below_alloc (below_alloc (Below.refl _ _) _) _, (Below.heap_alloc _ _ _ (by simp)).trans (heap_alloc_new w _), by have := heap_alloc_new (w.alloc (.cells #[.pointer (some ⟨a, 0, none⟩), .slice A n c] 148)) (.cells #[.int .i64 0] 31); simpa using this⟩
theorem RtW.c0 {w : World} {a : Nat} {A : Option Addr} {n c : Nat} {W : World} (h : RtW w a A n c W) : W.cell? ⟨w.heap.size, 0, none⟩ = some (.pointer (some ⟨a, 0, none⟩)) := (blk_cell h.row 0).trans rfl
theorem RtW.c1 {w : World} {a : Nat} {A : Option Addr} {n c : Nat} {W : World} (h : RtW w a A n c W) : W.cell? ⟨w.heap.size, 1, none⟩ = some (.slice A n c) := (blk_cell h.row 1).trans rfl
/-- Behind a throw: the error's cell is written, all that was there before the call stands. -/
theorem RtW.thrown {w : World} {a : Nat} {A : Option Addr} {n c : Nat} {W : World} (h : RtW w a A n c W) (o : Obj) (v : Value) : Below w.heap.size w ((W.alloc o).setCell ⟨w.heap.size + 1, 0, none⟩ v) :=
  (h.below.alloc h.below.size o).setCell (Nat.le_succ _) v
set_option maxRecDepth 100000 in
set_option maxHeartbeats 4000000 in
theorem right_calls (a : Nat) (t : List Ent) (A : Option Addr) (c : Nat) (l : List Fr) (w : World) (h : IsRow w a t A c l) :
    Calls Tryd.prog 152 #[.agg #[.pointer (some ⟨a, 0, none⟩), .slice A l.length c]] w fun e w' => e = .returned (.int .i64 (rightE t l)) ∧ Below w.heap.size w w' := by
  have HR := Aside0.mk h
  have HS := Aside0.mk (RtW.start w a A l.length c)
  have hcap := h.cap
  have hlen := h.rows.2.1
  clear h
  have q0 := HS.out.c0
  have q1 := HS.out.c1
  go_enter_defers Tryd.func152, Tryd.ntmps152
  go_wp2
  clear q0 q1
  generalize ((w.alloc (.cells #[.pointer (some ⟨a, 0, none⟩), .slice A l.length c] 148)).alloc (.cells #[.int .i64 0] 31)) = w0 at *
  go_loopw [12] (fun i wr => ∃ k : Nat, k ≤ l.length ∧ i = .int .i64 k ∧ Aside0 (RtW w a A l.length c wr) ∧ Aside0 ((l.take k).all (shapeOk t) = true)) (fun i _ => l.length - (intOf i).toNat)
  case atStart => exact ⟨0, Nat.zero_le _, rfl, HS, ⟨by simp⟩⟩
  case round =>
    obtain ⟨k, hk, rfl, HW, HAll⟩ := hrel
    have q0 := HW.out.c0
    have q1 := HW.out.c1
    by_cases hlt : k < l.length
    · obtain ⟨ad, A1, c1, rfl, g0, g1, gl, gC⟩ := at_Fr (Kd.C_below HR.out.rows HW.out.below) (k : Int) (by omega) (by omega)
      simp only [Int.toNat_natCast] at g0 g1
      have hget : l[k]? = some (fr l k) := by simp [fr, List.getElem?_eq_getElem hlt]
      obtain ⟨f, hf⟩ : ∃ f, f = fr l k := ⟨_, rfl⟩
      rw [← hf] at g0 g1 gl gC hget
      have HGet := Aside0.mk hget
      have HSz := Aside0.mk (fun (W : World) (hB : Below w.heap.size w W) => size_calls a t f.f W (HR.out.tab.below hB))
      have HE9 : Aside0 (shapeOk t f = false → rightE t l = 9) := ⟨fun h => by
        unfold rightE
        rw [if_neg]
        intro hall
        have := List.all_eq_true.1 hall f (List.mem_of_getElem? hget)
        rw [h] at this
        cases this⟩
      have HW5 : Aside0 (RtW w a (some ad) l.length c (wr.alloc (.cells #[.int .i64 f.f, .slice A1 f.l.length c1] 80))) := ⟨HW.out.step (below_alloc (Below.refl _ _) _)⟩
      have hbk := heap_alloc_new wr (.cells #[.int .i64 f.f, .slice A1 f.l.length c1] 80)
      have hfl : (f.l.length : Int) ≤ 9223372036854775807 := by have := gC.2.1; omega
      clear hf hget gl gC
      go_wp2_with fail
      clear q0 q1 g0 g1
      generalize wr.alloc (.cells #[.int .i64 f.f, .slice A1 f.l.length c1] 80) = w5 at *
      obtain ⟨N, hN⟩ : ∃ N, N = wr.heap.size := ⟨_, rfl⟩
      rw [← hN] at hbk
      rw [← hN]
      clear hN
      have d0 := HW5.out.c0
      have d1 : w5.cell? ⟨N, 0, none⟩ = some (.int .i64 f.f) := (blk_cell hbk 0).trans rfl
      have d2 : w5.cell? ⟨N, 1, none⟩ = some (.slice A1 f.l.length c1) := (blk_cell hbk 1).trans rfl
      clear hbk
      refine wp_pan Tryd.f152 (fun ch a1 a2 w h1 h2 h => bodyPostD_congr h1 h2 h) ?_
      obtain ⟨z, hz⟩ : ∃ z, z = tSize t f.f := ⟨_, rfl⟩
      rw [← hz] at HSz
      have HZ := Aside0.mk hz
      clear hz
      by_cases hz0 : 0 ≤ z
      · have hzb : decide (0 ≤ z) = true := decide_eq_true hz0
        by_cases hz1 : z = f.l.length
        · have hze : (z == (f.l.length : Int)) = true := by simpa using hz1
          have HOk : Aside0 (shapeOk t f = true) := ⟨by unfold shapeOk; rw [← HZ.out, hzb, hze]; rfl⟩
          clear hz1 hz0 HE9
          refine start_ (n := 18) (S := fun w' => w'.cell? ⟨w.heap.size, 0, none⟩ = some (.pointer (some ⟨a, 0, none⟩)) ∧ w'.cell? ⟨N, 0, none⟩ = some (.int .i64 f.f) ∧ w'.cell? ⟨N, 1, none⟩ = some (.slice A1 f.l.length c1)) (ds := []) #[false, false, false, false, false, false, false, false, false, false, false, false, false, false, false, false, false, false] (by kernel_rfl) rfl rfl ⟨d0, d1, d2⟩ (fun hHeld => ?_)
          refine pure_ (i := 0) (N := some 16) (v := ?_) (a' := ?_) #[true, false, false, false, false, false, false, false, false, false, false, false, false, false, false, false, false, false] rfl rfl (by kernel_rfl) (pan_put (fun a => res_right a _ _ (by decide))) (Or.inl ⟨by rfl, ?_⟩) ?_ ?_
          rotate_left
          · intro w'
            go_simp
            with_reducible rfl
          rotate_left
          · simp only [Act.put, List.setIfInBounds_toArray, List.set_cons_zero, List.set_cons_succ, i64_w, i32_w]
            rfl
          refine pure_ (i := 2) (N := some 18) (v := ?_) (a' := ?_) #[true, false, true, false, false, false, false, false, false, false, false, false, false, false, false, false, false, false] rfl rfl (by kernel_rfl) (pan_put (fun a => res_right a _ _ (by decide))) (Or.inl ⟨by rfl, ?_⟩) ?_ ?_
          rotate_left
          · intro w'
            go_simp
            with_reducible rfl
          rotate_left
          · simp only [Act.put, List.setIfInBounds_toArray, List.set_cons_zero, List.set_cons_succ, i64_w, i32_w]
            rfl
          refine take_ (i := 1) (N := some 17) (v := ?_) (a' := ?_) #[true, true, true, false, false, false, false, false, false, false, false, false, false, false, false, false, false, false] rfl rfl (by kernel_rfl) (pan_put (fun a => res_right a _ _ (by decide))) (Or.inl ⟨by rfl, ?_⟩) hHeld ?_ ?_
          rotate_left
          · rintro w' ⟨s0, s1, s2⟩
            go_simp
            with_reducible rfl
          rotate_left
          · simp only [Act.put, List.setIfInBounds_toArray, List.set_cons_zero, List.set_cons_succ, i64_w, i32_w]
            rfl
          refine take_ (i := 3) (N := some 19) (v := ?_) (a' := ?_) #[true, true, true, true, false, false, false, false, false, false, false, false, false, false, false, false, false, false] rfl rfl (by kernel_rfl) (pan_put (fun a => res_right a _ _ (by decide))) (Or.inl ⟨by rfl, ?_⟩) hHeld ?_ ?_
          rotate_left
          · rintro w' ⟨s0, s1, s2⟩
            go_simp
            with_reducible rfl
          rotate_left
          · simp only [Act.put, List.setIfInBounds_toArray, List.set_cons_zero, List.set_cons_succ, i64_w, i32_w]
            rfl
          refine one_ (i := 4) (N := some 20) #[true, true, true, true, true, false, false, false, false, false, false, false, false, false, false, false, false, false] rfl rfl (by kernel_rfl) (by decide) (fun K hK => ?_)
          refine goes_ Tryd.func72 (by kernel_rfl) rfl #[.pointer (some ⟨a, 0, none⟩), .int .i64 f.f] (by rfl) rfl rfl (by simp only [List.map_toArray, List.map_cons, List.map_nil]; rfl) ?_
          with_reducible refine (HSz.out _ (below_drew HW5.out.below)).mono ?_
          rintro e w6 ⟨rfl, rfl⟩
          refine ⟨_, rfl, ?_⟩
          refine hK.out _ _ ⟨d0, d1, d2⟩ (fun hHeld => ?_)
          clear hK K
          refine norm_ (a' := ?_) ?_ ?_
          rotate_left
          · show Act.put _ (some 20) _ = _
            simp only [Act.put, List.setIfInBounds_toArray, List.set_cons_zero, List.set_cons_succ, i64_w, i32_w]
            rfl
          refine pure_ (i := 5) (N := some 21) (v := ?_) (a' := ?_) #[true, true, true, true, true, true, false, false, false, false, false, false, false, false, false, false, false, false] rfl rfl (by kernel_rfl) (pan_put (fun a => res_right a _ _ (by decide))) (Or.inl ⟨by rfl, ?_⟩) ?_ ?_
          rotate_left
          · intro w'
            go_simp
            with_reducible rfl
          rotate_left
          · simp only [Act.put, List.setIfInBounds_toArray, List.set_cons_zero, List.set_cons_succ, i64_w, i32_w]
            rfl
          refine pure_ (i := 6) (N := some 22) (v := ?_) (a' := ?_) #[true, true, true, true, true, true, true, false, false, false, false, false, false, false, false, false, false, false] rfl rfl (by kernel_rfl) (pan_put (fun a => res_right a _ _ (by decide))) (Or.inl ⟨by rfl, ?_⟩) ?_ ?_
          rotate_left
          · intro w'
            go_simp
            with_reducible rfl
          rotate_left
          · simp only [Act.put, List.setIfInBounds_toArray, List.set_cons_zero, List.set_cons_succ, i64_w, i32_w]
            rfl
          refine pure_ (i := 7) (N := some 23) (v := ?_) (a' := ?_) #[true, true, true, true, true, true, true, true, false, false, false, false, false, false, false, false, false, false] rfl rfl (by kernel_rfl) (pan_put (fun a => res_right a _ _ (by decide))) (Or.inl ⟨by rfl, ?_⟩) ?_ ?_
          rotate_left
          · intro w'
            go_simp
            with_reducible rfl
          rotate_left
          · simp only [Act.put, List.setIfInBounds_toArray, List.set_cons_zero, List.set_cons_succ, i64_w, i32_w]
            rfl
          refine pure_ (i := 9) (N := some 25) (v := ?_) (a' := ?_) #[true, true, true, true, true, true, true, true, false, true, false, false, false, false, false, false, false, false] rfl rfl (by kernel_rfl) (pan_put (fun a => res_right a _ _ (by decide))) (Or.inl ⟨by rfl, ?_⟩) ?_ ?_
          rotate_left
          · intro w'
            go_simp
            with_reducible rfl
          rotate_left
          · simp only [Act.put, List.setIfInBounds_toArray, List.set_cons_zero, List.set_cons_succ, i64_w, i32_w]
            rfl
          refine pure_ (i := 12) (N := some 28) (v := ?_) (a' := ?_) #[true, true, true, true, true, true, true, true, false, true, false, false, true, false, false, false, false, false] rfl rfl (by kernel_rfl) (pan_put (fun a => res_right a _ _ (by decide))) (Or.inl ⟨by rfl, ?_⟩) ?_ ?_
          rotate_left
          · intro w'
            go_simp
            with_reducible rfl
          rotate_left
          · simp only [Act.put, List.setIfInBounds_toArray, List.set_cons_zero, List.set_cons_succ, i64_w, i32_w]
            rfl
          refine take_ (i := 8) (N := some 24) (v := ?_) (a' := ?_) #[true, true, true, true, true, true, true, true, true, true, false, false, true, false, false, false, false, false] rfl rfl (by kernel_rfl) (pan_put (fun a => res_right a _ _ (by decide))) (Or.inl ⟨by rfl, ?_⟩) hHeld ?_ ?_
          rotate_left
          · rintro w' ⟨s0, s1, s2⟩
            go_simp
            with_reducible rfl
          rotate_left
          · simp only [Act.put, List.setIfInBounds_toArray, List.set_cons_zero, List.set_cons_succ, i64_w, i32_w]
            rfl
          refine take_ (i := 10) (N := some 26) (v := ?_) (a' := ?_) #[true, true, true, true, true, true, true, true, true, true, true, false, true, false, false, false, false, false] rfl rfl (by kernel_rfl) (pan_put (fun a => res_right a _ _ (by decide))) (Or.inl ⟨by rfl, ?_⟩) hHeld ?_ ?_
          rotate_left
          · rintro w' ⟨s0, s1, s2⟩
            go_simp
            with_reducible rfl
          rotate_left
          · simp only [Act.put, List.setIfInBounds_toArray, List.set_cons_zero, List.set_cons_succ, i64_w, i32_w]
            rfl
          refine take_ (i := 13) (N := some 29) (v := ?_) (a' := ?_) #[true, true, true, true, true, true, true, true, true, true, true, false, true, true, false, false, false, false] rfl rfl (by kernel_rfl) (pan_put (fun a => res_right a _ _ (by decide))) (Or.inl ⟨by rfl, ?_⟩) hHeld ?_ ?_
          rotate_left
          · rintro w' ⟨s0, s1, s2⟩
            go_simp
            with_reducible rfl
          rotate_left
          · simp only [Act.put, List.setIfInBounds_toArray, List.set_cons_zero, List.set_cons_succ, i64_w, i32_w]
            rfl
          refine pure_ (i := 14) (N := some 30) (v := ?_) (a' := ?_) #[true, true, true, true, true, true, true, true, true, true, true, false, true, true, true, false, false, false] rfl rfl (by kernel_rfl) (pan_put (fun a => res_right a _ _ (by decide))) (Or.inl ⟨by rfl, ?_⟩) ?_ ?_
          rotate_left
          · intro w'
            go_simp
            with_reducible rfl
          rotate_left
          · simp only [Act.put, List.setIfInBounds_toArray, List.set_cons_zero, List.set_cons_succ, i64_w, i32_w]
            rfl
          refine one_ (i := 11) (N := some 27) #[true, true, true, true, true, true, true, true, true, true, true, true, true, true, true, false, false, false] rfl rfl (by kernel_rfl) (by decide) (fun K hK => ?_)
          refine goes_ Tryd.func72 (by kernel_rfl) rfl #[.pointer (some ⟨a, 0, none⟩), .int .i64 f.f] (by rfl) rfl rfl (by simp only [List.map_toArray, List.map_cons, List.map_nil]; rfl) ?_
          with_reducible refine (HSz.out _ (below_drew HW5.out.below)).mono ?_
          rintro e w7 ⟨rfl, rfl⟩
          refine ⟨_, rfl, ?_⟩
          refine hK.out _ _ ⟨d0, d1, d2⟩ (fun hHeld => ?_)
          clear hK K
          refine norm_ (a' := ?_) ?_ ?_
          rotate_left
          · show Act.put _ (some 27) _ = _
            simp only [Act.put, List.setIfInBounds_toArray, List.set_cons_zero, List.set_cons_succ, i64_w, i32_w]
            rfl
          refine pure_ (i := 15) (N := some 31) (v := ?_) (a' := ?_) #[true, true, true, true, true, true, true, true, true, true, true, true, true, true, true, true, false, false] rfl rfl (by kernel_rfl) (pan_put (fun a => res_right a _ _ (by decide))) (Or.inl ⟨by rfl, ?_⟩) ?_ ?_
          rotate_left
          · intro w'
            go_simp
            with_reducible rfl
          rotate_left
          · simp only [Act.put, List.setIfInBounds_toArray, List.set_cons_zero, List.set_cons_succ, i64_w, i32_w]
            rfl
          refine pure_ (i := 16) (N := some 32) (v := ?_) (a' := ?_) #[true, true, true, true, true, true, true, true, true, true, true, true, true, true, true, true, true, false] rfl rfl (by kernel_rfl) (pan_put (fun a => res_right a _ _ (by decide))) (Or.inl ⟨by rfl, ?_⟩) ?_ ?_
          rotate_left
          · intro w'
            go_simp
            with_reducible rfl
          rotate_left
          · simp only [Act.put, List.setIfInBounds_toArray, List.set_cons_zero, List.set_cons_succ, i64_w, i32_w]
            rfl
          refine one_ (i := 17) (N := some 33) #[true, true, true, true, true, true, true, true, true, true, true, true, true, true, true, true, true, true] rfl rfl (by kernel_rfl) (by decide) (fun K hK => ?_)
          refine goes_ Tryd.func88 (by kernel_rfl) rfl #[.bool true, .int .i64 9] (by rfl) rfl rfl (by simp only [List.map_toArray, List.map_cons, List.map_nil]; rfl) ?_
          with_reducible refine (must_ok 9 _).mono ?_
          rintro e w9 ⟨rfl, rfl⟩
          refine ⟨_, rfl, ?_⟩
          refine hK.out _ _ ⟨d0, d1, d2⟩ (fun hHeld => ?_)
          clear hK K
          refine norm_ (a' := ?_) ?_ ?_
          rotate_left
          · show Act.put _ (some 33) _ = _
            simp only [Act.put, List.setIfInBounds_toArray, List.set_cons_zero, List.set_cons_succ, i64_w, i32_w]
            rfl
          refine done_ (by kernel_rfl) ?_
          refine PanQ.normal ?_
          have HW6 : Aside0 (RtW w a (some ad) l.length c w5.drew) := ⟨HW5.out.step (below_drew (Below.refl _ _))⟩
          clear hHeld d0 d1 d2 hzb hze
          go_wp2
          go_roundw
          case rel => exact ⟨k + 1, by omega, by go_num, HW6, ⟨by rw [take_get HGet.out, List.all_append, HAll.out]; simp [HOk.out]⟩⟩
          case measure => simp [intOf]; omega
        · have hze : (z == (f.l.length : Int)) = false := by simpa using hz1
          have HE9 := Aside0.mk (HE9.out (by unfold shapeOk; rw [← HZ.out, hzb, hze]; rfl))
          clear hz1 hz0
          refine start_ (n := 18) (S := fun w' => w'.cell? ⟨w.heap.size, 0, none⟩ = some (.pointer (some ⟨a, 0, none⟩)) ∧ w'.cell? ⟨N, 0, none⟩ = some (.int .i64 f.f) ∧ w'.cell? ⟨N, 1, none⟩ = some (.slice A1 f.l.length c1)) (ds := []) #[false, false, false, false, false, false, false, false, false, false, false, false, false, false, false, false, false, false] (by kernel_rfl) rfl rfl ⟨d0, d1, d2⟩ (fun hHeld => ?_)
          refine pure_ (i := 0) (N := some 16) (v := ?_) (a' := ?_) #[true, false, false, false, false, false, false, false, false, false, false, false, false, false, false, false, false, false] rfl rfl (by kernel_rfl) (pan_put (fun a => res_right a _ _ (by decide))) (Or.inl ⟨by rfl, ?_⟩) ?_ ?_
          rotate_left
          · intro w'
            go_simp
            with_reducible rfl
          rotate_left
          · simp only [Act.put, List.setIfInBounds_toArray, List.set_cons_zero, List.set_cons_succ, i64_w, i32_w]
            rfl
          refine pure_ (i := 2) (N := some 18) (v := ?_) (a' := ?_) #[true, false, true, false, false, false, false, false, false, false, false, false, false, false, false, false, false, false] rfl rfl (by kernel_rfl) (pan_put (fun a => res_right a _ _ (by decide))) (Or.inl ⟨by rfl, ?_⟩) ?_ ?_
          rotate_left
          · intro w'
            go_simp
            with_reducible rfl
          rotate_left
          · simp only [Act.put, List.setIfInBounds_toArray, List.set_cons_zero, List.set_cons_succ, i64_w, i32_w]
            rfl
          refine take_ (i := 1) (N := some 17) (v := ?_) (a' := ?_) #[true, true, true, false, false, false, false, false, false, false, false, false, false, false, false, false, false, false] rfl rfl (by kernel_rfl) (pan_put (fun a => res_right a _ _ (by decide))) (Or.inl ⟨by rfl, ?_⟩) hHeld ?_ ?_
          rotate_left
          · rintro w' ⟨s0, s1, s2⟩
            go_simp
            with_reducible rfl
          rotate_left
          · simp only [Act.put, List.setIfInBounds_toArray, List.set_cons_zero, List.set_cons_succ, i64_w, i32_w]
            rfl
          refine take_ (i := 3) (N := some 19) (v := ?_) (a' := ?_) #[true, true, true, true, false, false, false, false, false, false, false, false, false, false, false, false, false, false] rfl rfl (by kernel_rfl) (pan_put (fun a => res_right a _ _ (by decide))) (Or.inl ⟨by rfl, ?_⟩) hHeld ?_ ?_
          rotate_left
          · rintro w' ⟨s0, s1, s2⟩
            go_simp
            with_reducible rfl
          rotate_left
          · simp only [Act.put, List.setIfInBounds_toArray, List.set_cons_zero, List.set_cons_succ, i64_w, i32_w]
            rfl
          refine one_ (i := 4) (N := some 20) #[true, true, true, true, true, false, false, false, false, false, false, false, false, false, false, false, false, false] rfl rfl (by kernel_rfl) (by decide) (fun K hK => ?_)
          refine goes_ Tryd.func72 (by kernel_rfl) rfl #[.pointer (some ⟨a, 0, none⟩), .int .i64 f.f] (by rfl) rfl rfl (by simp only [List.map_toArray, List.map_cons, List.map_nil]; rfl) ?_
          with_reducible refine (HSz.out _ (below_drew HW5.out.below)).mono ?_
          rintro e w6 ⟨rfl, rfl⟩
          refine ⟨_, rfl, ?_⟩
          refine hK.out _ _ ⟨d0, d1, d2⟩ (fun hHeld => ?_)
          clear hK K
          refine norm_ (a' := ?_) ?_ ?_
          rotate_left
          · show Act.put _ (some 20) _ = _
            simp only [Act.put, List.setIfInBounds_toArray, List.set_cons_zero, List.set_cons_succ, i64_w, i32_w]
            rfl
          refine pure_ (i := 5) (N := some 21) (v := ?_) (a' := ?_) #[true, true, true, true, true, true, false, false, false, false, false, false, false, false, false, false, false, false] rfl rfl (by kernel_rfl) (pan_put (fun a => res_right a _ _ (by decide))) (Or.inl ⟨by rfl, ?_⟩) ?_ ?_
          rotate_left
          · intro w'
            go_simp
            with_reducible rfl
          rotate_left
          · simp only [Act.put, List.setIfInBounds_toArray, List.set_cons_zero, List.set_cons_succ, i64_w, i32_w]
            rfl
          refine pure_ (i := 6) (N := some 22) (v := ?_) (a' := ?_) #[true, true, true, true, true, true, true, false, false, false, false, false, false, false, false, false, false, false] rfl rfl (by kernel_rfl) (pan_put (fun a => res_right a _ _ (by decide))) (Or.inl ⟨by rfl, ?_⟩) ?_ ?_
          rotate_left
          · intro w'
            go_simp
            with_reducible rfl
          rotate_left
          · simp only [Act.put, List.setIfInBounds_toArray, List.set_cons_zero, List.set_cons_succ, i64_w, i32_w]
            rfl
          refine pure_ (i := 7) (N := some 23) (v := ?_) (a' := ?_) #[true, true, true, true, true, true, true, true, false, false, false, false, false, false, false, false, false, false] rfl rfl (by kernel_rfl) (pan_put (fun a => res_right a _ _ (by decide))) (Or.inl ⟨by rfl, ?_⟩) ?_ ?_
          rotate_left
          · intro w'
            go_simp
            with_reducible rfl
          rotate_left
          · simp only [Act.put, List.setIfInBounds_toArray, List.set_cons_zero, List.set_cons_succ, i64_w, i32_w]
            rfl
          refine pure_ (i := 9) (N := some 25) (v := ?_) (a' := ?_) #[true, true, true, true, true, true, true, true, false, true, false, false, false, false, false, false, false, false] rfl rfl (by kernel_rfl) (pan_put (fun a => res_right a _ _ (by decide))) (Or.inl ⟨by rfl, ?_⟩) ?_ ?_
          rotate_left
          · intro w'
            go_simp
            with_reducible rfl
          rotate_left
          · simp only [Act.put, List.setIfInBounds_toArray, List.set_cons_zero, List.set_cons_succ, i64_w, i32_w]
            rfl
          refine pure_ (i := 12) (N := some 28) (v := ?_) (a' := ?_) #[true, true, true, true, true, true, true, true, false, true, false, false, true, false, false, false, false, false] rfl rfl (by kernel_rfl) (pan_put (fun a => res_right a _ _ (by decide))) (Or.inl ⟨by rfl, ?_⟩) ?_ ?_
          rotate_left
          · intro w'
            go_simp
            with_reducible rfl
          rotate_left
          · simp only [Act.put, List.setIfInBounds_toArray, List.set_cons_zero, List.set_cons_succ, i64_w, i32_w]
            rfl
          refine take_ (i := 8) (N := some 24) (v := ?_) (a' := ?_) #[true, true, true, true, true, true, true, true, true, true, false, false, true, false, false, false, false, false] rfl rfl (by kernel_rfl) (pan_put (fun a => res_right a _ _ (by decide))) (Or.inl ⟨by rfl, ?_⟩) hHeld ?_ ?_
          rotate_left
          · rintro w' ⟨s0, s1, s2⟩
            go_simp
            with_reducible rfl
          rotate_left
          · simp only [Act.put, List.setIfInBounds_toArray, List.set_cons_zero, List.set_cons_succ, i64_w, i32_w]
            rfl
          refine take_ (i := 10) (N := some 26) (v := ?_) (a' := ?_) #[true, true, true, true, true, true, true, true, true, true, true, false, true, false, false, false, false, false] rfl rfl (by kernel_rfl) (pan_put (fun a => res_right a _ _ (by decide))) (Or.inl ⟨by rfl, ?_⟩) hHeld ?_ ?_
          rotate_left
          · rintro w' ⟨s0, s1, s2⟩
            go_simp
            with_reducible rfl
          rotate_left
          · simp only [Act.put, List.setIfInBounds_toArray, List.set_cons_zero, List.set_cons_succ, i64_w, i32_w]
            rfl
          refine take_ (i := 13) (N := some 29) (v := ?_) (a' := ?_) #[true, true, true, true, true, true, true, true, true, true, true, false, true, true, false, false, false, false] rfl rfl (by kernel_rfl) (pan_put (fun a => res_right a _ _ (by decide))) (Or.inl ⟨by rfl, ?_⟩) hHeld ?_ ?_
          rotate_left
          · rintro w' ⟨s0, s1, s2⟩
            go_simp
            with_reducible rfl
          rotate_left
          · simp only [Act.put, List.setIfInBounds_toArray, List.set_cons_zero, List.set_cons_succ, i64_w, i32_w]
            rfl
          refine pure_ (i := 14) (N := some 30) (v := ?_) (a' := ?_) #[true, true, true, true, true, true, true, true, true, true, true, false, true, true, true, false, false, false] rfl rfl (by kernel_rfl) (pan_put (fun a => res_right a _ _ (by decide))) (Or.inl ⟨by rfl, ?_⟩) ?_ ?_
          rotate_left
          · intro w'
            go_simp
            with_reducible rfl
          rotate_left
          · simp only [Act.put, List.setIfInBounds_toArray, List.set_cons_zero, List.set_cons_succ, i64_w, i32_w]
            rfl
          refine one_ (i := 11) (N := some 27) #[true, true, true, true, true, true, true, true, true, true, true, true, true, true, true, false, false, false] rfl rfl (by kernel_rfl) (by decide) (fun K hK => ?_)
          refine goes_ Tryd.func72 (by kernel_rfl) rfl #[.pointer (some ⟨a, 0, none⟩), .int .i64 f.f] (by rfl) rfl rfl (by simp only [List.map_toArray, List.map_cons, List.map_nil]; rfl) ?_
          with_reducible refine (HSz.out _ (below_drew HW5.out.below)).mono ?_
          rintro e w7 ⟨rfl, rfl⟩
          refine ⟨_, rfl, ?_⟩
          refine hK.out _ _ ⟨d0, d1, d2⟩ (fun hHeld => ?_)
          clear hK K
          refine norm_ (a' := ?_) ?_ ?_
          rotate_left
          · show Act.put _ (some 27) _ = _
            simp only [Act.put, List.setIfInBounds_toArray, List.set_cons_zero, List.set_cons_succ, i64_w, i32_w]
            rfl
          refine pure_ (i := 15) (N := some 31) (v := ?_) (a' := ?_) #[true, true, true, true, true, true, true, true, true, true, true, true, true, true, true, true, false, false] rfl rfl (by kernel_rfl) (pan_put (fun a => res_right a _ _ (by decide))) (Or.inl ⟨by rfl, ?_⟩) ?_ ?_
          rotate_left
          · intro w'
            go_simp
            with_reducible rfl
          rotate_left
          · simp only [Act.put, List.setIfInBounds_toArray, List.set_cons_zero, List.set_cons_succ, i64_w, i32_w]
            rfl
          refine pure_ (i := 16) (N := some 32) (v := ?_) (a' := ?_) #[true, true, true, true, true, true, true, true, true, true, true, true, true, true, true, true, true, false] rfl rfl (by kernel_rfl) (pan_put (fun a => res_right a _ _ (by decide))) (Or.inl ⟨by rfl, ?_⟩) ?_ ?_
          rotate_left
          · intro w'
            go_simp
            with_reducible rfl
          rotate_left
          · simp only [Act.put, List.setIfInBounds_toArray, List.set_cons_zero, List.set_cons_succ, i64_w, i32_w]
            rfl
          refine one_ (i := 17) (N := some 33) #[true, true, true, true, true, true, true, true, true, true, true, true, true, true, true, true, true, true] rfl rfl (by kernel_rfl) (by decide) (fun K hK => ?_)
          refine goesP_ Tryd.func88 (by kernel_rfl) rfl #[.bool false, .int .i64 9] (by rfl) rfl rfl (by simp only [List.map_toArray, List.map_cons, List.map_nil]; rfl) ?_
          with_reducible refine (must_no 9 _).mono ?_
          rintro e w9 ⟨rfl, rfl⟩
          refine ⟨_, rfl, ?_⟩
          refine ⟨⟨res_right2 _ _ rfl, rfl⟩, ?_⟩
          exact right_wrong _ _ 9 0 _ rfl HW5.out.err ⟨by rw [HE9.out], (HW5.out.step (below_drew (Below.refl _ _))).thrown _ _⟩
      · have hzb : decide (0 ≤ z) = false := decide_eq_false hz0
        have HE9 := Aside0.mk (HE9.out (by unfold shapeOk; rw [← HZ.out, hzb]; rfl))
        clear hz0
        refine start_ (n := 18) (S := fun w' => w'.cell? ⟨w.heap.size, 0, none⟩ = some (.pointer (some ⟨a, 0, none⟩)) ∧ w'.cell? ⟨N, 0, none⟩ = some (.int .i64 f.f) ∧ w'.cell? ⟨N, 1, none⟩ = some (.slice A1 f.l.length c1)) (ds := []) #[false, false, false, false, false, false, false, false, false, false, false, false, false, false, false, false, false, false] (by kernel_rfl) rfl rfl ⟨d0, d1, d2⟩ (fun hHeld => ?_)
        refine pure_ (i := 0) (N := some 16) (v := ?_) (a' := ?_) #[true, false, false, false, false, false, false, false, false, false, false, false, false, false, false, false, false, false] rfl rfl (by kernel_rfl) (pan_put (fun a => res_right a _ _ (by decide))) (Or.inl ⟨by rfl, ?_⟩) ?_ ?_
        rotate_left
        · intro w'
          go_simp
          with_reducible rfl
        rotate_left
        · simp only [Act.put, List.setIfInBounds_toArray, List.set_cons_zero, List.set_cons_succ, i64_w, i32_w]
          rfl
        refine pure_ (i := 2) (N := some 18) (v := ?_) (a' := ?_) #[true, false, true, false, false, false, false, false, false, false, false, false, false, false, false, false, false, false] rfl rfl (by kernel_rfl) (pan_put (fun a => res_right a _ _ (by decide))) (Or.inl ⟨by rfl, ?_⟩) ?_ ?_
        rotate_left
        · intro w'
          go_simp
          with_reducible rfl
        rotate_left
        · simp only [Act.put, List.setIfInBounds_toArray, List.set_cons_zero, List.set_cons_succ, i64_w, i32_w]
          rfl
        refine take_ (i := 1) (N := some 17) (v := ?_) (a' := ?_) #[true, true, true, false, false, false, false, false, false, false, false, false, false, false, false, false, false, false] rfl rfl (by kernel_rfl) (pan_put (fun a => res_right a _ _ (by decide))) (Or.inl ⟨by rfl, ?_⟩) hHeld ?_ ?_
        rotate_left
        · rintro w' ⟨s0, s1, s2⟩
          go_simp
          with_reducible rfl
        rotate_left
        · simp only [Act.put, List.setIfInBounds_toArray, List.set_cons_zero, List.set_cons_succ, i64_w, i32_w]
          rfl
        refine take_ (i := 3) (N := some 19) (v := ?_) (a' := ?_) #[true, true, true, true, false, false, false, false, false, false, false, false, false, false, false, false, false, false] rfl rfl (by kernel_rfl) (pan_put (fun a => res_right a _ _ (by decide))) (Or.inl ⟨by rfl, ?_⟩) hHeld ?_ ?_
        rotate_left
        · rintro w' ⟨s0, s1, s2⟩
          go_simp
          with_reducible rfl
        rotate_left
        · simp only [Act.put, List.setIfInBounds_toArray, List.set_cons_zero, List.set_cons_succ, i64_w, i32_w]
          rfl
        refine one_ (i := 4) (N := some 20) #[true, true, true, true, true, false, false, false, false, false, false, false, false, false, false, false, false, false] rfl rfl (by kernel_rfl) (by decide) (fun K hK => ?_)
        refine goes_ Tryd.func72 (by kernel_rfl) rfl #[.pointer (some ⟨a, 0, none⟩), .int .i64 f.f] (by rfl) rfl rfl (by simp only [List.map_toArray, List.map_cons, List.map_nil]; rfl) ?_
        with_reducible refine (HSz.out _ (below_drew HW5.out.below)).mono ?_
        rintro e w6 ⟨rfl, rfl⟩
        refine ⟨_, rfl, ?_⟩
        refine hK.out _ _ ⟨d0, d1, d2⟩ (fun hHeld => ?_)
        clear hK K
        refine norm_ (a' := ?_) ?_ ?_
        rotate_left
        · show Act.put _ (some 20) _ = _
          simp only [Act.put, List.setIfInBounds_toArray, List.set_cons_zero, List.set_cons_succ, i64_w, i32_w]
          rfl
        refine pure_ (i := 5) (N := some 21) (v := ?_) (a' := ?_) #[true, true, true, true, true, true, false, false, false, false, false, false, false, false, false, false, false, false] rfl rfl (by kernel_rfl) (pan_put (fun a => res_right a _ _ (by decide))) (Or.inl ⟨by rfl, ?_⟩) ?_ ?_
        rotate_left
        · intro w'
          go_simp
          with_reducible rfl
        rotate_left
        · simp only [Act.put, List.setIfInBounds_toArray, List.set_cons_zero, List.set_cons_succ, i64_w, i32_w]
          rfl
        refine pure_ (i := 6) (N := some 22) (v := ?_) (a' := ?_) #[true, true, true, true, true, true, true, false, false, false, false, false, false, false, false, false, false, false] rfl rfl (by kernel_rfl) (pan_put (fun a => res_right a _ _ (by decide))) (Or.inl ⟨by rfl, ?_⟩) ?_ ?_
        rotate_left
        · intro w'
          go_simp
          with_reducible rfl
        rotate_left
        · simp only [Act.put, List.setIfInBounds_toArray, List.set_cons_zero, List.set_cons_succ, i64_w, i32_w]
          rfl
        refine pure_ (i := 7) (N := some 23) (v := undef) (a' := ?_) #[true, true, true, true, true, true, true, true, false, false, false, false, false, false, false, false, false, false] rfl rfl (by kernel_rfl) (pan_put (fun a => res_right a _ _ (by decide))) (Or.inr ⟨by rfl, rfl⟩) ?_ ?_
        rotate_left
        · simp only [Act.put, List.setIfInBounds_toArray, List.set_cons_zero, List.set_cons_succ, i64_w, i32_w]
          rfl
        refine pure_ (i := 8) (N := some 24) (v := undef) (a' := ?_) #[true, true, true, true, true, true, true, true, true, false, false, false, false, false, false, false, false, false] rfl rfl (by kernel_rfl) (pan_put (fun a => res_right a _ _ (by decide))) (Or.inr ⟨by rfl, rfl⟩) ?_ ?_
        rotate_left
        · simp only [Act.put, List.setIfInBounds_toArray, List.set_cons_zero, List.set_cons_succ, i64_w, i32_w]
          rfl
        refine pure_ (i := 9) (N := some 25) (v := undef) (a' := ?_) #[true, true, true, true, true, true, true, true, true, true, false, false, false, false, false, false, false, false] rfl rfl (by kernel_rfl) (pan_put (fun a => res_right a _ _ (by decide))) (Or.inr ⟨by rfl, rfl⟩) ?_ ?_
        rotate_left
        · simp only [Act.put, List.setIfInBounds_toArray, List.set_cons_zero, List.set_cons_succ, i64_w, i32_w]
          rfl
        refine pure_ (i := 10) (N := some 26) (v := undef) (a' := ?_) #[true, true, true, true, true, true, true, true, true, true, true, false, false, false, false, false, false, false] rfl rfl (by kernel_rfl) (pan_put (fun a => res_right a _ _ (by decide))) (Or.inr ⟨by rfl, rfl⟩) ?_ ?_
        rotate_left
        · simp only [Act.put, List.setIfInBounds_toArray, List.set_cons_zero, List.set_cons_succ, i64_w, i32_w]
          rfl
        refine pure_ (i := 11) (N := some 27) (v := undef) (a' := ?_) #[true, true, true, true, true, true, true, true, true, true, true, true, false, false, false, false, false, false] rfl rfl (by kernel_rfl) (pan_put (fun a => res_right a _ _ (by decide))) (Or.inr ⟨by rfl, rfl⟩) ?_ ?_
        rotate_left
        · simp only [Act.put, List.setIfInBounds_toArray, List.set_cons_zero, List.set_cons_succ, i64_w, i32_w]
          rfl
        refine pure_ (i := 12) (N := some 28) (v := undef) (a' := ?_) #[true, true, true, true, true, true, true, true, true, true, true, true, true, false, false, false, false, false] rfl rfl (by kernel_rfl) (pan_put (fun a => res_right a _ _ (by decide))) (Or.inr ⟨by rfl, rfl⟩) ?_ ?_
        rotate_left
        · simp only [Act.put, List.setIfInBounds_toArray, List.set_cons_zero, List.set_cons_succ, i64_w, i32_w]
          rfl
        refine pure_ (i := 13) (N := some 29) (v := undef) (a' := ?_) #[true, true, true, true, true, true, true, true, true, true, true, true, true, true, false, false, false, false] rfl rfl (by kernel_rfl) (pan_put (fun a => res_right a _ _ (by decide))) (Or.inr ⟨by rfl, rfl⟩) ?_ ?_
        rotate_left
        · simp only [Act.put, List.setIfInBounds_toArray, List.set_cons_zero, List.set_cons_succ, i64_w, i32_w]
          rfl
        refine pure_ (i := 14) (N := some 30) (v := undef) (a' := ?_) #[true, true, true, true, true, true, true, true, true, true, true, true, true, true, true, false, false, false] rfl rfl (by kernel_rfl) (pan_put (fun a => res_right a _ _ (by decide))) (Or.inr ⟨by rfl, rfl⟩) ?_ ?_
        rotate_left
        · simp only [Act.put, List.setIfInBounds_toArray, List.set_cons_zero, List.set_cons_succ, i64_w, i32_w]
          rfl
        refine pure_ (i := 15) (N := some 31) (v := undef) (a' := ?_) #[true, true, true, true, true, true, true, true, true, true, true, true, true, true, true, true, false, false] rfl rfl (by kernel_rfl) (pan_put (fun a => res_right a _ _ (by decide))) (Or.inr ⟨by rfl, rfl⟩) ?_ ?_
        rotate_left
        · simp only [Act.put, List.setIfInBounds_toArray, List.set_cons_zero, List.set_cons_succ, i64_w, i32_w]
          rfl
        refine pure_ (i := 16) (N := some 32) (v := ?_) (a' := ?_) #[true, true, true, true, true, true, true, true, true, true, true, true, true, true, true, true, true, false] rfl rfl (by kernel_rfl) (pan_put (fun a => res_right a _ _ (by decide))) (Or.inl ⟨by rfl, ?_⟩) ?_ ?_
        rotate_left
        · intro w'
          go_simp
          with_reducible rfl
        rotate_left
        · simp only [Act.put, List.setIfInBounds_toArray, List.set_cons_zero, List.set_cons_succ, i64_w, i32_w]
          rfl
        refine one_ (i := 17) (N := some 33) #[true, true, true, true, true, true, true, true, true, true, true, true, true, true, true, true, true, true] rfl rfl (by kernel_rfl) (by decide) (fun K hK => ?_)
        refine goesP_ Tryd.func88 (by kernel_rfl) rfl #[.bool false, .int .i64 9] (by rfl) rfl rfl (by simp only [List.map_toArray, List.map_cons, List.map_nil]; rfl) ?_
        with_reducible refine (must_no 9 _).mono ?_
        rintro e w9 ⟨rfl, rfl⟩
        refine ⟨_, rfl, ?_⟩
        refine ⟨⟨res_right2 _ _ rfl, rfl⟩, ?_⟩
        exact right_wrong _ _ 9 0 _ rfl HW5.out.err ⟨by rw [HE9.out], (HW5.out.step (below_drew (Below.refl _ _))).thrown _ _⟩
    · have HAll2 : Aside0 (l.all (shapeOk t) = true) := ⟨by have := HAll.out; rwa [List.take_of_length_le (by omega)] at this⟩
      go_wp2
      clear q0 q1
      go_loopw [38] (fun i ws => ∃ k : Nat, k ≤ l.length ∧ i = .int .i64 k ∧ Aside0 (RtW w a A l.length c ws) ∧ Aside0 (rightE t l = firstNZ (allErrs t l k))) (fun i _ => l.length - (intOf i).toNat)
      case atStart => exact ⟨0, Nat.zero_le _, rfl, HW, ⟨by unfold rightE; rw [if_pos HAll2.out]⟩⟩
      case round =>
        obtain ⟨d, hd, rfl, HW, HE⟩ := hrel
        have q0 := HW.out.c0
        have q1 := HW.out.c1
        by_cases hlt : d < l.length
        · obtain ⟨ad, A1, c1, rfl, g0, g1, gl, gC⟩ := at_Fr (Kd.C_below HR.out.rows HW.out.below) (d : Int) (by omega) (by omega)
          simp only [Int.toNat_natCast] at g0 g1
          have HC := Aside0.mk gC
          have hfl : ((fr l d).l.length : Int) ≤ 9223372036854775807 := by have := gC.2.1; omega
          obtain ⟨wo, rfl⟩ : ∃ wo : World, wo = wr := ⟨_, rfl⟩
          clear gC gl
          have HW5 : Aside0 (RtW w a (some ad) l.length c (wo.alloc (.cells #[.int .i64 (fr l d).f, .slice A1 (fr l d).l.length c1] 80))) := ⟨HW.out.step (below_alloc (Below.refl _ _) _)⟩
          have HC5 := Aside0.mk (Kd.C_below HC.out (below_alloc (Below.refl _ wo) (.cells #[.int .i64 (fr l d).f, .slice A1 (fr l d).l.length c1] 80)))
          have HE5 : Aside0 (rightE t l = firstNZ ((slotErrs t l d).drop 0 ++ allErrs t l (d + 1))) := ⟨by rw [HE.out, allErrs_step hlt]; rfl⟩
          go_wp2
          clear q0 q1 g0 g1
          generalize wo.alloc (.cells #[.int .i64 (fr l d).f, .slice A1 (fr l d).l.length c1] 80) = w5 at *
          go_loopw [46] (fun i wi => ∃ k : Nat, k ≤ (fr l d).l.length ∧ i = .int .i64 k ∧ Aside0 (RtW w a (some ad) l.length c wi) ∧ Aside0 (kVl.C wi A1 (fr l d).l.length (fr l d).l) ∧ Aside0 (rightE t l = firstNZ ((slotErrs t l d).drop k ++ allErrs t l (d + 1)))) (fun i _ => (fr l d).l.length - (intOf i).toNat)
          case atStart => exact ⟨0, Nat.zero_le _, rfl, HW5, HC5, HE5⟩
          case round =>
            obtain ⟨i, hi, rfl, HW6, HC6, HE6⟩ := hrel
            have q0 := HW6.out.c0
            have q1 := HW6.out.c1
            by_cases hil : i < (fr l d).l.length
            · obtain ⟨ad2, rfl, v0, v1, v2, v3⟩ := at_Vl HC6.out (i : Int) (by omega) (by omega)
              simp only [Int.toNat_natCast] at v0 v1 v2 v3
              have HSt := Aside0.mk (slotErrs_step (t := t) hil)
              obtain ⟨v, hv⟩ : ∃ v, v = vl (fr l d).l i := ⟨_, rfl⟩
              rw [← hv] at v0 v1 v2 v3 HSt
              clear hv
              have hb7 : Below wr.heap.size wr (wr.alloc (.cells #[.int .u8 v.k, .int .u64 v.b, .int .i64 v.d, .int .i64 v.s] 26)) := below_alloc (Below.refl _ _) _
              have HW7 := Aside0.mk (HW6.out.step hb7)
              have HC7 := Aside0.mk (Kd.C_below HC6.out hb7)
              have HF := Aside0.mk (fun (W : World) (hB : Below w.heap.size w W) => rfits_calls a t (some ad) c l d i v W (HR.out.below hB) (by omega) (by omega) (by constructor <;> omega))
              have q7 := HW7.out.c0
              have q8 := HW7.out.c1
              clear hb7
              by_cases hx : fitsE t l d i v = 0
              · have HX := Aside0.mk hx
                have HF2 := Aside0.mk ((HF.out _ HW7.out.below).mono fun e w' h => (⟨h.1.ok hx, h.2⟩ : e = .returned (.tuple #[]) ∧ Below _ _ w'))
                clear hx HF
                go_wp2_with (go_at_call 96; refine HF2.out.mono ?_; rintro e w8 ⟨rfl, hb8⟩; have HW8 := Aside0.mk (HW7.out.step hb8); have HC8 := Aside0.mk (Kd.C_below HC7.out hb8); clear hb8)
                go_roundw
                case rel => exact ⟨i + 1, by omega, by go_num, HW8, HC8, ⟨by rw [HE6.out, HSt.out, HX.out]; rfl⟩⟩
                case measure => simp [intOf]; omega
              · obtain ⟨x, hxx⟩ : ∃ x, x = fitsE t l d i v := ⟨_, rfl⟩
                rw [← hxx] at hx HF HSt
                have HX := Aside0.mk hx
                have HF2 := Aside0.mk ((HF.out _ HW7.out.below).mono fun e w' h => (⟨h.1.no hx, h.2⟩ : e = .panicked (Wrong x) ∧ Below _ _ w'))
                clear hx hxx HF
                go_wp2_with (go_at_call 96; refine HF2.out.mono ?_; rintro e w8 ⟨rfl, hb8⟩; have HW8 := Aside0.mk (HW7.out.step hb8); clear hb8)
                exact right_wrong _ _ x 0 _ rfl HW8.out.err ⟨by rw [HE6.out, HSt.out]; show _ = Ending.returned (.int .i64 (firstNZ (x :: (_ ++ _)))); rw [firstNZ, if_neg HX.out], HW8.out.thrown _ _⟩
            · have HE7 : Aside0 (rightE t l = firstNZ (allErrs t l (d + 1))) := ⟨by rw [HE6.out, List.drop_eq_nil_of_le (by simp [slotErrs]; omega)]; rfl⟩
              go_wp2
              go_roundw
              case rel => exact ⟨d + 1, by omega, by go_num, HW6, HE7⟩
              case measure => simp [intOf]; omega
        · have HE0 : Aside0 (rightE t l = 0) := ⟨by rw [HE.out]; unfold allErrs; rw [List.drop_eq_nil_of_le (by simp; omega)]; rfl⟩
          have q3 : wr.cell? ⟨w.heap.size + 1, 0, none⟩ = some (.int .i64 0) := (blk_cell HW.out.err 0).trans rfl
          have q4 := blk_frozen HW.out.err 0
          go_wp2
          have hblk := blk_set HW.out.err 0 (.int .i64 0)
          exact right_fine _ _ 0 _ rfl hblk ⟨by rw [HE0.out], HW.out.below.setCell (Nat.le_succ _) _⟩
end Go.Proofs.YtfaghjadjpiaiaaDoor.Sh
namespace Go.Proofs.YtfaghjadjpiaiaaDoor.Sh
open Go.RowKit Go.Shelf Go.Proofs.YtfaghjadjpiaiaaDoorW.PrintWords Go.Proofs.YtfaghjadjpiaiaaDoorW.PrintLast Go.Proofs.YtfaghjadjpiaiaaDoorW.PrintMore
set_option linter.unusedVariables false
set_option linter.unusedSimpArgs false
theorem Right_calls (a : Nat) (t : List Ent) (A : Option Addr) (c : Nat) (l : List Fr) (w : World) (h : IsRow w a t A c l) :
    Calls Tryd.prog 133 #[.pointer (some ⟨a, 0, none⟩), .slice A l.length c] w fun e w' => e = .returned (.bool (rightE t l == 0)) ∧ Below w.heap.size w w' := by
  have HR := Aside0.mk (right_calls a t A c l w h)
  clear h
  go_enter Tryd.func133, Tryd.ntmps133
  go_wp2_with (go_at_call 152; refine HR.out.mono ?_; rintro e w' ⟨rfl, hb⟩; have HB := Aside0.mk hb; clear hb)
  go_ret
  exact ⟨rfl, HB.out⟩
/-- Not more than the program goes through. -/
structure SmallR (l : List Fr) : Prop where
  len : l.length ≤ 1000000
  slots : ∀ f ∈ l, f.l.length ≤ 1000000
theorem info26 : (Tryd.prog.info? 26).map (fun i => (i.zero, i.size, i.bytes)) = some (some (.agg #[.int .u8 0, .int .u64 0, .int .i64 0, .int .i64 0]), 4, 32) := by kernel_rfl
theorem info80 : (Tryd.prog.info? 80).map (fun i => (i.zero, i.size, i.bytes)) = some (some (.agg #[.int .i64 0, .slice none 0 0]), 2, 32) := by kernel_rfl
theorem nil_of_none {α : Type} {d : Kd α} {w : World} {n : Nat} {xs : List α} (h : d.C w none n xs) : xs = [] := by
  cases xs with
  | nil => rfl
  | cons x r =>
    have := h.1
    obtain ⟨ad, h, _⟩ := h.2.2 (by simp at this; omega)
    cases h
theorem kVl_KM {w : World} {base : Nat} {ok : Nat → Prop} (x : Vl) (cs : List Value) (h : kVl.K w x cs) : kVl.M w base ok x cs := by
  rw [kVl_open h]; exact kVl_mkM _ _ _ _
set_option maxRecDepth 100000 in
theorem cloneV_calls (A : Option Addr) (c : Nat) (b : List Vl) (w : World) (hr : kVl.C w A b.length b) (hl : b.length ≤ c) (hb : b.length ≤ 1000000) :
    Calls Tryd.prog 151 #[.slice A b.length c] w fun e w' => ∃ v, e = .returned v ∧ kVl.R 26 w' w.heap.size (fun _ => True) v b ∧ Below w.heap.size w w' := by
  have qT : ∀ (w : World) (a : Option Addr) (n c n' c' : Nat), (binOp .eql 78 (.slice a n c) (.slice none n' c')).run Tryd.prog w = .ok (.bool a.isNone) w := fun w a n c n' c' => Lib.run_eql_slice_nil w _ _ a n c n' c' Tryd.underlying78
  have HR := Aside0.mk hr
  clear hr
  cases A with
  | none =>
    have hz : b = [] := nil_of_none HR.out
    subst hz
    go_enter Tryd.func151, Tryd.ntmps151
    go_wp2
    go_ret
    exact ⟨_, rfl, Kd.R_nil _ _ _ _ _, Below.refl _ _⟩
  | some ad =>
    have HO : Aside0 (kVl.R 26 (w.alloc (.cells #[] 26)) w.heap.size (fun _ => True) (.slice (some ⟨w.heap.size, 0, none⟩) 0 0) []) := ⟨⟨fun _ _ => trivial, [], World.ownsRow_made w #[] 0 (Nat.le_refl _) (by unfold maxLen; omega) rfl, Reps.none _ _⟩⟩
    have HB0 : Aside0 (Below w.heap.size w (w.alloc (.cells #[] 26))) := ⟨below_alloc (Below.refl _ _) _⟩
    have HR1 := Aside0.mk (Kd.C_below HR.out HB0.out)
    go_enter Tryd.func151, Tryd.ntmps151
    go_wp2_with (at_builtin; refine Kd.R_append_rows kVl (w0 := w) w.heap.size rfl (.tmp 5) (.tmp 6) 78 26 (.agg #[.int .u8 0, .int .u64 0, .int .i64 0, .int .i64 0]) 32 rfl Tryd.underlying78 info26 rfl (by decide) (by omega) (.slice (some ⟨w.heap.size, 0, none⟩) 0 0) [] b (some ad) b.length c (fun _ => True) (fun _ => False) rfl rfl HO.out HR1.out kVl_KM (fun _ h => h.elim) (fun _ _ => trivial) HB0.out (by simp) (by simp; omega) ?_; intro v1 w1 hR hB _ _; have HR2 := Aside0.mk hR; have HB2 := Aside0.mk hB; clear hR hB)
    go_ret
    exact ⟨_, rfl, by have := HR2.out; simpa using this, HB2.out⟩
theorem kFr_mkM (w : World) (base : Nat) (ok : Nat → Prop) (x : Fr) {v1 : Value} (g1 : kVl.R 26 w base ok v1 x.l) : kFr.M w base ok x [.int .i64 x.f, v1] := ⟨[.int .i64 x.f], [v1], rfl, rfl, ⟨v1, rfl, g1⟩⟩
theorem make_Fr (n : Nat) (hn : n ≤ 1000000) (W : World) : (Instr.makeSlice 23 (.int .i64 0) (.int .i64 (n : Int))).run Tryd.prog W = .ok (.slice (some ⟨W.heap.size, 0, none⟩) 0 n) (W.alloc (.cells (madeCells #[.int .i64 0, .slice none 0 0] (n * 2)) 80)) := by
  obtain ⟨i0, hi, hzz⟩ := Option.map_eq_some_iff.1 info80
  simp only [Prod.mk.injEq] at hzz
  obtain ⟨hz0, hz1, hz2⟩ := hzz
  have h := run_make (P := Tryd.prog) W 23 80 i0 _ Tryd.underlying23 hi hz0 .i64 .i64 0 (n : Int) (Int.le_refl _) (by omega) (by rw [hz2]; omega) (by omega)
  rw [hz1] at h
  simpa [Value.cells] using h
set_option maxRecDepth 100000 in
set_option maxHeartbeats 1000000 in
theorem clone_calls (A : Option Addr) (c : Nat) (l : List Fr) (w : World) (hr : kFr.C w A l.length l) (hl : l.length ≤ c) (hs : SmallR l) :
    Calls Tryd.prog 130 #[.slice A l.length c] w fun e w' => ∃ v, e = .returned v ∧ kFr.S 80 w' w.heap.size (fun _ => True) v l ∧ Below w.heap.size w w' := by
  have hmk := make_Fr l.length hs.len
  have HR := Aside0.mk hr
  have HS := Aside0.mk hs
  have hlen := hs.len
  have HO : Aside0 (kFr.S 80 (w.alloc (.cells (madeCells #[.int .i64 0, .slice none 0 0] (l.length * 2)) 80)) w.heap.size (fun _ => True) (.slice (some ⟨w.heap.size, 0, none⟩) 0 l.length) []) := ⟨⟨fun _ => 0, fun _ _ => trivial, [], World.ownsRow_made w _ l.length (Nat.le_refl _) (by unfold maxLen; omega) (size_madeCells _ _), Reps.none _ _⟩⟩
  have HB0 : Aside0 (Below w.heap.size w (w.alloc (.cells (madeCells #[.int .i64 0, .slice none 0 0] (l.length * 2)) 80))) := ⟨below_alloc (Below.refl _ _) _⟩
  clear hr hs
  go_enter Tryd.func130, Tryd.ntmps130
  go_wp2
  clear hmk
  generalize w.alloc (.cells (madeCells #[.int .i64 0, .slice none 0 0] (l.length * 2)) 80) = w1 at *
  go_loopw [3, 11] (fun v i wr => ∃ k : Nat, k ≤ l.length ∧ i = .int .i64 k ∧ Aside0 (kFr.S 80 wr w.heap.size (fun _ => True) v (l.take k)) ∧ Aside0 (Below w.heap.size w wr)) (fun _ i _ => l.length - (intOf i).toNat)
  case atStart => exact ⟨0, Nat.zero_le _, rfl, HO, HB0⟩
  case round =>
    obtain ⟨k, hk, rfl, HRR, HB⟩ := hrel
    by_cases hlt : k < l.length
    · obtain ⟨ad, A1, c1, rfl, g0, g1, gl, gC⟩ := at_Fr (Kd.C_below HR.out HB.out) (k : Int) (by omega) (by omega)
      simp only [Int.toNat_natCast] at g0 g1
      have hget : l[k]? = some (fr l k) := by simp [fr, List.getElem?_eq_getElem hlt]
      have hmem := fr_mem (l := l) (i := (k : Int)) (by omega) (by omega)
      obtain ⟨f, hf⟩ : ∃ f, f = fr l k := ⟨_, rfl⟩
      rw [← hf] at g0 g1 gl gC hget hmem
      have HT := Aside0.mk (take_get hget)
      have hfl := HS.out.slots f hmem
      obtain ⟨A2, c2, rfl⟩ := Kd.S_slice HRR.out
      have hlk : (l.take k).length = k := by rw [List.length_take]; omega
      rw [hlk] at HRR
      rw [hlk]
      have hb5 : Below wr.heap.size wr (wr.alloc (.cells #[.int .i64 f.f, .slice A1 f.l.length c1] 80)) := below_alloc (Below.refl _ _) _
      have HR5 := Aside0.mk (Kd.S_below (Kd.S_mono (Kd.S_bound HRR.out) (ok' := fun j => True ∧ ¬ wr.heap.size + 1 ≤ j) (fun j hj => ⟨trivial, by have := hj.2.2.1; omega⟩)) hb5)
      have HB5 := Aside0.mk (below_then HB.out HB.out.size hb5)
      have HC5 := Aside0.mk (Kd.C_below gC hb5)
      have hbk := heap_alloc_new wr (.cells #[.int .i64 f.f, .slice A1 f.l.length c1] 80)
      have HGl := Aside0.mk gl
      have hsz : (wr.alloc (.cells #[.int .i64 f.f, .slice A1 f.l.length c1] 80)).heap.size = wr.heap.size + 1 := by simp
      have hown : ∀ j, (Value.slice A2 k c2).ownBlock = some j → j < wr.heap.size := by
        intro j hj
        obtain ⟨inner, ho⟩ := Kd.S_own HRR.out
        exact own_lt ho j hj
      clear hf hget gl gC hmem hb5 hlk
      go_wp2_with fail
      clear g0 g1
      generalize wr.alloc (.cells #[.int .i64 f.f, .slice A1 f.l.length c1] 80) = w5 at *
      obtain ⟨q, hq⟩ : ∃ q, q = wr.heap.size := ⟨_, rfl⟩
      rw [← hq] at hbk hsz hown HR5
      rw [← hq]
      have HOwn := Aside0.mk hown
      have HSz := Aside0.mk hsz
      clear hq hown hsz
      have d1 : w5.cell? ⟨q, 0, none⟩ = some (.int .i64 f.f) := (blk_cell hbk 0).trans rfl
      have d2 : w5.cell? ⟨q, 1, none⟩ = some (.slice A1 f.l.length c1) := (blk_cell hbk 1).trans rfl
      clear hbk
      refine start_ (n := 10) (S := fun w' => w'.cell? ⟨q, 0, none⟩ = some (.int .i64 f.f) ∧ w'.cell? ⟨q, 1, none⟩ = some (.slice A1 f.l.length c1)) (ds := []) #[false, false, false, false, false, false, false, false, false, false] (by kernel_rfl) rfl rfl ⟨d1, d2⟩ (fun hHeld => ?_)
      refine pure_ (i := 0) (N := some 15) (v := ?_) (a' := ?_) #[true, false, false, false, false, false, false, false, false, false] rfl rfl (by kernel_rfl) (fun _ _ _ h => h) (Or.inl ⟨by rfl, ?_⟩) ?_ ?_
      rotate_left
      · intro w'
        go_simp
        with_reducible rfl
      rotate_left
      · simp only [Act.put, List.setIfInBounds_toArray, List.set_cons_zero, List.set_cons_succ, i64_w, i32_w]
        rfl
      refine pure_ (i := 1) (N := some 16) (v := ?_) (a' := ?_) #[true, true, false, false, false, false, false, false, false, false] rfl rfl (by kernel_rfl) (fun _ _ _ h => h) (Or.inl ⟨by rfl, ?_⟩) ?_ ?_
      rotate_left
      · intro w'
        go_simp
        with_reducible rfl
      rotate_left
      · simp only [Act.put, List.setIfInBounds_toArray, List.set_cons_zero, List.set_cons_succ, i64_w, i32_w]
        rfl
      refine pure_ (i := 3) (N := some 18) (v := ?_) (a' := ?_) #[true, true, false, true, false, false, false, false, false, false] rfl rfl (by kernel_rfl) (fun _ _ _ h => h) (Or.inl ⟨by rfl, ?_⟩) ?_ ?_
      rotate_left
      · intro w'
        go_simp
        with_reducible rfl
      rotate_left
      · simp only [Act.put, List.setIfInBounds_toArray, List.set_cons_zero, List.set_cons_succ, i64_w, i32_w]
        rfl
      refine take_ (i := 2) (N := some 17) (v := ?_) (a' := ?_) #[true, true, true, true, false, false, false, false, false, false] rfl rfl (by kernel_rfl) (fun _ _ _ h => h) (Or.inl ⟨by rfl, ?_⟩) hHeld ?_ ?_
      rotate_left
      · rintro w' ⟨s0, s1⟩
        go_simp
        with_reducible rfl
      rotate_left
      · simp only [Act.put, List.setIfInBounds_toArray, List.set_cons_zero, List.set_cons_succ, i64_w, i32_w]
        rfl
      refine take_ (i := 4) (N := some 19) (v := ?_) (a' := ?_) #[true, true, true, true, true, false, false, false, false, false] rfl rfl (by kernel_rfl) (fun _ _ _ h => h) (Or.inl ⟨by rfl, ?_⟩) hHeld ?_ ?_
      rotate_left
      · rintro w' ⟨s0, s1⟩
        go_simp
        with_reducible rfl
      rotate_left
      · simp only [Act.put, List.setIfInBounds_toArray, List.set_cons_zero, List.set_cons_succ, i64_w, i32_w]
        rfl
      refine one_ (i := 5) (N := some 20) #[true, true, true, true, true, true, false, false, false, false] rfl rfl (by kernel_rfl) (by decide) (fun K hK => ?_)
      refine goes_ Tryd.func151 (by kernel_rfl) rfl #[.slice A1 f.l.length c1] (by rfl) rfl rfl (by simp only [List.map_toArray, List.map_cons, List.map_nil]; rfl) ?_
      with_reducible refine (cloneV_calls A1 c1 f.l _ (Kd.C_drew HC5.out) HGl.out hfl).mono ?_
      rintro e w6 ⟨v6, rfl, hR6, hB6⟩
      refine ⟨_, rfl, ?_⟩
      obtain ⟨A6, c6, rfl⟩ := Kd.R_slice hR6
      have HB6 := Aside0.mk (below_of_drew hB6)
      have HR6 := Aside0.mk (show kVl.R 26 w6 w5.heap.size (fun _ => True) _ _ from hR6)
      clear hR6 hB6
      refine hK.out _ _ ⟨(pw_cell_below HB6.out d1), (pw_cell_below HB6.out d2)⟩ (fun hHeld => ?_)
      clear hK K
      refine norm_ (a' := ?_) ?_ ?_
      rotate_left
      · show Act.put _ (some 20) _ = _
        simp only [Act.put, List.setIfInBounds_toArray, List.set_cons_zero, List.set_cons_succ, i64_w, i32_w]
        rfl
      refine pure_ (i := 6) (N := some 21) (v := ?_) (a' := ?_) #[true, true, true, true, true, true, true, false, false, false] rfl rfl (by kernel_rfl) (fun _ _ _ h => h) (Or.inl ⟨by rfl, ?_⟩) ?_ ?_
      rotate_left
      · intro w'
        go_simp
        with_reducible rfl
      rotate_left
      · simp only [Act.put, List.setIfInBounds_toArray, List.set_cons_zero, List.set_cons_succ, i64_w, i32_w]
        rfl
      refine one_ (i := 7) (N := some 22) #[true, true, true, true, true, true, true, true, false, false] rfl rfl (by kernel_rfl) (by decide) (fun K hK => ?_)
      refine value_ (w1 := ?_) (v := ?_) (by rfl) rfl ?_ ?_
      rotate_left 2
      · go_simp
        constructor
        · rfl
        · rfl
      refine hK.out _ _ ⟨(pw_cell_below (below_alloc (Below.refl _ _) _) (pw_cell_below HB6.out d1)), (pw_cell_below (below_alloc (Below.refl _ _) _) (pw_cell_below HB6.out d2))⟩ (fun hHeld => ?_)
      clear hK K
      refine norm_ (a' := ?_) ?_ ?_
      rotate_left
      · show Act.put _ (some 22) _ = _
        simp only [Act.put, List.setIfInBounds_toArray, List.set_cons_zero, List.set_cons_succ, i64_w, i32_w]
        rfl
      refine one_ (i := 8) (N := some 23) #[true, true, true, true, true, true, true, true, true, false] rfl rfl (by kernel_rfl) (by decide) (fun K hK => ?_)
      refine Kd.S_append_step kFr (w0 := w) (W := w6) w.heap.size (by rfl) (.tmp 15) (.tmp 22) 23 80 (.agg #[.int .i64 0, .slice none 0 0]) 32 rfl Tryd.underlying23 info80 rfl (by decide) (by omega) (.slice A2 k c2) (l.take k) f [.int .i64 f.f, .slice A6 f.l.length c6] (fun _ => True) (fun j => q + 1 ≤ j) rfl (by simp only [Act.eval]; rfl) ?hM ?hok (fun _ _ => trivial) ?hO ?hB ?hbase (by rw [List.length_take]; omega) ?_
      case hM => exact kFr_mkM _ _ _ _ (Kd.R_lower (Kd.R_mono (Kd.R_bound HR6.out) (fun j hj => by have h1 := hj.2.1; have h2 := HSz.out; omega)) HB5.out.size)
      case hok => exact fun j hj => ⟨trivial, fun h => by have := HOwn.out j h.symm; omega⟩
      case hO => exact Kd.S_below HR5.out HB6.out
      case hB => exact below_then HB5.out HB5.out.size HB6.out
      case hbase => exact Nat.le_trans HB5.out.size HB6.out.size
      intro v9 w9 hR9 hB9 hgr9 hat9
      obtain ⟨A9, c9, rfl⟩ := Kd.S_slice hR9
      have hqne : some q ≠ (Value.slice A2 k c2).ownBlock := fun h => by have := HOwn.out q h.symm; omega
      have e1 := World.grownBy.cell hgr9 (pw_cell_below HB6.out d1) hqne
      have e2 := World.grownBy.cell hgr9 (pw_cell_below HB6.out d2) hqne
      have HR9 := Aside0.mk hR9
      have HB9 := Aside0.mk hB9
      clear hR9 hB9 hgr9 hat9 hqne
      refine hK.out _ _ ⟨e1, e2⟩ (fun hHeld => ?_)
      clear hK K
      refine norm_ (a' := ?_) ?_ ?_
      rotate_left
      · show Act.put _ (some 23) _ = _
        simp only [Act.put, List.setIfInBounds_toArray, List.set_cons_zero, List.set_cons_succ, i64_w, i32_w]
        rfl
      refine pure_ (i := 9) (N := some 3) (v := ?_) (a' := ?_) #[true, true, true, true, true, true, true, true, true, true] rfl rfl (by kernel_rfl) (fun _ _ _ h => h) (Or.inl ⟨by rfl, ?_⟩) ?_ ?_
      rotate_left
      · intro w'
        go_simp
        with_reducible rfl
      rotate_left
      · simp only [Act.put, List.setIfInBounds_toArray, List.set_cons_zero, List.set_cons_succ, i64_w, i32_w]
        rfl
      refine done_ (by kernel_rfl) ?_
      have HR9b : Aside0 (kFr.S 80 w9 w.heap.size (fun _ => True) (.slice A9 (k + 1) c9) (l.take (k + 1))) := ⟨by
        have h := HR9.out
        rw [show (l.take k ++ [f]).length = k + 1 by rw [List.length_append, List.length_take]; simp; omega] at h
        rw [HT.out]
        exact h⟩
      clear hHeld d1 d2 e1 e2
      go_wp2
      go_roundw
      case rel => exact ⟨k + 1, by omega, by go_num, HR9b, HB9⟩
      case measure => simp [intOf]; omega
    · have HR9 : Aside0 (kFr.S 80 wr w.heap.size (fun _ => True) u3 l) := ⟨by have := HRR.out; rwa [List.take_of_length_le (by omega)] at this⟩
      go_wp2
      go_ret
      exact ⟨_, rfl, HR9.out, HB.out⟩
end Go.Proofs.YtfaghjadjpiaiaaDoor.Sh
namespace Go.Proofs.YtfaghjadjpiaiaaDoor.Sh
open Go.RowKit Go.Shelf Go.Proofs.YtfaghjadjpiaiaaDoorW.PrintWords Go.Proofs.YtfaghjadjpiaiaaDoorW.PrintLast Go.Proofs.YtfaghjadjpiaiaaDoorW.PrintMore
set_option linter.unusedVariables false
set_option linter.unusedSimpArgs false
/-- The boxes of change: the row handed in, the row answered, the error. -/
structure ChW (w : World) (A : Option Addr) (l : List Fr) (c : Nat) (x : Int) (W : World) : Prop where
  below : Below w.heap.size w W
  came : W.heap[w.heap.size]? = some (.cells #[.slice A l.length c] 23 (0, 0))
  out : ∃ v, W.heap[w.heap.size + 1]? = some (.cells #[v] 23 (0, 0))
  err : W.heap[w.heap.size + 2]? = some (.cells #[.int .i64 x] 31 (0, 0))
/-- What a call of change$1 behind an error leaves. -/
theorem ch1_err (w : World) (A : Option Addr) (l : List Fr) (c : Nat) (x : Int) (W : World) (hx : x ≠ 0) (h : ChW w A l c x W) (hr : kFr.C W A l.length l) (hl : l.length ≤ c) (hs : SmallR l) :
    CallsD Tryd.prog 131 #[.pointer (some ⟨w.heap.size + 2, 0, none⟩), .pointer (some ⟨w.heap.size, 0, none⟩), .pointer (some ⟨w.heap.size + 1, 0, none⟩)] .returning W fun e u' W' => u' = .returning ∧ (e = .returned (.tuple #[]) ∧ ∃ A2 c2, W'.heap[w.heap.size + 1]? = some (.cells #[.slice A2 l.length c2] 23 (0, 0)) ∧ W'.heap[w.heap.size + 2]? = some (.cells #[.int .i64 x] 31 (0, 0)) ∧ kFr.C W' A2 l.length l ∧ l.length ≤ c2 ∧ Below w.heap.size w W') := by
  obtain ⟨v0, hout⟩ := h.out
  have hc : W.cell? ⟨w.heap.size + 2, 0, none⟩ = some (.int .i64 x) := (blk_cell h.err 0).trans rfl
  have hl0 : W.cell? ⟨w.heap.size, 0, none⟩ = some (.slice A l.length c) := (blk_cell h.came 0).trans rfl
  have HC := Aside0.mk (clone_calls A c l W hr hl hs)
  have HH := Aside0.mk h
  have HOut := Aside0.mk hout
  have hxb : (x != 0) = true := by simpa using hx
  clear hr hl hs h hout hx
  go_enter_d Tryd.func131, Tryd.ntmps131
  go_wp2_with (go_at_call 130; refine HC.out.mono ?_; rintro e w1 ⟨v, rfl, hR, hb⟩; have hR := Kd.S_R hR; obtain ⟨A2, c2, rfl⟩ := Kd.R_slice hR; have hblk := (hb.block _ (blk_lt HOut.out)).trans HOut.out; have hoc : w1.cell? ⟨w.heap.size + 1, 0, none⟩ = some v0 := (blk_cell hblk 0).trans rfl; have hof := blk_frozen hblk 0; have HBlk := Aside0.mk hblk; have HR := Aside0.mk hR; have HB := Aside0.mk hb; clear hblk hR hb)
  go_end0
  have hlt : w.heap.size + 1 < W.heap.size := blk_lt HOut.out
  have hR2 := Kd.R_far (p := ⟨w.heap.size + 1, 0, none⟩) (Kd.R_mono (Kd.R_bound HR.out) (ok' := fun k => k ≠ w.heap.size + 1) (fun k hk => by have := hk.2.1; omega)) (fun _ hk => hk) (.slice A2 l.length c2)
  obtain ⟨A3, c3, he, hl3, hC3⟩ := Kd.R_reads hR2
  cases he
  refine ⟨rfl, A2, c2, by simpa using blk_set HBlk.out 0 (.slice A2 l.length c2), ?_, hC3, hl3, ?_⟩
  · exact blk_far ((HB.out.block _ (blk_lt HH.out.err)).trans HH.out.err) (by simp) _
  · exact (below_then HH.out.below HH.out.below.size HB.out).setCell (Nat.le_succ _) _
theorem ch1_ok (w : World) (A : Option Addr) (l : List Fr) (c : Nat) (W : World) (herr : W.heap[w.heap.size + 2]? = some (.cells #[.int .i64 0] 31 (0, 0))) :
    CallsD Tryd.prog 131 #[.pointer (some ⟨w.heap.size + 2, 0, none⟩), .pointer (some ⟨w.heap.size, 0, none⟩), .pointer (some ⟨w.heap.size + 1, 0, none⟩)] .returning W fun e u' W' => u' = .returning ∧ (e = .returned (.tuple #[]) ∧ W = W') := by
  have hc : W.cell? ⟨w.heap.size + 2, 0, none⟩ = some (.int .i64 0) := (blk_cell herr 0).trans rfl
  clear herr
  go_enter_d Tryd.func131, Tryd.ntmps131
  go_wp2
  go_end0
  exact ⟨rfl, rfl⟩
/-- What change answers. -/
def ChPost (w : World) (l : List Fr) (x : Int) (e : Ending) (w' : World) : Prop :=
  ∃ A' c', e = .returned (.tuple #[.slice A' l.length c', .int .i64 x]) ∧ kFr.C w' A' l.length l ∧ l.length ≤ c' ∧ Below w.heap.size w w'
def chDefers (w : World) : List Deferred := [{ target := Target.fn (Fn.func 132) #[], args := #[.pointer (some ⟨w.heap.size + 2, 0, none⟩)] }, { target := Target.fn (Fn.func 131) #[.pointer (some ⟨w.heap.size + 2, 0, none⟩), .pointer (some ⟨w.heap.size, 0, none⟩), .pointer (some ⟨w.heap.size + 1, 0, none⟩)], args := #[] }]
theorem ch_results (tmps : Array Value) (p q : Addr) (u v : Value) (W : World) (h6 : tmps[6]?.getD undef = .pointer (some p)) (h7 : tmps[7]?.getD undef = .pointer (some q)) (hu : W.cell? p = some u) (hv : W.cell? q = some v) :
    (results Tryd.f86 tmps).run Tryd.prog W = .ok (.tuple #[u, v]) W := by
  unfold results
  rw [Tryd.results86]
  simp [go_sem, h6, h7, hu, hv]
theorem change_wrong (w : World) (A : Option Addr) (l : List Fr) (c : Nat) (x : Int) (tmps : Array Value) (W : World) (hx : x ≠ 0) (h6 : tmps[6]?.getD undef = .pointer (some ⟨w.heap.size + 1, 0, none⟩)) (h7 : tmps[7]?.getD undef = .pointer (some ⟨w.heap.size + 2, 0, none⟩))
    (h : ChW w A l c 0 W) (hr : kFr.C w A l.length l) (hl : l.length ≤ c) (hs : SmallR l) :
    Leaves Tryd.prog Tryd.f86 tmps (ChPost w l x) (chDefers w) (.panicking (Wrong x)) W := by
  unfold chDefers
  refine leaves_cons (f := 132) (args := #[.pointer (some ⟨w.heap.size + 2, 0, none⟩)]) (by simp) (by simp [go_sem]) ?_
  refine (caught_wrong ⟨w.heap.size + 2, 0, none⟩ x 0 W ((blk_cell h.err 0).trans rfl) (blk_frozen h.err 0) (blk_lt h.err)).mono ?_
  rintro e u' w2 ⟨rfl, rfl, rfl⟩
  show Leaves _ _ _ _ _ .returning _
  refine leaves_cons (f := 131) (args := #[.pointer (some ⟨w.heap.size + 2, 0, none⟩), .pointer (some ⟨w.heap.size, 0, none⟩), .pointer (some ⟨w.heap.size + 1, 0, none⟩)]) (by simp) (by simp [go_sem]) ?_
  have hal : Below W.heap.size W (W.alloc (.cells #[.int .i64 x] 188)) := below_alloc (Below.refl _ _) _
  obtain ⟨v0, hout⟩ := h.out
  have e2 := (hal.block _ (blk_lt h.err)).trans h.err
  have h2 : ChW w A l c x ((W.alloc (.cells #[.int .i64 x] 188)).setCell ⟨w.heap.size + 2, 0, none⟩ (.int .i64 x)) := {
    below := (below_then h.below h.below.size hal).setCell (by simp) _
    came := blk_far ((hal.block _ (blk_lt h.came)).trans h.came) (by simp) _
    out := ⟨v0, blk_far ((hal.block _ (blk_lt hout)).trans hout) (by simp) _⟩
    err := by simpa using blk_set e2 0 (.int .i64 x) }
  refine (ch1_err w A l c x _ hx h2 (Kd.C_below hr h2.below) hl hs).mono ?_
  rintro e u' w3 ⟨rfl, rfl, A2, c2, g1, g2, g3, g4, g5⟩
  show Leaves _ _ _ _ _ .returning _
  exact ⟨_, ch_results tmps _ _ _ _ w3 h6 h7 ((blk_cell g1 0).trans rfl) ((blk_cell g2 0).trans rfl), A2, c2, rfl, g3, g4, g5⟩
theorem change_fine (w : World) (l : List Fr) (tmps : Array Value) (W : World) (h6 : tmps[6]?.getD undef = .pointer (some ⟨w.heap.size + 1, 0, none⟩)) (h7 : tmps[7]?.getD undef = .pointer (some ⟨w.heap.size + 2, 0, none⟩)) (A2 : Option Addr) (c2 : Nat)
    (hout : W.heap[w.heap.size + 1]? = some (.cells #[.slice A2 l.length c2] 23 (0, 0))) (herr : W.heap[w.heap.size + 2]? = some (.cells #[.int .i64 0] 31 (0, 0))) (hC : kFr.C W A2 l.length l) (hl : l.length ≤ c2) (hb : Below w.heap.size w W) :
    Leaves Tryd.prog Tryd.f86 tmps (ChPost w l 0) (chDefers w) .returning W := by
  unfold chDefers
  refine leaves_cons (f := 132) (args := #[.pointer (some ⟨w.heap.size + 2, 0, none⟩)]) (by simp) (by simp [go_sem]) ?_
  refine (caught_idle ⟨w.heap.size + 2, 0, none⟩ W).mono ?_
  rintro e u' w2 ⟨rfl, rfl, rfl⟩
  show Leaves _ _ _ _ _ .returning _
  refine leaves_cons (f := 131) (args := #[.pointer (some ⟨w.heap.size + 2, 0, none⟩), .pointer (some ⟨w.heap.size, 0, none⟩), .pointer (some ⟨w.heap.size + 1, 0, none⟩)]) (by simp) (by simp [go_sem]) ?_
  refine (ch1_ok w none [] 0 W herr).mono ?_
  rintro e u' w3 ⟨rfl, rfl, rfl⟩
  show Leaves _ _ _ _ _ .returning _
  exact ⟨_, ch_results tmps _ _ _ _ W h6 h7 ((blk_cell hout 0).trans rfl) ((blk_cell herr 0).trans rfl), A2, c2, rfl, hC, hl, hb⟩
/-- What the function that is handed to change leaves. -/
def HowPost (B r a : Nat) (x : Int) (l' : List Fr) (W : World) (e : Ending) (W' : World) : Prop :=
  Below B W W' ∧ ((x = 0 ∧ e = .returned (.tuple #[]) ∧ ∃ A3 c3, W'.heap[r]? = some (.cells #[.pointer (some ⟨a, 0, none⟩), .slice A3 l'.length c3] 148 (0, 0)) ∧ kFr.F W' (fun k => B ≤ k) A3 l'.length l' ∧ l'.length ≤ c3) ∨ (x ≠ 0 ∧ e = .panicked (Wrong x)))
def HowOk (w : World) (a : Nat) (l : List Fr) (g : Nat) (caps : Array Value) (x : Int) (l' : List Fr) : Prop :=
  ∀ (B r : Nat) (W : World) (A2 : Option Addr) (c2 : Nat), Below w.heap.size w W → w.heap.size ≤ B → B ≤ r → B ≤ W.heap.size → W.heap[r]? = some (.cells #[.pointer (some ⟨a, 0, none⟩), .slice A2 l.length c2] 148 (0, 0)) → kFr.S 80 W B (fun k => k ≠ r) (.slice A2 l.length c2) l → Calls Tryd.prog g (#[.pointer (some ⟨r, 0, none⟩)] ++ caps) W (HowPost B r a x l' W)
theorem ChW.start (w : World) (A : Option Addr) (l : List Fr) (c : Nat) : ChW w A l c 0 (((w.alloc (.cells #[.slice A l.length c] 23)).alloc (.cells #[.slice none 0 0] 23)).alloc (.cells #[.int .i64 0] 31)) where
  below := below_alloc (below_alloc (below_alloc (Below.refl _ _) _) _) _
  came := (Below.heap_alloc _ _ _ (by simp; omega)).trans ((Below.heap_alloc _ _ _ (by simp)).trans (heap_alloc_new w _))
  out := ⟨.slice none 0 0, (Below.heap_alloc _ _ _ (by simp)).trans (by have := heap_alloc_new (w.alloc (.cells #[.slice A l.length c] 23)) (.cells #[.slice none 0 0] 23); simpa using this)⟩
  err := by have := heap_alloc_new ((w.alloc (.cells #[.slice A l.length c] 23)).alloc (.cells #[.slice none 0 0] 23)) (.cells #[.int .i64 0] 31); simpa using this
theorem ChW.step {w : World} {A : Option Addr} {l : List Fr} {c B : Nat} {x : Int} {W W1 : World} (h : ChW w A l c x W) (hb : Below B W W1) (hB : w.heap.size + 3 ≤ B) : ChW w A l c x W1 where
  below := h.below.trans (hb.mono (by omega))
  came := (hb.block _ (by omega)).trans h.came
  out := by obtain ⟨v, hv⟩ := h.out; exact ⟨v, (hb.block _ (by omega)).trans hv⟩
  err := (hb.block _ (by omega)).trans h.err
def chRow (t : List Ent) (l : List Fr) (x : Int) (l' : List Fr) : List Fr := if rightE t l = 0 ∧ x = 0 then l' else l
def chErr (t : List Ent) (l : List Fr) (x : Int) : Int := if rightE t l = 0 then x else 9
theorem Calls.cast {P : Program} {g : Nat} {args args' : Array Value} {w : World} {K : Ending → World → Prop} (h : Calls P g args w K) (e : args = args') : Calls P g args' w K := e ▸ h
set_option maxRecDepth 100000 in
set_option maxHeartbeats 2000000 in
theorem change_calls (a : Nat) (t : List Ent) (A : Option Addr) (c : Nat) (l : List Fr) (g : Nat) (caps : Array Value) (x : Int) (l' : List Fr) (w : World) (h : IsRow w a t A c l) (hs : SmallR l)
    (heg : ∀ (args : Array Value) (W : World), (callFunc g args).run Tryd.prog W = .ok (.enter g args) W)
    (hhow : rightE t l = 0 → HowOk w a l g caps x l') :
    Calls Tryd.prog 86 #[.pointer (some ⟨a, 0, none⟩), .slice A l.length c, .func (.func g) #[] caps] w (ChPost w (chRow t l x l') (chErr t l x)) := by
  have HS := Aside0.mk (ChW.start w A l c)
  have HR := Aside0.mk h
  have HSm := Aside0.mk hs
  have HC := Aside0.mk (fun (W : World) (hB : Below w.heap.size w W) => clone_calls A c l W (h.below hB).rows h.cap hs)
  have HRt := Aside0.mk (fun (W : World) (hB : Below w.heap.size w W) => Right_calls a t A c l W (h.below hB))
  have HHow := Aside0.mk hhow
  have hmf : ∀ (fn : Fn) (first cap : Array Value) (w : World), (Instr.makeFunc fn first cap).run Tryd.prog w = .ok (.func fn first cap) w := fun _ _ _ _ => rfl
  have hl0 : (((w.alloc (.cells #[.slice A l.length c] 23)).alloc (.cells #[.slice none 0 0] 23)).alloc (.cells #[.int .i64 0] 31)).cell? ⟨w.heap.size, 0, none⟩ = some (.slice A l.length c) := (blk_cell HS.out.came 0).trans rfl
  have hsz : (((w.alloc (.cells #[.slice A l.length c] 23)).alloc (.cells #[.slice none 0 0] 23)).alloc (.cells #[.int .i64 0] 31)).heap.size = w.heap.size + 3 := by simp
  have HSz := Aside0.mk hsz
  clear h hs hhow hsz
  generalize hP : ChPost w (chRow t l x l') (chErr t l x) = Post
  have HPost := Aside0.mk hP
  clear hP
  go_enter_defers Tryd.func86, Tryd.ntmps86
  go_wp2_with first
    | (go_at_call 130
       refine (HC.out _ HS.out.below).mono ?_
       rintro e w1 ⟨v, rfl, hR, hb⟩
       rw [HSz.out] at hR hb
       obtain ⟨A2, c2, rfl⟩ := Kd.S_slice hR
       have h2 := ChW.step HS.out (hb.trans ((below_alloc (Below.refl _ _) (.cells #[.pointer (some ⟨a, 0, none⟩), .slice A2 l.length c2] 148)).mono (by have := hb.size; have := HSz.out; omega))) (Nat.le_refl _)
       have hl1 := (blk_cell h2.came 0).trans rfl
       have hrow := heap_alloc_new w1 (.cells #[.pointer (some ⟨a, 0, none⟩), .slice A2 l.length c2] 148)
       have hsz1 : w.heap.size + 3 ≤ w1.heap.size := by have := hb.size; have := HSz.out; omega
       have HSz1 := Aside0.mk hsz1
       have HSz2 := Aside0.mk (Nat.le_trans hsz1 (below_alloc (Below.refl _ w1) (.cells #[.pointer (some ⟨a, 0, none⟩), .slice A2 l.length c2] 148)).size)
       have H2 := Aside0.mk h2
       have HRow := Aside0.mk hrow
       have HCl := Aside0.mk (Kd.S_alloc (Kd.S_mono (Kd.S_bound hR) (ok' := fun k => k ≠ w1.heap.size) (fun k hk => by have := hk.2.2.1; omega)) (.cells #[.pointer (some ⟨a, 0, none⟩), .slice A2 l.length c2] 148))
       clear hR hb hl0 h2 hrow hsz1)
    | (go_at_call 133
       go_loud (
       refine (HRt.out _ H2.out.below).mono ?_
       rintro e w3 ⟨rfl, hb⟩
       have H3 := Aside0.mk (H2.out.step hb HSz2.out)
       have HRow3 := Aside0.mk ((hb.block _ (blk_lt HRow.out)).trans HRow.out)
       have HCl3 := Aside0.mk (Kd.S_below HCl.out hb)
       have hsz3 : w.heap.size + 3 ≤ w3.heap.size := Nat.le_trans HSz2.out hb.size
       have HSz3 := Aside0.mk hsz3
       clear hb hl1 hsz3))
    | (go_at_call 88
       by_cases hre : rightE t l = 0
       rotate_left
       · rw [show (rightE t l == 0) = false by simpa using hre]
         refine (must_no 9 _).mono ?_
         rintro e w4 ⟨rfl, rfl⟩
         show bodyPostD _ _ _ _ _ _
         rw [← HPost.out, show chRow t l x l' = l from if_neg (fun hh => hre hh.1), show chErr t l x = 9 from if_neg hre]
         exact change_wrong w A l c 9 _ _ (by decide) rfl rfl H3.out HR.out.rows HR.out.cap HSm.out
       rw [hre]
       have HRe := Aside0.mk hre
       refine (must_ok 9 _).mono ?_
       rintro e w4 ⟨rfl, rfl⟩
       clear hre)
    | (show Calls _ g _ _ _
       refine (Calls.cast (HHow.out HRe.out (w.heap.size + 3) w1.heap.size w3 A2 c2 H3.out.below (Nat.le_add_right _ _) HSz1.out HSz3.out HRow3.out HCl3.out) rfl).mono ?_
       rintro e w5 ⟨hb5, ⟨hx0, rfl, A3, c3, hr5, hF, hl3⟩ | ⟨hx, rfl⟩⟩
       rotate_left
       · show bodyPostD _ _ _ _ _ _
         rw [← HPost.out, show chRow t l x l' = l from if_neg (fun hh => hx hh.2), show chErr t l x = x from if_pos HRe.out]
         exact change_wrong w A l c x _ _ hx rfl rfl (H3.out.step hb5 (Nat.le_refl _)) HR.out.rows HR.out.cap HSm.out
       have H5 := Aside0.mk (H3.out.step hb5 (Nat.le_refl _))
       obtain ⟨v0, hout⟩ := H5.out.out
       have hrl : w5.cell? ⟨w1.heap.size, 1, none⟩ = some (.slice A3 l'.length c3) := (blk_cell hr5 1).trans rfl
       have ho : w5.cell? ⟨w.heap.size + 1, 0, none⟩ = some v0 := (blk_cell hout 0).trans rfl
       have hof := blk_frozen hout 0
       have HF := Aside0.mk hF
       have HOut := Aside0.mk hout
       have HX := Aside0.mk hx0
       have hy := blk_set hout 0 (.slice A3 l'.length c3)
       have hye := blk_far H5.out.err (p := ⟨w.heap.size + 1, 0, none⟩) (by simp) (.slice A3 l'.length c3)
       have hec : (w5.setCell ⟨w.heap.size + 1, 0, none⟩ (.slice A3 l'.length c3)).cell? ⟨w.heap.size + 2, 0, none⟩ = some (.int .i64 0) := (blk_cell hye 0).trans rfl
       have hef := blk_frozen hye 0
       have HY := Aside0.mk hy
       have HYe := Aside0.mk hye
       clear hb5 hx0 hr5 hF hout hy hye)
  show bodyPostD _ _ _ _ _ _
  rw [← HPost.out, show chRow t l x l' = l' from if_pos ⟨HRe.out, HX.out⟩, show chErr t l x = 0 from (if_pos HRe.out).trans HX.out]
  refine change_fine w l' _ _ rfl rfl A3 c3 ?_ ?_ ?_ hl3 ?_
  · exact blk_far (by simpa using HY.out) (p := ⟨w.heap.size + 1 + 1, 0, none⟩) (by simp) (.int .i64 0)
  · simpa using blk_set HYe.out 0 (.int .i64 0)
  · exact Kd.F_now (Kd.F_far (Kd.F_far HF.out (p := ⟨w.heap.size + 1, 0, none⟩) (fun k hk => by simp; omega) _) (p := ⟨w.heap.size + 1 + 1, 0, none⟩) (fun k hk => by simp; omega) _)
  · exact (H5.out.below.setCell (Nat.le_succ _) _).setCell (by simp; omega) _
end Go.Proofs.YtfaghjadjpiaiaaDoor.Sh
