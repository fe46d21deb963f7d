/- Contracts of package model: Right, clone. Contract of model.change: a row that is changed by what is handed in, or the error and the row as it was. What is handed to change: by Return. Words for what is handed to change: a slot that is written; a call that may panic. What is handed to change: by Set. Contract of model's refers. What is handed to change: by Write. -/
import Derived.Test.YtfaghjadjpiaiaaDoorZ2
import Derived.Test.YtfaghjadjpiaiaaDoorWApart
namespace Go.Proofs.YtfaghjadjpiaiaaDoor.Sh
open Go.RowKit Go.Shelf Go.Proofs.YtfaghjadjpiaiaaDoorW.PrintWords Go.Proofs.YtfaghjadjpiaiaaDoorW.PrintLast Go.Proofs.YtfaghjadjpiaiaaDoorW.PrintMore
set_option linter.unusedVariables false
set_option linter.unusedSimpArgs false
theorem Right_calls (a : Nat) (t : List Ent) (A : Option Addr) (c : Nat) (l : List Fr) (w : World) (h : IsRow w a t A c l) :
    Calls Tryd.prog 133 #[.pointer (some ⟨a, 0, none⟩), .slice A l.length c] w fun e w' => e = .returned (.bool (rightE t l == 0)) ∧ Below w.heap.size w w' := by
  have HR := Aside0.mk (right_calls a t A c l w h)
  clear h
  go_enter Tryd.func133, Tryd.ntmps133
  go_wp2_with (go_at_call 152; refine HR.out.mono ?_; rintro e w' ⟨rfl, hb⟩; have HB := Aside0.mk hb; clear hb)
  go_ret
  exact ⟨rfl, HB.out⟩
/-- Not more than the program goes through. -/
structure SmallR (l : List Fr) : Prop where
  len : l.length ≤ 1000000
  slots : ∀ f ∈ l, f.l.length ≤ 1000000
theorem info26 : (Tryd.prog.info? 26).map (fun i => (i.zero, i.size, i.bytes)) = some (some (.agg #[.int .u8 0, .int .u64 0, .int .i64 0, .int .i64 0]), 4, 32) := by kernel_rfl
theorem info80 : (Tryd.prog.info? 80).map (fun i => (i.zero, i.size, i.bytes)) = some (some (.agg #[.int .i64 0, .slice none 0 0]), 2, 32) := by kernel_rfl
theorem nil_of_none {α : Type} {d : Kd α} {w : World} {n : Nat} {xs : List α} (h : d.C w none n xs) : xs = [] := by
  cases xs with
  | nil => rfl
  | cons x r =>
    have := h.1
    obtain ⟨ad, h, _⟩ := h.2.2 (by simp at this; omega)
    cases h
theorem kVl_KM {w : World} {base : Nat} {ok : Nat → Prop} (x : Vl) (cs : List Value) (h : kVl.K w x cs) : kVl.M w base ok x cs := by
  rw [kVl_open h]; exact kVl_mkM _ _ _ _
set_option maxRecDepth 100000 in
theorem cloneV_calls (A : Option Addr) (c : Nat) (b : List Vl) (w : World) (hr : kVl.C w A b.length b) (hl : b.length ≤ c) (hb : b.length ≤ 1000000) :
    Calls Tryd.prog 151 #[.slice A b.length c] w fun e w' => ∃ v, e = .returned v ∧ kVl.R 26 w' w.heap.size (fun _ => True) v b ∧ Below w.heap.size w w' := by
  have qT : ∀ (w : World) (a : Option Addr) (n c n' c' : Nat), (binOp .eql 78 (.slice a n c) (.slice none n' c')).run Tryd.prog w = .ok (.bool a.isNone) w := fun w a n c n' c' => Lib.run_eql_slice_nil w _ _ a n c n' c' Tryd.underlying78
  have HR := Aside0.mk hr
  clear hr
  cases A with
  | none =>
    have hz : b = [] := nil_of_none HR.out
    subst hz
    go_enter Tryd.func151, Tryd.ntmps151
    go_wp2
    go_ret
    exact ⟨_, rfl, Kd.R_nil _ _ _ _ _, Below.refl _ _⟩
  | some ad =>
    have HO : Aside0 (kVl.R 26 (w.alloc (.cells #[] 26)) w.heap.size (fun _ => True) (.slice (some ⟨w.heap.size, 0, none⟩) 0 0) []) := ⟨⟨fun _ _ => trivial, [], World.ownsRow_made w #[] 0 (Nat.le_refl _) (by unfold maxLen; omega) rfl, Reps.none _ _⟩⟩
    have HB0 : Aside0 (Below w.heap.size w (w.alloc (.cells #[] 26))) := ⟨below_alloc (Below.refl _ _) _⟩
    have HR1 := Aside0.mk (Kd.C_below HR.out HB0.out)
    go_enter Tryd.func151, Tryd.ntmps151
    go_wp2_with (at_builtin; refine Kd.R_append_rows kVl (w0 := w) w.heap.size rfl (.tmp 5) (.tmp 6) 78 26 (.agg #[.int .u8 0, .int .u64 0, .int .i64 0, .int .i64 0]) 32 rfl Tryd.underlying78 info26 rfl (by decide) (by omega) (.slice (some ⟨w.heap.size, 0, none⟩) 0 0) [] b (some ad) b.length c (fun _ => True) (fun _ => False) rfl rfl HO.out HR1.out kVl_KM (fun _ h => h.elim) (fun _ _ => trivial) HB0.out (by simp) (by simp; omega) ?_; intro v1 w1 hR hB _ _; have HR2 := Aside0.mk hR; have HB2 := Aside0.mk hB; clear hR hB)
    go_ret
    exact ⟨_, rfl, by have := HR2.out; simpa using this, HB2.out⟩
theorem kFr_mkM (w : World) (base : Nat) (ok : Nat → Prop) (x : Fr) {v1 : Value} (g1 : kVl.R 26 w base ok v1 x.l) : kFr.M w base ok x [.int .i64 x.f, v1] := ⟨[.int .i64 x.f], [v1], rfl, rfl, ⟨v1, rfl, g1⟩⟩
theorem make_Fr (n : Nat) (hn : n ≤ 1000000) (W : World) : (Instr.makeSlice 23 (.int .i64 0) (.int .i64 (n : Int))).run Tryd.prog W = .ok (.slice (some ⟨W.heap.size, 0, none⟩) 0 n) (W.alloc (.cells (madeCells #[.int .i64 0, .slice none 0 0] (n * 2)) 80)) := by
  obtain ⟨i0, hi, hzz⟩ := Option.map_eq_some_iff.1 info80
  simp only [Prod.mk.injEq] at hzz
  obtain ⟨hz0, hz1, hz2⟩ := hzz
  have h := run_make (P := Tryd.prog) W 23 80 i0 _ Tryd.underlying23 hi hz0 .i64 .i64 0 (n : Int) (Int.le_refl _) (by omega) (by rw [hz2]; omega) (by omega)
  rw [hz1] at h
  simpa [Value.cells] using h
set_option maxRecDepth 100000 in
set_option maxHeartbeats 1000000 in
theorem clone_calls (A : Option Addr) (c : Nat) (l : List Fr) (w : World) (hr : kFr.C w A l.length l) (hl : l.length ≤ c) (hs : SmallR l) :
    Calls Tryd.prog 130 #[.slice A l.length c] w fun e w' => ∃ v, e = .returned v ∧ kFr.S 80 w' w.heap.size (fun _ => True) v l ∧ Below w.heap.size w w' := by
  have hmk := make_Fr l.length hs.len
  have HR := Aside0.mk hr
  have HS := Aside0.mk hs
  have hlen := hs.len
  have HO : Aside0 (kFr.S 80 (w.alloc (.cells (madeCells #[.int .i64 0, .slice none 0 0] (l.length * 2)) 80)) w.heap.size (fun _ => True) (.slice (some ⟨w.heap.size, 0, none⟩) 0 l.length) []) := ⟨⟨fun _ => 0, fun _ _ => trivial, [], World.ownsRow_made w _ l.length (Nat.le_refl _) (by unfold maxLen; omega) (size_madeCells _ _), Reps.none _ _⟩⟩
  have HB0 : Aside0 (Below w.heap.size w (w.alloc (.cells (madeCells #[.int .i64 0, .slice none 0 0] (l.length * 2)) 80))) := ⟨below_alloc (Below.refl _ _) _⟩
  clear hr hs
  go_enter Tryd.func130, Tryd.ntmps130
  go_wp2
  clear hmk
  generalize w.alloc (.cells (madeCells #[.int .i64 0, .slice none 0 0] (l.length * 2)) 80) = w1 at *
  go_loopw [3, 11] (fun v i wr => ∃ k : Nat, k ≤ l.length ∧ i = .int .i64 k ∧ Aside0 (kFr.S 80 wr w.heap.size (fun _ => True) v (l.take k)) ∧ Aside0 (Below w.heap.size w wr)) (fun _ i _ => l.length - (intOf i).toNat)
  case atStart => exact ⟨0, Nat.zero_le _, rfl, HO, HB0⟩
  case round =>
    obtain ⟨k, hk, rfl, HRR, HB⟩ := hrel
    by_cases hlt : k < l.length
    · obtain ⟨ad, A1, c1, rfl, g0, g1, gl, gC⟩ := at_Fr (Kd.C_below HR.out HB.out) (k : Int) (by omega) (by omega)
      simp only [Int.toNat_natCast] at g0 g1
      have hget : l[k]? = some (fr l k) := by simp [fr, List.getElem?_eq_getElem hlt]
      have hmem := fr_mem (l := l) (i := (k : Int)) (by omega) (by omega)
      obtain ⟨f, hf⟩ : ∃ f, f = fr l k := ⟨_, rfl⟩
      rw [← hf] at g0 g1 gl gC hget hmem
      have HT := Aside0.mk (take_get hget)
      have hfl := HS.out.slots f hmem
      obtain ⟨A2, c2, rfl⟩ := Kd.S_slice HRR.out
      have hlk : (l.take k).length = k := by rw [List.length_take]; omega
      rw [hlk] at HRR
      rw [hlk]
      have hb5 : Below wr.heap.size wr (wr.alloc (.cells #[.int .i64 f.f, .slice A1 f.l.length c1] 80)) := below_alloc (Below.refl _ _) _
      have HR5 := Aside0.mk (Kd.S_below (Kd.S_mono (Kd.S_bound HRR.out) (ok' := fun j => True ∧ ¬ wr.heap.size + 1 ≤ j) (fun j hj => ⟨trivial, by have := hj.2.2.1; omega⟩)) hb5)
      have HB5 := Aside0.mk (below_then HB.out HB.out.size hb5)
      have HC5 := Aside0.mk (Kd.C_below gC hb5)
      have hbk := heap_alloc_new wr (.cells #[.int .i64 f.f, .slice A1 f.l.length c1] 80)
      have HGl := Aside0.mk gl
      have hsz : (wr.alloc (.cells #[.int .i64 f.f, .slice A1 f.l.length c1] 80)).heap.size = wr.heap.size + 1 := by simp
      have hown : ∀ j, (Value.slice A2 k c2).ownBlock = some j → j < wr.heap.size := by
        intro j hj
        obtain ⟨inner, ho⟩ := Kd.S_own HRR.out
        exact own_lt ho j hj
      clear hf hget gl gC hmem hb5 hlk
      go_wp2_with fail
      clear g0 g1
      generalize wr.alloc (.cells #[.int .i64 f.f, .slice A1 f.l.length c1] 80) = w5 at *
      obtain ⟨q, hq⟩ : ∃ q, q = wr.heap.size := ⟨_, rfl⟩
      rw [← hq] at hbk hsz hown HR5
      rw [← hq]
      have HOwn := Aside0.mk hown
      have HSz := Aside0.mk hsz
      clear hq hown hsz
      have d1 : w5.cell? ⟨q, 0, none⟩ = some (.int .i64 f.f) := (blk_cell hbk 0).trans rfl
      have d2 : w5.cell? ⟨q, 1, none⟩ = some (.slice A1 f.l.length c1) := (blk_cell hbk 1).trans rfl
      clear hbk
      refine start_ (n := 10) (S := fun w' => w'.cell? ⟨q, 0, none⟩ = some (.int .i64 f.f) ∧ w'.cell? ⟨q, 1, none⟩ = some (.slice A1 f.l.length c1)) (ds := []) #[false, false, false, false, false, false, false, false, false, false] (by kernel_rfl) rfl rfl ⟨d1, d2⟩ (fun hHeld => ?_)
      refine pure_ (i := 0) (N := some 15) (v := ?_) (a' := ?_) #[true, false, false, false, false, false, false, false, false, false] rfl rfl (by kernel_rfl) (fun _ _ _ h => h) (Or.inl ⟨by rfl, ?_⟩) ?_ ?_
      rotate_left
      · intro w'
        go_simp
        with_reducible rfl
      rotate_left
      · simp only [Act.put, List.setIfInBounds_toArray, List.set_cons_zero, List.set_cons_succ, i64_w, i32_w]
        rfl
      refine pure_ (i := 1) (N := some 16) (v := ?_) (a' := ?_) #[true, true, false, false, false, false, false, false, false, false] rfl rfl (by kernel_rfl) (fun _ _ _ h => h) (Or.inl ⟨by rfl, ?_⟩) ?_ ?_
      rotate_left
      · intro w'
        go_simp
        with_reducible rfl
      rotate_left
      · simp only [Act.put, List.setIfInBounds_toArray, List.set_cons_zero, List.set_cons_succ, i64_w, i32_w]
        rfl
      refine pure_ (i := 3) (N := some 18) (v := ?_) (a' := ?_) #[true, true, false, true, false, false, false, false, false, false] rfl rfl (by kernel_rfl) (fun _ _ _ h => h) (Or.inl ⟨by rfl, ?_⟩) ?_ ?_
      rotate_left
      · intro w'
        go_simp
        with_reducible rfl
      rotate_left
      · simp only [Act.put, List.setIfInBounds_toArray, List.set_cons_zero, List.set_cons_succ, i64_w, i32_w]
        rfl
      refine take_ (i := 2) (N := some 17) (v := ?_) (a' := ?_) #[true, true, true, true, false, false, false, false, false, false] rfl rfl (by kernel_rfl) (fun _ _ _ h => h) (Or.inl ⟨by rfl, ?_⟩) hHeld ?_ ?_
      rotate_left
      · rintro w' ⟨s0, s1⟩
        go_simp
        with_reducible rfl
      rotate_left
      · simp only [Act.put, List.setIfInBounds_toArray, List.set_cons_zero, List.set_cons_succ, i64_w, i32_w]
        rfl
      refine take_ (i := 4) (N := some 19) (v := ?_) (a' := ?_) #[true, true, true, true, true, false, false, false, false, false] rfl rfl (by kernel_rfl) (fun _ _ _ h => h) (Or.inl ⟨by rfl, ?_⟩) hHeld ?_ ?_
      rotate_left
      · rintro w' ⟨s0, s1⟩
        go_simp
        with_reducible rfl
      rotate_left
      · simp only [Act.put, List.setIfInBounds_toArray, List.set_cons_zero, List.set_cons_succ, i64_w, i32_w]
        rfl
      refine one_ (i := 5) (N := some 20) #[true, true, true, true, true, true, false, false, false, false] rfl rfl (by kernel_rfl) (by decide) (fun K hK => ?_)
      refine goes_ Tryd.func151 (by kernel_rfl) rfl #[.slice A1 f.l.length c1] (by rfl) rfl rfl (by simp only [List.map_toArray, List.map_cons, List.map_nil]; rfl) ?_
      with_reducible refine (cloneV_calls A1 c1 f.l _ (Kd.C_drew HC5.out) HGl.out hfl).mono ?_
      rintro e w6 ⟨v6, rfl, hR6, hB6⟩
      refine ⟨_, rfl, ?_⟩
      obtain ⟨A6, c6, rfl⟩ := Kd.R_slice hR6
      have HB6 := Aside0.mk (below_of_drew hB6)
      have HR6 := Aside0.mk (show kVl.R 26 w6 w5.heap.size (fun _ => True) _ _ from hR6)
      clear hR6 hB6
      refine hK.out _ _ ⟨(pw_cell_below HB6.out d1), (pw_cell_below HB6.out d2)⟩ (fun hHeld => ?_)
      clear hK K
      refine norm_ (a' := ?_) ?_ ?_
      rotate_left
      · show Act.put _ (some 20) _ = _
        simp only [Act.put, List.setIfInBounds_toArray, List.set_cons_zero, List.set_cons_succ, i64_w, i32_w]
        rfl
      refine pure_ (i := 6) (N := some 21) (v := ?_) (a' := ?_) #[true, true, true, true, true, true, true, false, false, false] rfl rfl (by kernel_rfl) (fun _ _ _ h => h) (Or.inl ⟨by rfl, ?_⟩) ?_ ?_
      rotate_left
      · intro w'
        go_simp
        with_reducible rfl
      rotate_left
      · simp only [Act.put, List.setIfInBounds_toArray, List.set_cons_zero, List.set_cons_succ, i64_w, i32_w]
        rfl
      refine one_ (i := 7) (N := some 22) #[true, true, true, true, true, true, true, true, false, false] rfl rfl (by kernel_rfl) (by decide) (fun K hK => ?_)
      refine value_ (w1 := ?_) (v := ?_) (by rfl) rfl ?_ ?_
      rotate_left 2
      · go_simp
        constructor
        · rfl
        · rfl
      refine hK.out _ _ ⟨(pw_cell_below (below_alloc (Below.refl _ _) _) (pw_cell_below HB6.out d1)), (pw_cell_below (below_alloc (Below.refl _ _) _) (pw_cell_below HB6.out d2))⟩ (fun hHeld => ?_)
      clear hK K
      refine norm_ (a' := ?_) ?_ ?_
      rotate_left
      · show Act.put _ (some 22) _ = _
        simp only [Act.put, List.setIfInBounds_toArray, List.set_cons_zero, List.set_cons_succ, i64_w, i32_w]
        rfl
      refine one_ (i := 8) (N := some 23) #[true, true, true, true, true, true, true, true, true, false] rfl rfl (by kernel_rfl) (by decide) (fun K hK => ?_)
      refine Kd.S_append_step kFr (w0 := w) (W := w6) w.heap.size (by rfl) (.tmp 15) (.tmp 22) 23 80 (.agg #[.int .i64 0, .slice none 0 0]) 32 rfl Tryd.underlying23 info80 rfl (by decide) (by omega) (.slice A2 k c2) (l.take k) f [.int .i64 f.f, .slice A6 f.l.length c6] (fun _ => True) (fun j => q + 1 ≤ j) rfl (by simp only [Act.eval]; rfl) ?hM ?hok (fun _ _ => trivial) ?hO ?hB ?hbase (by rw [List.length_take]; omega) ?_
      case hM => exact kFr_mkM _ _ _ _ (Kd.R_lower (Kd.R_mono (Kd.R_bound HR6.out) (fun j hj => by have h1 := hj.2.1; have h2 := HSz.out; omega)) HB5.out.size)
      case hok => exact fun j hj => ⟨trivial, fun h => by have := HOwn.out j h.symm; omega⟩
      case hO => exact Kd.S_below HR5.out HB6.out
      case hB => exact below_then HB5.out HB5.out.size HB6.out
      case hbase => exact Nat.le_trans HB5.out.size HB6.out.size
      intro v9 w9 hR9 hB9 hgr9 hat9
      obtain ⟨A9, c9, rfl⟩ := Kd.S_slice hR9
      have hqne : some q ≠ (Value.slice A2 k c2).ownBlock := fun h => by have := HOwn.out q h.symm; omega
      have e1 := World.grownBy.cell hgr9 (pw_cell_below HB6.out d1) hqne
      have e2 := World.grownBy.cell hgr9 (pw_cell_below HB6.out d2) hqne
      have HR9 := Aside0.mk hR9
      have HB9 := Aside0.mk hB9
      clear hR9 hB9 hgr9 hat9 hqne
      refine hK.out _ _ ⟨e1, e2⟩ (fun hHeld => ?_)
      clear hK K
      refine norm_ (a' := ?_) ?_ ?_
      rotate_left
      · show Act.put _ (some 23) _ = _
        simp only [Act.put, List.setIfInBounds_toArray, List.set_cons_zero, List.set_cons_succ, i64_w, i32_w]
        rfl
      refine pure_ (i := 9) (N := some 3) (v := ?_) (a' := ?_) #[true, true, true, true, true, true, true, true, true, true] rfl rfl (by kernel_rfl) (fun _ _ _ h => h) (Or.inl ⟨by rfl, ?_⟩) ?_ ?_
      rotate_left
      · intro w'
        go_simp
        with_reducible rfl
      rotate_left
      · simp only [Act.put, List.setIfInBounds_toArray, List.set_cons_zero, List.set_cons_succ, i64_w, i32_w]
        rfl
      refine done_ (by kernel_rfl) ?_
      have HR9b : Aside0 (kFr.S 80 w9 w.heap.size (fun _ => True) (.slice A9 (k + 1) c9) (l.take (k + 1))) := ⟨by
        have h := HR9.out
        rw [show (l.take k ++ [f]).length = k + 1 by rw [List.length_append, List.length_take]; simp; omega] at h
        rw [HT.out]
        exact h⟩
      clear hHeld d1 d2 e1 e2
      go_wp2
      go_roundw
      case rel => exact ⟨k + 1, by omega, by go_num, HR9b, HB9⟩
      case measure => simp [intOf]; omega
    · have HR9 : Aside0 (kFr.S 80 wr w.heap.size (fun _ => True) u3 l) := ⟨by have := HRR.out; rwa [List.take_of_length_le (by omega)] at this⟩
      go_wp2
      go_ret
      exact ⟨_, rfl, HR9.out, HB.out⟩
end Go.Proofs.YtfaghjadjpiaiaaDoor.Sh
namespace Go.Proofs.YtfaghjadjpiaiaaDoor.Sh
open Go.RowKit Go.Shelf Go.Proofs.YtfaghjadjpiaiaaDoorW.PrintWords Go.Proofs.YtfaghjadjpiaiaaDoorW.PrintLast Go.Proofs.YtfaghjadjpiaiaaDoorW.PrintMore
set_option linter.unusedVariables false
set_option linter.unusedSimpArgs false
/-- The boxes of change: the row handed in, the row answered, the error. -/
structure ChW (w : World) (A : Option Addr) (l : List Fr) (c : Nat) (x : Int) (W : World) : Prop where
  below : Below w.heap.size w W
  came : W.heap[w.heap.size]? = some (.cells #[.slice A l.length c] 23 (0, 0))
  out : ∃ v, W.heap[w.heap.size + 1]? = some (.cells #[v] 23 (0, 0))
  err : W.heap[w.heap.size + 2]? = some (.cells #[.int .i64 x] 31 (0, 0))
/-- What a call of change$1 behind an error leaves. -/
theorem ch1_err (w : World) (A : Option Addr) (l : List Fr) (c : Nat) (x : Int) (W : World) (hx : x ≠ 0) (h : ChW w A l c x W) (hr : kFr.C W A l.length l) (hl : l.length ≤ c) (hs : SmallR l) :
    CallsD Tryd.prog 131 #[.pointer (some ⟨w.heap.size + 2, 0, none⟩), .pointer (some ⟨w.heap.size, 0, none⟩), .pointer (some ⟨w.heap.size + 1, 0, none⟩)] .returning W fun e u' W' => u' = .returning ∧ (e = .returned (.tuple #[]) ∧ ∃ A2 c2, W'.heap[w.heap.size + 1]? = some (.cells #[.slice A2 l.length c2] 23 (0, 0)) ∧ W'.heap[w.heap.size + 2]? = some (.cells #[.int .i64 x] 31 (0, 0)) ∧ kFr.C W' A2 l.length l ∧ l.length ≤ c2 ∧ Below w.heap.size w W') := by
  obtain ⟨v0, hout⟩ := h.out
  have hc : W.cell? ⟨w.heap.size + 2, 0, none⟩ = some (.int .i64 x) := (blk_cell h.err 0).trans rfl
  have hl0 : W.cell? ⟨w.heap.size, 0, none⟩ = some (.slice A l.length c) := (blk_cell h.came 0).trans rfl
  have HC := Aside0.mk (clone_calls A c l W hr hl hs)
  have HH := Aside0.mk h
  have HOut := Aside0.mk hout
  have hxb : (x != 0) = true := by simpa using hx
  clear hr hl hs h hout hx
  go_enter_d Tryd.func131, Tryd.ntmps131
  go_wp2_with (go_at_call 130; refine HC.out.mono ?_; rintro e w1 ⟨v, rfl, hR, hb⟩; have hR := Kd.S_R hR; obtain ⟨A2, c2, rfl⟩ := Kd.R_slice hR; have hblk := (hb.block _ (blk_lt HOut.out)).trans HOut.out; have hoc : w1.cell? ⟨w.heap.size + 1, 0, none⟩ = some v0 := (blk_cell hblk 0).trans rfl; have hof := blk_frozen hblk 0; have HBlk := Aside0.mk hblk; have HR := Aside0.mk hR; have HB := Aside0.mk hb; clear hblk hR hb)
  go_end0
  have hlt : w.heap.size + 1 < W.heap.size := blk_lt HOut.out
  have hR2 := Kd.R_far (p := ⟨w.heap.size + 1, 0, none⟩) (Kd.R_mono (Kd.R_bound HR.out) (ok' := fun k => k ≠ w.heap.size + 1) (fun k hk => by have := hk.2.1; omega)) (fun _ hk => hk) (.slice A2 l.length c2)
  obtain ⟨A3, c3, he, hl3, hC3⟩ := Kd.R_reads hR2
  cases he
  refine ⟨rfl, A2, c2, by simpa using blk_set HBlk.out 0 (.slice A2 l.length c2), ?_, hC3, hl3, ?_⟩
  · exact blk_far ((HB.out.block _ (blk_lt HH.out.err)).trans HH.out.err) (by simp) _
  · exact (below_then HH.out.below HH.out.below.size HB.out).setCell (Nat.le_succ _) _
theorem ch1_ok (w : World) (A : Option Addr) (l : List Fr) (c : Nat) (W : World) (herr : W.heap[w.heap.size + 2]? = some (.cells #[.int .i64 0] 31 (0, 0))) :
    CallsD Tryd.prog 131 #[.pointer (some ⟨w.heap.size + 2, 0, none⟩), .pointer (some ⟨w.heap.size, 0, none⟩), .pointer (some ⟨w.heap.size + 1, 0, none⟩)] .returning W fun e u' W' => u' = .returning ∧ (e = .returned (.tuple #[]) ∧ W = W') := by
  have hc : W.cell? ⟨w.heap.size + 2, 0, none⟩ = some (.int .i64 0) := (blk_cell herr 0).trans rfl
  clear herr
  go_enter_d Tryd.func131, Tryd.ntmps131
  go_wp2
  go_end0
  exact ⟨rfl, rfl⟩
/-- What change answers. -/
def ChPost (w : World) (l : List Fr) (x : Int) (e : Ending) (w' : World) : Prop :=
  ∃ A' c', e = .returned (.tuple #[.slice A' l.length c', .int .i64 x]) ∧ kFr.C w' A' l.length l ∧ l.length ≤ c' ∧ Below w.heap.size w w'
def chDefers (w : World) : List Deferred := [{ target := Target.fn (Fn.func 132) #[], args := #[.pointer (some ⟨w.heap.size + 2, 0, none⟩)] }, { target := Target.fn (Fn.func 131) #[.pointer (some ⟨w.heap.size + 2, 0, none⟩), .pointer (some ⟨w.heap.size, 0, none⟩), .pointer (some ⟨w.heap.size + 1, 0, none⟩)], args := #[] }]
theorem ch_results (tmps : Array Value) (p q : Addr) (u v : Value) (W : World) (h6 : tmps[6]?.getD undef = .pointer (some p)) (h7 : tmps[7]?.getD undef = .pointer (some q)) (hu : W.cell? p = some u) (hv : W.cell? q = some v) :
    (results Tryd.f86 tmps).run Tryd.prog W = .ok (.tuple #[u, v]) W := by
  unfold results
  rw [Tryd.results86]
  simp [go_sem, h6, h7, hu, hv]
theorem change_wrong (w : World) (A : Option Addr) (l : List Fr) (c : Nat) (x : Int) (tmps : Array Value) (W : World) (hx : x ≠ 0) (h6 : tmps[6]?.getD undef = .pointer (some ⟨w.heap.size + 1, 0, none⟩)) (h7 : tmps[7]?.getD undef = .pointer (some ⟨w.heap.size + 2, 0, none⟩))
    (h : ChW w A l c 0 W) (hr : kFr.C w A l.length l) (hl : l.length ≤ c) (hs : SmallR l) :
    Leaves Tryd.prog Tryd.f86 tmps (ChPost w l x) (chDefers w) (.panicking (Wrong x)) W := by
  unfold chDefers
  refine leaves_cons (f := 132) (args := #[.pointer (some ⟨w.heap.size + 2, 0, none⟩)]) (by simp) (by simp [go_sem]) ?_
  refine (caught_wrong ⟨w.heap.size + 2, 0, none⟩ x 0 W ((blk_cell h.err 0).trans rfl) (blk_frozen h.err 0) (blk_lt h.err)).mono ?_
  rintro e u' w2 ⟨rfl, rfl, rfl⟩
  show Leaves _ _ _ _ _ .returning _
  refine leaves_cons (f := 131) (args := #[.pointer (some ⟨w.heap.size + 2, 0, none⟩), .pointer (some ⟨w.heap.size, 0, none⟩), .pointer (some ⟨w.heap.size + 1, 0, none⟩)]) (by simp) (by simp [go_sem]) ?_
  have hal : Below W.heap.size W (W.alloc (.cells #[.int .i64 x] 188)) := below_alloc (Below.refl _ _) _
  obtain ⟨v0, hout⟩ := h.out
  have e2 := (hal.block _ (blk_lt h.err)).trans h.err
  have h2 : ChW w A l c x ((W.alloc (.cells #[.int .i64 x] 188)).setCell ⟨w.heap.size + 2, 0, none⟩ (.int .i64 x)) := {
    below := (below_then h.below h.below.size hal).setCell (by simp) _
    came := blk_far ((hal.block _ (blk_lt h.came)).trans h.came) (by simp) _
    out := ⟨v0, blk_far ((hal.block _ (blk_lt hout)).trans hout) (by simp) _⟩
    err := by simpa using blk_set e2 0 (.int .i64 x) }
  refine (ch1_err w A l c x _ hx h2 (Kd.C_below hr h2.below) hl hs).mono ?_
  rintro e u' w3 ⟨rfl, rfl, A2, c2, g1, g2, g3, g4, g5⟩
  show Leaves _ _ _ _ _ .returning _
  exact ⟨_, ch_results tmps _ _ _ _ w3 h6 h7 ((blk_cell g1 0).trans rfl) ((blk_cell g2 0).trans rfl), A2, c2, rfl, g3, g4, g5⟩
theorem change_fine (w : World) (l : List Fr) (tmps : Array Value) (W : World) (h6 : tmps[6]?.getD undef = .pointer (some ⟨w.heap.size + 1, 0, none⟩)) (h7 : tmps[7]?.getD undef = .pointer (some ⟨w.heap.size + 2, 0, none⟩)) (A2 : Option Addr) (c2 : Nat)
    (hout : W.heap[w.heap.size + 1]? = some (.cells #[.slice A2 l.length c2] 23 (0, 0))) (herr : W.heap[w.heap.size + 2]? = some (.cells #[.int .i64 0] 31 (0, 0))) (hC : kFr.C W A2 l.length l) (hl : l.length ≤ c2) (hb : Below w.heap.size w W) :
    Leaves Tryd.prog Tryd.f86 tmps (ChPost w l 0) (chDefers w) .returning W := by
  unfold chDefers
  refine leaves_cons (f := 132) (args := #[.pointer (some ⟨w.heap.size + 2, 0, none⟩)]) (by simp) (by simp [go_sem]) ?_
  refine (caught_idle ⟨w.heap.size + 2, 0, none⟩ W).mono ?_
  rintro e u' w2 ⟨rfl, rfl, rfl⟩
  show Leaves _ _ _ _ _ .returning _
  refine leaves_cons (f := 131) (args := #[.pointer (some ⟨w.heap.size + 2, 0, none⟩), .pointer (some ⟨w.heap.size, 0, none⟩), .pointer (some ⟨w.heap.size + 1, 0, none⟩)]) (by simp) (by simp [go_sem]) ?_
  refine (ch1_ok w none [] 0 W herr).mono ?_
  rintro e u' w3 ⟨rfl, rfl, rfl⟩
  show Leaves _ _ _ _ _ .returning _
  exact ⟨_, ch_results tmps _ _ _ _ W h6 h7 ((blk_cell hout 0).trans rfl) ((blk_cell herr 0).trans rfl), A2, c2, rfl, hC, hl, hb⟩
/-- What the function that is handed to change leaves. -/
def HowPost (B r a : Nat) (x : Int) (l' : List Fr) (W : World) (e : Ending) (W' : World) : Prop :=
  Below B W W' ∧ ((x = 0 ∧ e = .returned (.tuple #[]) ∧ ∃ A3 c3, W'.heap[r]? = some (.cells #[.pointer (some ⟨a, 0, none⟩), .slice A3 l'.length c3] 148 (0, 0)) ∧ kFr.F W' (fun k => B ≤ k) A3 l'.length l' ∧ l'.length ≤ c3) ∨ (x ≠ 0 ∧ e = .panicked (Wrong x)))
def HowOk (w : World) (a : Nat) (l : List Fr) (g : Nat) (caps : Array Value) (x : Int) (l' : List Fr) : Prop :=
  ∀ (B r : Nat) (W : World) (A2 : Option Addr) (c2 : Nat), Below w.heap.size w W → w.heap.size ≤ B → B ≤ r → B ≤ W.heap.size → W.heap[r]? = some (.cells #[.pointer (some ⟨a, 0, none⟩), .slice A2 l.length c2] 148 (0, 0)) → kFr.S 80 W B (fun k => k ≠ r) (.slice A2 l.length c2) l → Calls Tryd.prog g (#[.pointer (some ⟨r, 0, none⟩)] ++ caps) W (HowPost B r a x l' W)
theorem ChW.start (w : World) (A : Option Addr) (l : List Fr) (c : Nat) : ChW w A l c 0 (((w.alloc (.cells #[.slice A l.length c] 23)).alloc (.cells #[.slice none 0 0] 23)).alloc (.cells #[.int .i64 0] 31)) where
  below := below_alloc (below_alloc (below_alloc (Below.refl _ _) _) _) _
  came := (Below.heap_alloc _ _ _ (by simp; omega)).trans ((Below.heap_alloc _ _ _ (by simp)).trans (heap_alloc_new w _))
  out := ⟨.slice none 0 0, (Below.heap_alloc _ _ _ (by simp)).trans (by have := heap_alloc_new (w.alloc (.cells #[.slice A l.length c] 23)) (.cells #[.slice none 0 0] 23); simpa using this)⟩
  err := by have := heap_alloc_new ((w.alloc (.cells #[.slice A l.length c] 23)).alloc (.cells #[.slice none 0 0] 23)) (.cells #[.int .i64 0] 31); simpa using this
theorem ChW.step {w : World} {A : Option Addr} {l : List Fr} {c B : Nat} {x : Int} {W W1 : World} (h : ChW w A l c x W) (hb : Below B W W1) (hB : w.heap.size + 3 ≤ B) : ChW w A l c x W1 where
  below := h.below.trans (hb.mono (by omega))
  came := (hb.block _ (by omega)).trans h.came
  out := by obtain ⟨v, hv⟩ := h.out; exact ⟨v, (hb.block _ (by omega)).trans hv⟩
  err := (hb.block _ (by omega)).trans h.err
def chRow (t : List Ent) (l : List Fr) (x : Int) (l' : List Fr) : List Fr := if rightE t l = 0 ∧ x = 0 then l' else l
def chErr (t : List Ent) (l : List Fr) (x : Int) : Int := if rightE t l = 0 then x else 9
theorem Calls.cast {P : Program} {g : Nat} {args args' : Array Value} {w : World} {K : Ending → World → Prop} (h : Calls P g args w K) (e : args = args') : Calls P g args' w K := e ▸ h
set_option maxRecDepth 100000 in
set_option maxHeartbeats 2000000 in
theorem change_calls (a : Nat) (t : List Ent) (A : Option Addr) (c : Nat) (l : List Fr) (g : Nat) (caps : Array Value) (x : Int) (l' : List Fr) (w : World) (h : IsRow w a t A c l) (hs : SmallR l)
    (heg : ∀ (args : Array Value) (W : World), (callFunc g args).run Tryd.prog W = .ok (.enter g args) W)
    (hhow : rightE t l = 0 → HowOk w a l g caps x l') :
    Calls Tryd.prog 86 #[.pointer (some ⟨a, 0, none⟩), .slice A l.length c, .func (.func g) #[] caps] w (ChPost w (chRow t l x l') (chErr t l x)) := by
  have HS := Aside0.mk (ChW.start w A l c)
  have HR := Aside0.mk h
  have HSm := Aside0.mk hs
  have HC := Aside0.mk (fun (W : World) (hB : Below w.heap.size w W) => clone_calls A c l W (h.below hB).rows h.cap hs)
  have HRt := Aside0.mk (fun (W : World) (hB : Below w.heap.size w W) => Right_calls a t A c l W (h.below hB))
  have HHow := Aside0.mk hhow
  have hmf : ∀ (fn : Fn) (first cap : Array Value) (w : World), (Instr.makeFunc fn first cap).run Tryd.prog w = .ok (.func fn first cap) w := fun _ _ _ _ => rfl
  have hl0 : (((w.alloc (.cells #[.slice A l.length c] 23)).alloc (.cells #[.slice none 0 0] 23)).alloc (.cells #[.int .i64 0] 31)).cell? ⟨w.heap.size, 0, none⟩ = some (.slice A l.length c) := (blk_cell HS.out.came 0).trans rfl
  have hsz : (((w.alloc (.cells #[.slice A l.length c] 23)).alloc (.cells #[.slice none 0 0] 23)).alloc (.cells #[.int .i64 0] 31)).heap.size = w.heap.size + 3 := by simp
  have HSz := Aside0.mk hsz
  clear h hs hhow hsz
  generalize hP : ChPost w (chRow t l x l') (chErr t l x) = Post
  have HPost := Aside0.mk hP
  clear hP
  go_enter_defers Tryd.func86, Tryd.ntmps86
  go_wp2_with first
    | (go_at_call 130
       refine (HC.out _ HS.out.below).mono ?_
       rintro e w1 ⟨v, rfl, hR, hb⟩
       rw [HSz.out] at hR hb
       obtain ⟨A2, c2, rfl⟩ := Kd.S_slice hR
       have h2 := ChW.step HS.out (hb.trans ((below_alloc (Below.refl _ _) (.cells #[.pointer (some ⟨a, 0, none⟩), .slice A2 l.length c2] 148)).mono (by have := hb.size; have := HSz.out; omega))) (Nat.le_refl _)
       have hl1 := (blk_cell h2.came 0).trans rfl
       have hrow := heap_alloc_new w1 (.cells #[.pointer (some ⟨a, 0, none⟩), .slice A2 l.length c2] 148)
       have hsz1 : w.heap.size + 3 ≤ w1.heap.size := by have := hb.size; have := HSz.out; omega
       have HSz1 := Aside0.mk hsz1
       have HSz2 := Aside0.mk (Nat.le_trans hsz1 (below_alloc (Below.refl _ w1) (.cells #[.pointer (some ⟨a, 0, none⟩), .slice A2 l.length c2] 148)).size)
       have H2 := Aside0.mk h2
       have HRow := Aside0.mk hrow
       have HCl := Aside0.mk (Kd.S_alloc (Kd.S_mono (Kd.S_bound hR) (ok' := fun k => k ≠ w1.heap.size) (fun k hk => by have := hk.2.2.1; omega)) (.cells #[.pointer (some ⟨a, 0, none⟩), .slice A2 l.length c2] 148))
       clear hR hb hl0 h2 hrow hsz1)
    | (go_at_call 133
       go_loud (
       refine (HRt.out _ H2.out.below).mono ?_
       rintro e w3 ⟨rfl, hb⟩
       have H3 := Aside0.mk (H2.out.step hb HSz2.out)
       have HRow3 := Aside0.mk ((hb.block _ (blk_lt HRow.out)).trans HRow.out)
       have HCl3 := Aside0.mk (Kd.S_below HCl.out hb)
       have hsz3 : w.heap.size + 3 ≤ w3.heap.size := Nat.le_trans HSz2.out hb.size
       have HSz3 := Aside0.mk hsz3
       clear hb hl1 hsz3))
    | (go_at_call 88
       by_cases hre : rightE t l = 0
       rotate_left
       · rw [show (rightE t l == 0) = false by simpa using hre]
         refine (must_no 9 _).mono ?_
         rintro e w4 ⟨rfl, rfl⟩
         show bodyPostD _ _ _ _ _ _
         rw [← HPost.out, show chRow t l x l' = l from if_neg (fun hh => hre hh.1), show chErr t l x = 9 from if_neg hre]
         exact change_wrong w A l c 9 _ _ (by decide) rfl rfl H3.out HR.out.rows HR.out.cap HSm.out
       rw [hre]
       have HRe := Aside0.mk hre
       refine (must_ok 9 _).mono ?_
       rintro e w4 ⟨rfl, rfl⟩
       clear hre)
    | (show Calls _ g _ _ _
       refine (Calls.cast (HHow.out HRe.out (w.heap.size + 3) w1.heap.size w3 A2 c2 H3.out.below (Nat.le_add_right _ _) HSz1.out HSz3.out HRow3.out HCl3.out) rfl).mono ?_
       rintro e w5 ⟨hb5, ⟨hx0, rfl, A3, c3, hr5, hF, hl3⟩ | ⟨hx, rfl⟩⟩
       rotate_left
       · show bodyPostD _ _ _ _ _ _
         rw [← HPost.out, show chRow t l x l' = l from if_neg (fun hh => hx hh.2), show chErr t l x = x from if_pos HRe.out]
         exact change_wrong w A l c x _ _ hx rfl rfl (H3.out.step hb5 (Nat.le_refl _)) HR.out.rows HR.out.cap HSm.out
       have H5 := Aside0.mk (H3.out.step hb5 (Nat.le_refl _))
       obtain ⟨v0, hout⟩ := H5.out.out
       have hrl : w5.cell? ⟨w1.heap.size, 1, none⟩ = some (.slice A3 l'.length c3) := (blk_cell hr5 1).trans rfl
       have ho : w5.cell? ⟨w.heap.size + 1, 0, none⟩ = some v0 := (blk_cell hout 0).trans rfl
       have hof := blk_frozen hout 0
       have HF := Aside0.mk hF
       have HOut := Aside0.mk hout
       have HX := Aside0.mk hx0
       have hy := blk_set hout 0 (.slice A3 l'.length c3)
       have hye := blk_far H5.out.err (p := ⟨w.heap.size + 1, 0, none⟩) (by simp) (.slice A3 l'.length c3)
       have hec : (w5.setCell ⟨w.heap.size + 1, 0, none⟩ (.slice A3 l'.length c3)).cell? ⟨w.heap.size + 2, 0, none⟩ = some (.int .i64 0) := (blk_cell hye 0).trans rfl
       have hef := blk_frozen hye 0
       have HY := Aside0.mk hy
       have HYe := Aside0.mk hye
       clear hb5 hx0 hr5 hF hout hy hye)
  show bodyPostD _ _ _ _ _ _
  rw [← HPost.out, show chRow t l x l' = l' from if_pos ⟨HRe.out, HX.out⟩, show chErr t l x = 0 from (if_pos HRe.out).trans HX.out]
  refine change_fine w l' _ _ rfl rfl A3 c3 ?_ ?_ ?_ hl3 ?_
  · exact blk_far (by simpa using HY.out) (p := ⟨w.heap.size + 1 + 1, 0, none⟩) (by simp) (.int .i64 0)
  · simpa using blk_set HYe.out 0 (.int .i64 0)
  · exact Kd.F_now (Kd.F_far (Kd.F_far HF.out (p := ⟨w.heap.size + 1, 0, none⟩) (fun k hk => by simp; omega) _) (p := ⟨w.heap.size + 1 + 1, 0, none⟩) (fun k hk => by simp; omega) _)
  · exact (H5.out.below.setCell (Nat.le_succ _) _).setCell (by simp; omega) _
end Go.Proofs.YtfaghjadjpiaiaaDoor.Sh
namespace Go.Proofs.YtfaghjadjpiaiaaDoor.Sh
open Go.RowKit Go.Shelf Go.Proofs.YtfaghjadjpiaiaaDoorW.PrintWords Go.Proofs.YtfaghjadjpiaiaaDoorW.PrintLast Go.Proofs.YtfaghjadjpiaiaaDoorW.PrintMore
set_option linter.unusedVariables false
set_option linter.unusedSimpArgs false
def retE (l : List Fr) : Int := if 1 < l.length then 0 else 8
theorem F_take {α : Type} {d : Kd α} {w : World} {ok : Nat → Prop} {A : Option Addr} {xs : List α} (h : d.F w ok A xs.length xs) (m : Nat) (hm : m ≤ xs.length) : d.F w ok A m (xs.take m) := fun W' hW => by
  have h2 := h W' hW
  refine ⟨by simp; omega, by have := h2.2.1; omega, fun hne => ?_⟩
  obtain ⟨ad, he, hr⟩ := h2.2.2 (by omega)
  refine ⟨ad, he, fun j x hj => ?_⟩
  by_cases hjm : j < m
  · exact hr j x (by rwa [List.getElem?_take_of_lt hjm] at hj)
  · rw [List.getElem?_take_eq_none (by omega)] at hj
    cases hj
set_option maxRecDepth 100000 in
set_option maxHeartbeats 1000000 in
theorem ret1_ok (w : World) (a : Nat) (l : List Fr) : HowOk w a l 90 #[] (retE l) (l.take (l.length - 1)) := by
  intro B r W A2 c2 hb hB hr hBW hrow hR
  show Calls _ _ #[.pointer (some ⟨r, 0, none⟩)] _ _
  have h1 : W.cell? ⟨r, 1, none⟩ = some (.slice A2 l.length c2) := (blk_cell hrow 1).trans rfl
  have hf := blk_frozen hrow 1
  obtain ⟨hcc, hlen⟩ : l.length ≤ c2 ∧ l.length ≤ 9223372036854775807 := by
    have h := Kd.S_reads' hR
    exact ⟨h.2.1, h.2.2.2.1⟩
  have HF := Aside0.mk (Kd.F_mono (Kd.R_F (Kd.R_bound (Kd.S_R hR))) (ok' := fun k => k ≠ r ∧ B ≤ k) (fun k hk => ⟨hk.1, hk.2.1⟩))
  have HRow := Aside0.mk hrow
  clear hb hB hrow hR hBW
  by_cases hn : 1 < l.length
  · have hx : retE l = 0 := if_pos hn
    rw [hx]
    have hd : decide ((l.length : Int) > 1) = true := decide_eq_true (by omega)
    clear hx
    obtain ⟨ad, rfl⟩ : ∃ ad, A2 = some ad := by
      obtain ⟨ad, he, _⟩ := (Kd.F_now HF.out).2.2 (by omega)
      exact ⟨ad, he⟩
    obtain ⟨i0, hi, _⟩ := Option.map_eq_some_iff.1 info80
    have hwr : wrap64 ((l.length : Int) - 1) = ((l.length - 1 : Nat) : Int) := by unfold wrap64; omega
    have hsl : ∀ W : World, (Instr.slice 23 (.slice (some ad) l.length c2) none (some (.int .i64 (wrap64 ((l.length : Int) - 1)))) none).run Tryd.prog W = .ok (.slice (some ad) (l.length - 1) c2) W := by
      intro W
      rw [hwr]
      exact cut_to 23 80 .i64 Tryd.underlying23 hi (some ad) l.length c2 ((l.length - 1 : Nat) : Int) (by omega) (by omega) hcc W
    clear hwr hi
    go_enter Tryd.func90, Tryd.ntmps90
    go_wp2_with (go_at_call 88; refine (must_ok 8 _).mono ?_; rintro e w4 ⟨rfl, rfl⟩)
    refine start_ (n := 15) (S := fun w' => w'.cell? ⟨r, 1, none⟩ = some (.slice (some ad) l.length c2) ∧ w'.frozen? ⟨r, 1, none⟩ = false) (ds := [14]) #[false, false, false, false, false, false, false, false, false, false, false, false, false, false, false] (by kernel_rfl) rfl rfl ⟨h1, hf⟩ (fun hHeld => ?_)
    refine pure_ (i := 0) (N := some 9) (v := ?_) (a' := ?_) #[true, false, false, false, false, false, false, false, false, false, false, false, false, false, false] rfl rfl (by kernel_rfl) (fun _ _ _ h => h) (Or.inl ⟨by rfl, ?_⟩) ?_ ?_
    rotate_left
    · intro w'
      go_simp
      with_reducible rfl
    rotate_left
    · simp only [Act.put, List.setIfInBounds_toArray, List.set_cons_zero, List.set_cons_succ, i64_w, i32_w]
      rfl
    refine pure_ (i := 1) (N := some 10) (v := ?_) (a' := ?_) #[true, true, false, false, false, false, false, false, false, false, false, false, false, false, false] rfl rfl (by kernel_rfl) (fun _ _ _ h => h) (Or.inl ⟨by rfl, ?_⟩) ?_ ?_
    rotate_left
    · intro w'
      go_simp
      with_reducible rfl
    rotate_left
    · simp only [Act.put, List.setIfInBounds_toArray, List.set_cons_zero, List.set_cons_succ, i64_w, i32_w]
      rfl
    refine pure_ (i := 2) (N := some 11) (v := ?_) (a' := ?_) #[true, true, true, false, false, false, false, false, false, false, false, false, false, false, false] rfl rfl (by kernel_rfl) (fun _ _ _ h => h) (Or.inl ⟨by rfl, ?_⟩) ?_ ?_
    rotate_left
    · intro w'
      go_simp
      with_reducible rfl
    rotate_left
    · simp only [Act.put, List.setIfInBounds_toArray, List.set_cons_zero, List.set_cons_succ, i64_w, i32_w]
      rfl
    refine pure_ (i := 3) (N := some 12) (v := ?_) (a' := ?_) #[true, true, true, true, false, false, false, false, false, false, false, false, false, false, false] rfl rfl (by kernel_rfl) (fun _ _ _ h => h) (Or.inl ⟨by rfl, ?_⟩) ?_ ?_
    rotate_left
    · intro w'
      go_simp
      with_reducible rfl
    rotate_left
    · simp only [Act.put, List.setIfInBounds_toArray, List.set_cons_zero, List.set_cons_succ, i64_w, i32_w]
      rfl
    refine pure_ (i := 5) (N := some 14) (v := ?_) (a' := ?_) #[true, true, true, true, false, true, false, false, false, false, false, false, false, false, false] rfl rfl (by kernel_rfl) (fun _ _ _ h => h) (Or.inl ⟨by rfl, ?_⟩) ?_ ?_
    rotate_left
    · intro w'
      go_simp
      with_reducible rfl
    rotate_left
    · simp only [Act.put, List.setIfInBounds_toArray, List.set_cons_zero, List.set_cons_succ, i64_w, i32_w]
      rfl
    refine pure_ (i := 6) (N := some 15) (v := ?_) (a' := ?_) #[true, true, true, true, false, true, true, false, false, false, false, false, false, false, false] rfl rfl (by kernel_rfl) (fun _ _ _ h => h) (Or.inl ⟨by rfl, ?_⟩) ?_ ?_
    rotate_left
    · intro w'
      go_simp
      with_reducible rfl
    rotate_left
    · simp only [Act.put, List.setIfInBounds_toArray, List.set_cons_zero, List.set_cons_succ, i64_w, i32_w]
      rfl
    refine pure_ (i := 7) (N := some 16) (v := ?_) (a' := ?_) #[true, true, true, true, false, true, true, true, false, false, false, false, false, false, false] rfl rfl (by kernel_rfl) (fun _ _ _ h => h) (Or.inl ⟨by rfl, ?_⟩) ?_ ?_
    rotate_left
    · intro w'
      go_simp
      with_reducible rfl
    rotate_left
    · simp only [Act.put, List.setIfInBounds_toArray, List.set_cons_zero, List.set_cons_succ, i64_w, i32_w]
      rfl
    refine take_ (i := 4) (N := some 13) (v := ?_) (a' := ?_) #[true, true, true, true, true, true, true, true, false, false, false, false, false, false, false] rfl rfl (by kernel_rfl) (fun _ _ _ h => h) (Or.inl ⟨by rfl, ?_⟩) hHeld ?_ ?_
    rotate_left
    · rintro w' ⟨s0, s1⟩
      go_simp
      with_reducible rfl
    rotate_left
    · simp only [Act.put, List.setIfInBounds_toArray, List.set_cons_zero, List.set_cons_succ, i64_w, i32_w]
      rfl
    refine take_ (i := 8) (N := some 17) (v := ?_) (a' := ?_) #[true, true, true, true, true, true, true, true, true, false, false, false, false, false, false] rfl rfl (by kernel_rfl) (fun _ _ _ h => h) (Or.inl ⟨by rfl, ?_⟩) hHeld ?_ ?_
    rotate_left
    · rintro w' ⟨s0, s1⟩
      go_simp
      with_reducible rfl
    rotate_left
    · simp only [Act.put, List.setIfInBounds_toArray, List.set_cons_zero, List.set_cons_succ, i64_w, i32_w]
      rfl
    refine pure_ (i := 9) (N := some 18) (v := ?_) (a' := ?_) #[true, true, true, true, true, true, true, true, true, true, false, false, false, false, false] rfl rfl (by kernel_rfl) (fun _ _ _ h => h) (Or.inl ⟨by rfl, ?_⟩) ?_ ?_
    rotate_left
    · intro w'
      go_simp
      with_reducible rfl
    rotate_left
    · simp only [Act.put, List.setIfInBounds_toArray, List.set_cons_zero, List.set_cons_succ, i64_w, i32_w]
      rfl
    refine pure_ (i := 10) (N := some 19) (v := ?_) (a' := ?_) #[true, true, true, true, true, true, true, true, true, true, true, false, false, false, false] rfl rfl (by kernel_rfl) (fun _ _ _ h => h) (Or.inl ⟨by rfl, ?_⟩) ?_ ?_
    rotate_left
    · intro w'
      go_simp
      with_reducible rfl
    rotate_left
    · simp only [Act.put, List.setIfInBounds_toArray, List.set_cons_zero, List.set_cons_succ, i64_w, i32_w]
      rfl
    refine pure_ (i := 11) (N := some 20) (v := ?_) (a' := ?_) #[true, true, true, true, true, true, true, true, true, true, true, true, false, false, false] rfl rfl (by kernel_rfl) (fun _ _ _ h => h) (Or.inl ⟨by rfl, ?_⟩) ?_ ?_
    rotate_left
    · intro w'
      go_simp
      with_reducible rfl
    rotate_left
    · simp only [Act.put, List.setIfInBounds_toArray, List.set_cons_zero, List.set_cons_succ, i64_w, i32_w]
      rfl
    refine pure_ (i := 12) (N := some 21) (v := ?_) (a' := ?_) #[true, true, true, true, true, true, true, true, true, true, true, true, true, false, false] rfl rfl (by kernel_rfl) (fun _ _ _ h => h) (Or.inl ⟨by rfl, ?_⟩) ?_ ?_
    rotate_left
    · intro w'
      go_simp
      with_reducible rfl
    rotate_left
    · simp only [Act.put, List.setIfInBounds_toArray, List.set_cons_zero, List.set_cons_succ, i64_w, i32_w]
      rfl
    refine pure_ (i := 13) (N := some 22) (v := ?_) (a' := ?_) #[true, true, true, true, true, true, true, true, true, true, true, true, true, true, false] rfl rfl (by kernel_rfl) (fun _ _ _ h => h) (Or.inl ⟨by rfl, ?_⟩) ?_ ?_
    rotate_left
    · intro w'
      go_simp
      with_reducible rfl
    rotate_left
    · simp only [Act.put, List.setIfInBounds_toArray, List.set_cons_zero, List.set_cons_succ, i64_w, i32_w]
      rfl
    refine last_ (i := 14) (N := none) #[true, true, true, true, true, true, true, true, true, true, true, true, true, true, true] rfl rfl (by kernel_rfl) (by decide) (fun K hK => ?_)
    refine skip_ (w1 := ?_) (by rfl) rfl ?_ ?_
    rotate_left
    · go_simp
      rfl
    refine hK.out _ _ ?_
    clear hK K
    refine done_ (by kernel_rfl) ?_
    go_end0
    have hln : (l.take (l.length - 1)).length = l.length - 1 := by simp
    have hbe : Below B W ((W.setCell ⟨r, 1, none⟩ (.slice (some ad) (l.length - 1) c2)).drew) := below_drew ((Below.refl _ _).setCell hr _)
    refine ⟨hbe, Or.inl ⟨rfl, rfl, some ad, c2, ?_, ?_, by rw [hln]; omega⟩⟩
    · rw [hln]
      show (W.setCell ⟨r, 1, none⟩ (.slice (some ad) (l.length - 1) c2)).heap[r]? = _
      simpa using blk_set HRow.out 1 (.slice (some ad) (l.length - 1) c2)
    · rw [hln]
      exact Kd.F_mono (Kd.F_drew (Kd.F_far (F_take HF.out (l.length - 1) (by omega)) (p := ⟨r, 1, none⟩) (fun k hk => hk.1) _)) (fun k hk => hk.2)
  · have hx : retE l = 8 := if_neg hn
    rw [hx]
    have hd : decide ((l.length : Int) > 1) = false := decide_eq_false (by omega)
    clear hx
    go_enter Tryd.func90, Tryd.ntmps90
    go_wp2_with (go_at_call 88; refine (must_no 8 _).mono ?_; rintro e w4 ⟨rfl, rfl⟩)
    exact ⟨rfl, Below.refl _ _, Or.inr ⟨by decide, rfl⟩⟩
end Go.Proofs.YtfaghjadjpiaiaaDoor.Sh
namespace Go.Proofs.YtfaghjadjpiaiaaDoor.Sh
open Go.RowKit Go.Shelf Go.Proofs.YtfaghjadjpiaiaaDoorW.PrintWords Go.Proofs.YtfaghjadjpiaiaaDoorW.PrintLast Go.Proofs.YtfaghjadjpiaiaaDoorW.PrintMore
set_option linter.unusedVariables false
set_option linter.unusedSimpArgs false
section
variable {P : Program} {ops : Array Oper} {Q : Exit → Act → World → Prop}
/-- A call that returns or panics, in a region that draws. -/
theorem goesT_ {oi : Oper} {N : Option Tmp} {a : Act} {w : World} {K : Act → World → Prop} {f : FuncId} {fn : Func} {as_ : Array Operand} {ts : Array TypeId} (hf : P.funcs[f]? = some fn) (hname : (fn.name == "runtime.NumGoroutine") = false) (hb : fn.body.isSome = true) (args : Array Value)
    (hw : Region.wanted oi (yielded ops a.tmps) = true) (hN : oi.dst = N) (hop : oi.op = .call { callee := .value (.func f), args := as_, argTypes := ts }) (hargs : as_.map a.eval = args)
    (h : Calls P f args w fun e w' => (∃ v, e = .returned v ∧ K (a.put N v) w') ∨ ∃ ch, e = .panicked ch ∧ Q (.panic ch) a w') : if Region.wanted oi (yielded ops a.tmps) = true then Oper.wp P oi a w K Q else K (a.put N undef) w := by
  have he := enters_ hf hname hb args w
  have hrun : (execOp a.eval oi).run P w = .ok (.enter f args) w := by
    unfold execOp
    simp [hop, resolve, Deferred.ofValue, invoke, Act.eval, hargs, he]
  rw [if_pos hw]
  unfold Oper.wp
  rw [hrun, Oper.upon_enter]
  refine h.mono fun e w'' hh => ?_
  rcases hh with ⟨v, rfl, hk⟩ | ⟨ch, rfl, hk⟩
  · subst hN
    exact hk
  · exact hk
/-- A store of any form, in a region that draws. -/
theorem store_ {oi : Oper} {a : Act} {w w1 : World} {K : Act → World → Prop} {t : TypeId} {p x : Operand} {u v : Value} (hw : Region.wanted oi (yielded ops a.tmps) = true) (hN : oi.dst = none) (hop : oi.op = .store t p x) (hp : a.eval p = u) (hx : a.eval x = v)
    (hst : (Instr.storeAt t u v).run P w = .ok () w1) (h : K a w1) : if Region.wanted oi (yielded ops a.tmps) = true then Oper.wp P oi a w K Q else K (a.put none undef) w := by
  rw [if_pos hw]
  unfold Oper.wp execOp
  simp only [hop, hp, hx, Sem.run_bind, Sem.run_pure, Result.andThen_ok, hst]
  show K (a.put oi.dst undef) w1
  rw [hN]
  exact h
end
theorem below_setCells {B g : Nat} {w : World} (hg : B ≤ g) : ∀ (vs : List Value) (o : Nat) {W : World}, Below B w W → Below B w (W.setCells g o vs)
  | [], _, _, h => h
  | v :: vs, o, _, h => below_setCells hg vs (o + 1) (h.setCell hg v)
theorem must_calls (b : Bool) (x : Int) (w : World) :
    Calls Tryd.prog 88 #[.bool b, .int .i64 x] w fun e w' => w = w' ∧ ((b = true ∧ e = .returned (.tuple #[])) ∨ (b = false ∧ e = .panicked (Wrong x))) := by
  cases b
  · exact (must_no x w).mono fun e w' ⟨he, hw⟩ => ⟨hw, Or.inr ⟨rfl, he⟩⟩
  · exact (must_ok x w).mono fun e w' ⟨he, hw⟩ => ⟨hw, Or.inl ⟨rfl, he⟩⟩
/-- A row one of whose slots has something else. -/
def setRow (l : List Fr) (d s : Int) (v : Vl) : List Fr := l.set d.toNat ⟨(fr l d).f, (fr l d).l.set s.toNat v⟩
theorem setRow_length (l : List Fr) (d s : Int) (v : Vl) : (setRow l d s v).length = l.length := by simp [setRow]
theorem kFr_openM {w : World} {base : Nat} {ok : Nat → Prop} {x : Fr} {cs : List Value} (h : kFr.M w base ok x cs) : ∃ v1, cs = [.int .i64 x.f, v1] ∧ kVl.R 26 w base ok v1 x.l := by
  obtain ⟨_, _, rfl, rfl, ⟨v1, rfl, g1⟩⟩ := h
  exact ⟨v1, rfl, g1⟩
theorem put_row {W : World} {B : Nat} {ok : Nat → Prop} {ad : Addr} {n c2 : Nat} {l : List Fr} (hS : kFr.S 80 W B ok (.slice (some ad) n c2) l) (d s : Int) (h0 : 0 ≤ d) (h1 : d < l.length) (h2 : 0 ≤ s) (h3 : s < (fr l d).l.length) :
    ∃ g1 c1, W.cell? ⟨(ad.add (d.toNat * 2)).block, (ad.add (d.toNat * 2)).off + 1, none⟩ = some (.slice (some ⟨g1, 0, none⟩) (fr l d).l.length c1) ∧ (∀ j u, (vl (fr l d).l s).cells[j]? = some u → W.cell? ⟨g1, s.toNat * 4 + j, none⟩ = some u) ∧ (∀ j, W.frozen? ⟨g1, s.toNat * 4 + j, none⟩ = false) ∧ ok g1 ∧ B ≤ g1 ∧ (fr l d).l.length ≤ c1 ∧
      (∀ (P : Program) (t : TypeId) (u : Value) (seg : List Value) (j : Nat), u.cells.toList = seg → (P.info? t).map (·.size) = some seg.length → j + seg.length ≤ 4 → (∀ q ∈ seg, q.oneCell' = true) → (Instr.storeAt t (.pointer (some ⟨g1, s.toNat * 4 + j, none⟩)) u).run P W = .ok () (W.setCells g1 (s.toNat * 4 + j) seg)) ∧
      ∀ (seg : List Value) (j : Nat) (v' : Vl), j + seg.length ≤ 4 → v'.cells = (vl (fr l d).l s).cells.take j ++ seg ++ (vl (fr l d).l s).cells.drop (j + seg.length) →
        kFr.S 80 (W.setCells g1 (s.toNat * 4 + j) seg) B ok (.slice (some ad) n c2) (setRow l d s v') ∧ W.grownBy (W.setCells g1 (s.toNat * 4 + j) seg) (some g1) := by
  have hn : n = l.length := (Kd.S_reads' hS).1
  obtain ⟨oki, c, hcl, hM, hcc, hoki, hback⟩ := Kd.S_borrow hS zFr d h0 (by omega)
  obtain ⟨v1, rfl, hR⟩ := kFr_openM hM
  have hR : kVl.R 26 W B oki v1 (fr l d).l := hR
  obtain ⟨A1, c1, rfl, hlc, _⟩ := Kd.R_reads hR
  obtain ⟨ad1, rfl⟩ : ∃ ad1, A1 = some ad1 := by
    obtain ⟨ad1, he, _⟩ := (Kd.R_reads' hR).2.2.2.2 (by omega)
    exact ⟨ad1, he⟩
  obtain ⟨g1, rfl⟩ := Kd.R_head hR
  obtain ⟨cs, hsl, hsM, hsc, hsf⟩ := Kd.R_elem hR zVl s h2 h3
  obtain rfl := kVl_openM hsM
  have hg1 : oki g1 := hR.1 g1 (by simp [Value.ownBlock])
  refine ⟨g1, c1, ?_, hsc, hsf, (hoki g1 hg1).1, Kd.R_base hR g1 (by simp [Value.ownBlock]), hlc, fun P t u seg j hu ht hj h1' => ?_, fun seg j v' hj hv => ?_⟩
  · have := hcc 1 _ rfl
    rw [← add_field _ _ 1 (by decide)]
    exact this
  · obtain ⟨inner, hown⟩ := Kd.R_own hR
    rcases hown.2 with ⟨hv, _⟩ | ⟨g', cap', cur, hv, hb, hh, hnc, hcm, hcs, _⟩
    · cases hv
    injection hv with ha _ hc
    injection ha with ha
    injection ha with hg'
    subst hg'; subst hc
    refine run_store_run t u seg hh hu ht ?_ h1'
    have e4 : kVl.sz = 4 := rfl
    rw [e4] at hcs
    omega
  · obtain ⟨hR1, hgr⟩ := Kd.R_seg hR s h2 h3 hsl hsc hj (x' := v') (okp := fun _ => False) (by
      show kVl.M W B (fun _ => False) v' _
      have e : (vl (fr l d).l s).cells.take j ++ seg ++ (vl (fr l d).l s).cells.drop (j + seg.length) = v'.cells := hv.symm
      exact e ▸ kVl_mkM _ _ _ v') (fun _ h => h.elim)
    refine ⟨hback (x' := ⟨(fr l d).f, (fr l d).l.set s.toNat v'⟩) hgr (fun k hk => by cases hk; exact hg1) ?_, hgr⟩
    exact kFr_mkM _ _ _ ⟨(fr l d).f, (fr l d).l.set s.toNat v'⟩ (v1 := .slice (some ⟨g1, 0, none⟩) (fr l d).l.length c1) hR1
end Go.Proofs.YtfaghjadjpiaiaaDoor.Sh
namespace Go.Proofs.YtfaghjadjpiaiaaDoor.Sh
open Go.RowKit Go.Shelf Go.Proofs.YtfaghjadjpiaiaaDoorW.PrintWords Go.Proofs.YtfaghjadjpiaiaaDoorW.PrintLast Go.Proofs.YtfaghjadjpiaiaaDoorW.PrintMore
set_option linter.unusedVariables false
set_option linter.unusedSimpArgs false
def setE (t : List Ent) (l : List Fr) (d s : Int) (v : Vl) : Int := if hasS l d s = false then 2 else fitsE t l d s v
theorem hasS_iff {l : List Fr} {d s : Int} : hasS l d s = true ↔ 0 ≤ d ∧ d < l.length ∧ 0 ≤ s ∧ s < (fr l d).l.length := by
  unfold hasS; simp
/-- What stands while a row is changed: the row's box, and two numbers' boxes. -/
structure BoxW (W0 : World) (r a : Nat) (A : Option Addr) (n c p1 p2 : Nat) (d s : Int) (W : World) : Prop where
  row : W.heap[r]? = some (.cells #[.pointer (some ⟨a, 0, none⟩), .slice A n c] 148 (0, 0))
  b1 : W.heap[p1]? = some (.cells #[.int .i64 d] 3 (0, 0))
  b2 : W.heap[p2]? = some (.cells #[.int .i64 s] 3 (0, 0))
  below : Below W0.heap.size W0 W
theorem BoxW.step {W0 : World} {r a : Nat} {A : Option Addr} {n c p1 p2 : Nat} {d s : Int} {W W1 : World} (h : BoxW W0 r a A n c p1 p2 d s W) (hb : Below W.heap.size W W1) : BoxW W0 r a A n c p1 p2 d s W1 :=
  ⟨(hb.block _ (blk_lt h.row)).trans h.row, (hb.block _ (blk_lt h.b1)).trans h.b1, (hb.block _ (blk_lt h.b2)).trans h.b2, below_then h.below h.below.size hb⟩
theorem BoxW.r0 {W0 : World} {r a : Nat} {A : Option Addr} {n c p1 p2 : Nat} {d s : Int} {W : World} (h : BoxW W0 r a A n c p1 p2 d s W) : W.cell? ⟨r, 0, none⟩ = some (.pointer (some ⟨a, 0, none⟩)) := (blk_cell h.row 0).trans rfl
theorem BoxW.r1 {W0 : World} {r a : Nat} {A : Option Addr} {n c p1 p2 : Nat} {d s : Int} {W : World} (h : BoxW W0 r a A n c p1 p2 d s W) : W.cell? ⟨r, 1, none⟩ = some (.slice A n c) := (blk_cell h.row 1).trans rfl
theorem BoxW.q1 {W0 : World} {r a : Nat} {A : Option Addr} {n c p1 p2 : Nat} {d s : Int} {W : World} (h : BoxW W0 r a A n c p1 p2 d s W) : W.cell? ⟨p1, 0, none⟩ = some (.int .i64 d) := (blk_cell h.b1 0).trans rfl
theorem BoxW.q2 {W0 : World} {r a : Nat} {A : Option Addr} {n c p1 p2 : Nat} {d s : Int} {W : World} (h : BoxW W0 r a A n c p1 p2 d s W) : W.cell? ⟨p2, 0, none⟩ = some (.int .i64 s) := (blk_cell h.b2 0).trans rfl
theorem drew_step {W W1 : World} (h : Below W.drew.heap.size W.drew W1) : Below W.heap.size W W1 := below_of_drew h
set_option maxRecDepth 100000 in
set_option maxHeartbeats 2000000 in
theorem set1_ok (w : World) (a p1 p2 p3 : Nat) (t : List Ent) (d s : Int) (v : Vl) (l : List Fr) (hT : IsTab w a t) (hA : AllE t) (hs : I64 s)
    (b1 : w.heap[p1]? = some (.cells #[.int .i64 d] 3 (0, 0))) (b2 : w.heap[p2]? = some (.cells #[.int .i64 s] 3 (0, 0))) (b3 : w.heap[p3]? = some (.cells #[.int .u8 v.k, .int .u64 v.b, .int .i64 v.d, .int .i64 v.s] 26 (0, 0))) :
    HowOk w a l 94 #[.pointer (some ⟨p1, 0, none⟩), .pointer (some ⟨p2, 0, none⟩), .pointer (some ⟨p3, 0, none⟩)] (setE t l d s v) (setRow l d s v) := by
  intro B r W A2 c2 hb hB hr hBW hrow hR
  show Calls _ _ #[.pointer (some ⟨r, 0, none⟩), .pointer (some ⟨p1, 0, none⟩), .pointer (some ⟨p2, 0, none⟩), .pointer (some ⟨p3, 0, none⟩)] _ _
  have HB := Aside0.mk (show BoxW W r a A2 l.length c2 p1 p2 d s W from ⟨hrow, (hb.block _ (blk_lt b1)).trans b1, (hb.block _ (blk_lt b2)).trans b2, Below.refl _ _⟩)
  have HV := Aside0.mk ((hb.block _ (blk_lt b3)).trans b3)
  have hI := Aside0.mk (show IsRow W a t A2 c2 l from ⟨hT.below hb, hA, (Kd.S_reads' hR).2.2, (Kd.S_reads' hR).2.1⟩)
  have HS := Aside0.mk hR
  have HH := Aside0.mk (fun (W1 : World) (hB : Below W.heap.size W W1) => rhas_calls a t A2 c2 l d s W1 (hI.out.below hB))
  have HPos := Aside0.mk (And.intro hr hBW)
  have Hs := Aside0.mk hs
  clear hb hB hr hBW hrow hR hT hA hs b1 b2 b3
  have q0 := HB.out.r0
  have q1 := HB.out.r1
  have q2 := HB.out.q1
  have q3 := HB.out.q2
  go_enter Tryd.func94, Tryd.ntmps94
  go_wp2_with fail
  refine start_ (n := 7) (S := fun w' => w'.cell? ⟨r, 0, none⟩ = some (.pointer (some ⟨a, 0, none⟩)) ∧ w'.cell? ⟨r, 1, none⟩ = some (.slice A2 l.length c2) ∧ w'.cell? ⟨p1, 0, none⟩ = some (.int .i64 d) ∧ w'.cell? ⟨p2, 0, none⟩ = some (.int .i64 s)) (ds := []) #[false, false, false, false, false, false, false] (by kernel_rfl) rfl rfl ⟨q0, q1, q2, q3⟩ (fun hHeld => ?_)
  refine pure_ (i := 0) (N := some 5) (v := ?_) (a' := ?_) #[true, false, false, false, false, false, false] rfl rfl (by kernel_rfl) (fun _ _ _ h => h) (Or.inl ⟨by rfl, ?_⟩) ?_ ?_
  rotate_left
  · intro w'
    go_simp
    with_reducible rfl
  rotate_left
  · simp only [Act.put, List.setIfInBounds_toArray, List.set_cons_zero, List.set_cons_succ, i64_w, i32_w]
    rfl
  refine pure_ (i := 1) (N := some 6) (v := ?_) (a' := ?_) #[true, true, false, false, false, false, false] rfl rfl (by kernel_rfl) (fun _ _ _ h => h) (Or.inl ⟨by rfl, ?_⟩) ?_ ?_
  rotate_left
  · intro w'
    go_simp
    with_reducible rfl
  rotate_left
  · simp only [Act.put, List.setIfInBounds_toArray, List.set_cons_zero, List.set_cons_succ, i64_w, i32_w]
    rfl
  refine take_ (i := 2) (N := some 7) (v := ?_) (a' := ?_) #[true, true, true, false, false, false, false] rfl rfl (by kernel_rfl) (fun _ _ _ h => h) (Or.inl ⟨by rfl, ?_⟩) hHeld ?_ ?_
  rotate_left
  · rintro w' ⟨s0, s1, s2, s3⟩
    go_simp
    with_reducible rfl
  rotate_left
  · simp only [Act.put, List.setIfInBounds_toArray, List.set_cons_zero, List.set_cons_succ, i64_w, i32_w]
    rfl
  refine take_ (i := 3) (N := some 8) (v := ?_) (a' := ?_) #[true, true, true, true, false, false, false] rfl rfl (by kernel_rfl) (fun _ _ _ h => h) (Or.inl ⟨by rfl, ?_⟩) hHeld ?_ ?_
  rotate_left
  · rintro w' ⟨s0, s1, s2, s3⟩
    go_simp
    with_reducible rfl
  rotate_left
  · simp only [Act.put, List.setIfInBounds_toArray, List.set_cons_zero, List.set_cons_succ, i64_w, i32_w]
    rfl
  refine take_ (i := 4) (N := some 9) (v := ?_) (a' := ?_) #[true, true, true, true, true, false, false] rfl rfl (by kernel_rfl) (fun _ _ _ h => h) (Or.inl ⟨by rfl, ?_⟩) hHeld ?_ ?_
  rotate_left
  · rintro w' ⟨s0, s1, s2, s3⟩
    go_simp
    with_reducible rfl
  rotate_left
  · simp only [Act.put, List.setIfInBounds_toArray, List.set_cons_zero, List.set_cons_succ, i64_w, i32_w]
    rfl
  refine one_ (i := 5) (N := some 10) #[true, true, true, true, true, true, false] rfl rfl (by kernel_rfl) (by decide) (fun K hK => ?_)
  refine goes_ Tryd.func95 (by kernel_rfl) rfl #[.agg #[.pointer (some ⟨a, 0, none⟩), .slice A2 l.length c2], .int .i64 d, .int .i64 s] (by rfl) rfl rfl (by simp only [List.map_toArray, List.map_cons, List.map_nil]; rfl) ?_
  with_reducible refine (HH.out _ (below_drew (Below.refl _ _))).mono ?_
  rintro e w5 ⟨rfl, hB5⟩
  refine ⟨_, rfl, ?_⟩
  have HB5 := Aside0.mk (HB.out.step (below_of_drew hB5))
  clear hB5
  refine hK.out _ _ ⟨HB5.out.r0, HB5.out.r1, HB5.out.q1, HB5.out.q2⟩ (fun hHeld => ?_)
  clear hK K
  refine norm_ (a' := ?_) ?_ ?_
  rotate_left
  · show Act.put _ (some 10) _ = _
    simp only [Act.put, List.setIfInBounds_toArray, List.set_cons_zero, List.set_cons_succ, i64_w, i32_w]
    rfl
  refine one_ (i := 6) (N := some 11) #[true, true, true, true, true, true, true] rfl rfl (by kernel_rfl) (by decide) (fun K hK => ?_)
  show if _ = true then Oper.wp _ _ _ _ _ _ else _
  refine goesT_ Tryd.func88 (by kernel_rfl) rfl #[.bool (hasS l d s), .int .i64 2] (by rfl) rfl rfl (by simp only [List.map_toArray, List.map_cons, List.map_nil]; rfl) ?_
  with_reducible refine (must_calls _ _ _).mono ?_
  rintro e w6 ⟨rfl, ⟨hh, rfl⟩ | ⟨hh, rfl⟩⟩
  rotate_left
  · exact Or.inr ⟨_, rfl, rfl, HB5.out.below.mono HPos.out.2, Or.inr ⟨by rw [setE, if_pos hh]; decide, by rw [setE, if_pos hh]⟩⟩
  refine Or.inl ⟨_, rfl, ?_⟩
  have HHas := Aside0.mk hh
  clear hh
  refine hK.out _ _ ⟨HB5.out.r0, HB5.out.r1, HB5.out.q1, HB5.out.q2⟩ (fun hHeld => ?_)
  clear hK K
  refine norm_ (a' := ?_) ?_ ?_
  rotate_left
  · show Act.put _ (some 11) _ = _
    simp only [Act.put, List.setIfInBounds_toArray, List.set_cons_zero, List.set_cons_succ, i64_w, i32_w]
    rfl
  refine done_ (by kernel_rfl) ?_
  clear hHeld q0 q1 q2 q3
  have q0 := HB5.out.r0
  have q1 := HB5.out.r1
  have q2 := HB5.out.q1
  have q3 := HB5.out.q2
  have HV5 := Aside0.mk ((HB5.out.below.block _ (blk_lt HV.out)).trans HV.out)
  have v0 : w5.cell? ⟨p3, 0, none⟩ = some (.int .u8 v.k) := (blk_cell HV5.out 0).trans rfl
  have v1 : w5.cell? ⟨p3, 1, none⟩ = some (.int .u64 v.b) := (blk_cell HV5.out 1).trans rfl
  have v2 : w5.cell? ⟨p3, 2, none⟩ = some (.int .i64 v.d) := (blk_cell HV5.out 2).trans rfl
  have v3 : w5.cell? ⟨p3, 3, none⟩ = some (.int .i64 v.s) := (blk_cell HV5.out 3).trans rfl
  have HFt := Aside0.mk (fun (W1 : World) (hB : Below W.heap.size W W1) => rfits_calls a t A2 c2 l d s v W1 (hI.out.below hB) (hasS_iff.1 HHas.out).1 (hasS_iff.1 HHas.out).2.1 Hs.out)
  have HXE := Aside0.mk (show setE t l d s v = fitsE t l d s v from if_neg (by rw [HHas.out]; decide))
  go_wp2_with fail
  refine start_ (n := 7) (S := fun w' => w'.cell? ⟨r, 0, none⟩ = some (.pointer (some ⟨a, 0, none⟩)) ∧ w'.cell? ⟨r, 1, none⟩ = some (.slice A2 l.length c2) ∧ w'.cell? ⟨p1, 0, none⟩ = some (.int .i64 d) ∧ w'.cell? ⟨p2, 0, none⟩ = some (.int .i64 s) ∧ w'.cell? ⟨p3, 0, none⟩ = some (.int .u8 v.k) ∧ w'.cell? ⟨p3, 1, none⟩ = some (.int .u64 v.b) ∧ w'.cell? ⟨p3, 2, none⟩ = some (.int .i64 v.d) ∧ w'.cell? ⟨p3, 3, none⟩ = some (.int .i64 v.s)) (ds := []) #[false, false, false, false, false, false, false] (by kernel_rfl) rfl rfl ⟨q0, q1, q2, q3, v0, v1, v2, v3⟩ (fun hHeld => ?_)
  refine pure_ (i := 0) (N := some 12) (v := ?_) (a' := ?_) #[true, false, false, false, false, false, false] rfl rfl (by kernel_rfl) (fun _ _ _ h => h) (Or.inl ⟨by rfl, ?_⟩) ?_ ?_
  rotate_left
  · intro w'
    go_simp
    with_reducible rfl
  rotate_left
  · simp only [Act.put, List.setIfInBounds_toArray, List.set_cons_zero, List.set_cons_succ, i64_w, i32_w]
    rfl
  refine pure_ (i := 1) (N := some 13) (v := ?_) (a' := ?_) #[true, true, false, false, false, false, false] rfl rfl (by kernel_rfl) (fun _ _ _ h => h) (Or.inl ⟨by rfl, ?_⟩) ?_ ?_
  rotate_left
  · intro w'
    go_simp
    with_reducible rfl
  rotate_left
  · simp only [Act.put, List.setIfInBounds_toArray, List.set_cons_zero, List.set_cons_succ, i64_w, i32_w]
    rfl
  refine take_ (i := 2) (N := some 14) (v := ?_) (a' := ?_) #[true, true, true, false, false, false, false] rfl rfl (by kernel_rfl) (fun _ _ _ h => h) (Or.inl ⟨by rfl, ?_⟩) hHeld ?_ ?_
  rotate_left
  · rintro w' ⟨s0, s1, s2, s3, s4, s5, s6, s7⟩
    go_simp
    with_reducible rfl
  rotate_left
  · simp only [Act.put, List.setIfInBounds_toArray, List.set_cons_zero, List.set_cons_succ, i64_w, i32_w]
    rfl
  refine take_ (i := 3) (N := some 15) (v := ?_) (a' := ?_) #[true, true, true, true, false, false, false] rfl rfl (by kernel_rfl) (fun _ _ _ h => h) (Or.inl ⟨by rfl, ?_⟩) hHeld ?_ ?_
  rotate_left
  · rintro w' ⟨s0, s1, s2, s3, s4, s5, s6, s7⟩
    go_simp
    with_reducible rfl
  rotate_left
  · simp only [Act.put, List.setIfInBounds_toArray, List.set_cons_zero, List.set_cons_succ, i64_w, i32_w]
    rfl
  refine take_ (i := 4) (N := some 16) (v := ?_) (a' := ?_) #[true, true, true, true, true, false, false] rfl rfl (by kernel_rfl) (fun _ _ _ h => h) (Or.inl ⟨by rfl, ?_⟩) hHeld ?_ ?_
  rotate_left
  · rintro w' ⟨s0, s1, s2, s3, s4, s5, s6, s7⟩
    go_simp
    with_reducible rfl
  rotate_left
  · simp only [Act.put, List.setIfInBounds_toArray, List.set_cons_zero, List.set_cons_succ, i64_w, i32_w]
    rfl
  refine take_ (i := 5) (N := some 17) (v := ?_) (a' := ?_) #[true, true, true, true, true, true, false] rfl rfl (by kernel_rfl) (fun _ _ _ h => h) (Or.inl ⟨by rfl, ?_⟩) hHeld ?_ ?_
  rotate_left
  · rintro w' ⟨s0, s1, s2, s3, s4, s5, s6, s7⟩
    go_simp
    with_reducible rfl
  rotate_left
  · simp only [Act.put, List.setIfInBounds_toArray, List.set_cons_zero, List.set_cons_succ, i64_w, i32_w]
    rfl
  refine one_ (i := 6) (N := some 18) #[true, true, true, true, true, true, true] rfl rfl (by kernel_rfl) (by decide) (fun K hK => ?_)
  show if _ = true then Oper.wp _ _ _ _ _ _ else _
  refine goesT_ Tryd.func96 (by kernel_rfl) rfl #[.agg #[.pointer (some ⟨a, 0, none⟩), .slice A2 l.length c2], .int .i64 d, .int .i64 s, .agg #[.int .u8 v.k, .int .u64 v.b, .int .i64 v.d, .int .i64 v.s]] (by rfl) rfl rfl (by simp only [List.map_toArray, List.map_cons, List.map_nil]; rfl) ?_
  with_reducible refine (HFt.out _ (below_drew HB5.out.below)).mono ?_
  rintro e w6 ⟨⟨hh, rfl⟩ | ⟨hh, rfl⟩, hB6⟩
  rotate_left
  · exact Or.inr ⟨_, rfl, rfl, (HB5.out.step (below_of_drew hB6)).below.mono HPos.out.2, Or.inr ⟨by rw [HXE.out]; exact hh, by rw [HXE.out]⟩⟩
  refine Or.inl ⟨_, rfl, ?_⟩
  have HFit := Aside0.mk hh
  have HB6 := Aside0.mk (HB5.out.step (below_of_drew hB6))
  have HV6 := Aside0.mk ((HB6.out.below.block _ (blk_lt HV.out)).trans HV.out)
  clear hh hB6
  refine hK.out _ _ ⟨HB6.out.r0, HB6.out.r1, HB6.out.q1, HB6.out.q2, ((blk_cell HV6.out 0).trans rfl), ((blk_cell HV6.out 1).trans rfl), ((blk_cell HV6.out 2).trans rfl), ((blk_cell HV6.out 3).trans rfl)⟩ (fun hHeld => ?_)
  clear hK K
  refine norm_ (a' := ?_) ?_ ?_
  rotate_left
  · show Act.put _ (some 18) _ = _
    simp only [Act.put, List.setIfInBounds_toArray, List.set_cons_zero, List.set_cons_succ, i64_w, i32_w]
    rfl
  refine done_ (by kernel_rfl) ?_
  clear hHeld q0 q1 q2 q3 v0 v1 v2 v3
  obtain ⟨ad, rfl⟩ : ∃ ad, A2 = some ad := by
    obtain ⟨ad, he, _⟩ := hI.out.rows.2.2 (by have := hasS_iff.1 HHas.out; omega)
    exact ⟨ad, he⟩
  obtain ⟨g1, c1, g3, hsc, hsf, hok, hBg, hlc, hst, hput⟩ := put_row (W := w6.drew) (Kd.S_drew (Kd.S_below HS.out HB6.out.below)) d s (hasS_iff.1 HHas.out).1 (hasS_iff.1 HHas.out).2.1 (hasS_iff.1 HHas.out).2.2.1 (hasS_iff.1 HHas.out).2.2.2
  have HPut := Aside0.mk hput
  have hst : (Instr.storeAt 26 (.pointer (some ⟨g1, s.toNat * 4, none⟩)) (.agg #[.int .u8 v.k, .int .u64 v.b, .int .i64 v.d, .int .i64 v.s])).run Tryd.prog w6.drew = .ok () (w6.drew.setCells g1 (s.toNat * 4) [.int .u8 v.k, .int .u64 v.b, .int .i64 v.d, .int .i64 v.s]) := hst _ 26 _ _ 0 rfl (by kernel_rfl) (by simp) (by simp [Value.oneCell'])
  have HG := Aside0.mk (And.intro hok hBg)
  have q0 := HB6.out.r0
  have q1 := HB6.out.r1
  have q2 := HB6.out.q1
  have q3 := HB6.out.q2
  have v0 : w6.cell? ⟨p3, 0, none⟩ = some (.int .u8 v.k) := (blk_cell HV6.out 0).trans rfl
  have v1 : w6.cell? ⟨p3, 1, none⟩ = some (.int .u64 v.b) := (blk_cell HV6.out 1).trans rfl
  have v2 : w6.cell? ⟨p3, 2, none⟩ = some (.int .i64 v.d) := (blk_cell HV6.out 2).trans rfl
  have v3 : w6.cell? ⟨p3, 3, none⟩ = some (.int .i64 v.s) := (blk_cell HV6.out 3).trans rfl
  have hd0 := (hasS_iff.1 HHas.out).1
  have hd1 := (hasS_iff.1 HHas.out).2.1
  have hs0 := (hasS_iff.1 HHas.out).2.2.1
  have hs1 := (hasS_iff.1 HHas.out).2.2.2
  have HC := Aside0.mk (And.intro hsc hsf)
  clear hput hok hBg hlc hsc hsf
  go_wp2_with fail
  refine start_ (n := 12) (S := fun w' => w'.cell? ⟨r, 1, none⟩ = some (.slice (some ad) l.length c2) ∧ w'.cell? ⟨p1, 0, none⟩ = some (.int .i64 d) ∧ w'.cell? ⟨p2, 0, none⟩ = some (.int .i64 s) ∧ w'.cell? ⟨p3, 0, none⟩ = some (.int .u8 v.k) ∧ w'.cell? ⟨p3, 1, none⟩ = some (.int .u64 v.b) ∧ w'.cell? ⟨p3, 2, none⟩ = some (.int .i64 v.d) ∧ w'.cell? ⟨p3, 3, none⟩ = some (.int .i64 v.s) ∧ w'.cell? ⟨(ad.add (d.toNat * 2)).block, (ad.add (d.toNat * 2)).off + 1, none⟩ = some (.slice (some ⟨g1, 0, none⟩) (fr l d).l.length c1)) (ds := [11]) #[false, false, false, false, false, false, false, false, false, false, false, false] (by kernel_rfl) rfl rfl ⟨q1, q2, q3, v0, v1, v2, v3, g3⟩ (fun hHeld => ?_)
  refine pure_ (i := 0) (N := some 19) (v := ?_) (a' := ?_) #[true, false, false, false, false, false, false, false, false, false, false, false] rfl rfl (by kernel_rfl) (fun _ _ _ h => h) (Or.inl ⟨by rfl, ?_⟩) ?_ ?_
  rotate_left
  · intro w'
    go_simp
    with_reducible rfl
  rotate_left
  · simp only [Act.put, List.setIfInBounds_toArray, List.set_cons_zero, List.set_cons_succ, i64_w, i32_w]
    rfl
  refine pure_ (i := 1) (N := some 20) (v := ?_) (a' := ?_) #[true, true, false, false, false, false, false, false, false, false, false, false] rfl rfl (by kernel_rfl) (fun _ _ _ h => h) (Or.inl ⟨by rfl, ?_⟩) ?_ ?_
  rotate_left
  · intro w'
    go_simp
    with_reducible rfl
  rotate_left
  · simp only [Act.put, List.setIfInBounds_toArray, List.set_cons_zero, List.set_cons_succ, i64_w, i32_w]
    rfl
  refine pure_ (i := 2) (N := some 21) (v := ?_) (a' := ?_) #[true, true, true, false, false, false, false, false, false, false, false, false] rfl rfl (by kernel_rfl) (fun _ _ _ h => h) (Or.inl ⟨by rfl, ?_⟩) ?_ ?_
  rotate_left
  · intro w'
    go_simp
    with_reducible rfl
  rotate_left
  · simp only [Act.put, List.setIfInBounds_toArray, List.set_cons_zero, List.set_cons_succ, i64_w, i32_w]
    rfl
  refine take_ (i := 3) (N := some 22) (v := ?_) (a' := ?_) #[true, true, true, true, false, false, false, false, false, false, false, false] rfl rfl (by kernel_rfl) (fun _ _ _ h => h) (Or.inl ⟨by rfl, ?_⟩) hHeld ?_ ?_
  rotate_left
  · rintro w' ⟨s0, s1, s2, s3, s4, s5, s6, s7⟩
    go_simp
    with_reducible rfl
  rotate_left
  · simp only [Act.put, List.setIfInBounds_toArray, List.set_cons_zero, List.set_cons_succ, i64_w, i32_w]
    rfl
  refine take_ (i := 4) (N := some 23) (v := ?_) (a' := ?_) #[true, true, true, true, true, false, false, false, false, false, false, false] rfl rfl (by kernel_rfl) (fun _ _ _ h => h) (Or.inl ⟨by rfl, ?_⟩) hHeld ?_ ?_
  rotate_left
  · rintro w' ⟨s0, s1, s2, s3, s4, s5, s6, s7⟩
    go_simp
    with_reducible rfl
  rotate_left
  · simp only [Act.put, List.setIfInBounds_toArray, List.set_cons_zero, List.set_cons_succ, i64_w, i32_w]
    rfl
  refine pure_ (i := 5) (N := some 24) (v := ?_) (a' := ?_) #[true, true, true, true, true, true, false, false, false, false, false, false] rfl rfl (by kernel_rfl) (fun _ _ _ h => h) (Or.inl ⟨by rfl, ?_⟩) ?_ ?_
  rotate_left
  · intro w'
    go_simp
    with_reducible rfl
  rotate_left
  · simp only [Act.put, List.setIfInBounds_toArray, List.set_cons_zero, List.set_cons_succ, i64_w, i32_w]
    rfl
  refine pure_ (i := 6) (N := some 25) (v := ?_) (a' := ?_) #[true, true, true, true, true, true, true, false, false, false, false, false] rfl rfl (by kernel_rfl) (fun _ _ _ h => h) (Or.inl ⟨by rfl, ?_⟩) ?_ ?_
  rotate_left
  · intro w'
    go_simp
    with_reducible rfl
  rotate_left
  · simp only [Act.put, List.setIfInBounds_toArray, List.set_cons_zero, List.set_cons_succ, i64_w, i32_w]
    rfl
  refine take_ (i := 7) (N := some 26) (v := ?_) (a' := ?_) #[true, true, true, true, true, true, true, true, false, false, false, false] rfl rfl (by kernel_rfl) (fun _ _ _ h => h) (Or.inl ⟨by rfl, ?_⟩) hHeld ?_ ?_
  rotate_left
  · rintro w' ⟨s0, s1, s2, s3, s4, s5, s6, s7⟩
    go_simp
    with_reducible rfl
  rotate_left
  · simp only [Act.put, List.setIfInBounds_toArray, List.set_cons_zero, List.set_cons_succ, i64_w, i32_w]
    rfl
  refine take_ (i := 8) (N := some 27) (v := ?_) (a' := ?_) #[true, true, true, true, true, true, true, true, true, false, false, false] rfl rfl (by kernel_rfl) (fun _ _ _ h => h) (Or.inl ⟨by rfl, ?_⟩) hHeld ?_ ?_
  rotate_left
  · rintro w' ⟨s0, s1, s2, s3, s4, s5, s6, s7⟩
    go_simp
    with_reducible rfl
  rotate_left
  · simp only [Act.put, List.setIfInBounds_toArray, List.set_cons_zero, List.set_cons_succ, i64_w, i32_w]
    rfl
  refine take_ (i := 9) (N := some 28) (v := ?_) (a' := ?_) #[true, true, true, true, true, true, true, true, true, true, false, false] rfl rfl (by kernel_rfl) (fun _ _ _ h => h) (Or.inl ⟨by rfl, ?_⟩) hHeld ?_ ?_
  rotate_left
  · rintro w' ⟨s0, s1, s2, s3, s4, s5, s6, s7⟩
    go_simp
    with_reducible rfl
  rotate_left
  · simp only [Act.put, List.setIfInBounds_toArray, List.set_cons_zero, List.set_cons_succ, i64_w, i32_w]
    rfl
  refine pure_ (i := 10) (N := some 29) (v := ?_) (a' := ?_) #[true, true, true, true, true, true, true, true, true, true, true, false] rfl rfl (by kernel_rfl) (fun _ _ _ h => h) (Or.inl ⟨by rfl, ?_⟩) ?_ ?_
  rotate_left
  · intro w'
    go_simp
    with_reducible rfl
  rotate_left
  · simp only [Act.put, List.setIfInBounds_toArray, List.set_cons_zero, List.set_cons_succ, i64_w, i32_w]
    rfl
  refine last_ (i := 11) (N := none) #[true, true, true, true, true, true, true, true, true, true, true, true] rfl rfl (by kernel_rfl) (by decide) (fun K hK => ?_)
  refine store_ (by rfl) rfl rfl rfl rfl hst ?_
  refine hK.out _ _ ?_
  clear hK K
  refine done_ (by kernel_rfl) ?_
  clear hHeld
  go_end0
  obtain ⟨hS9, hg9⟩ := HPut.out [.int .u8 v.k, .int .u64 v.b, .int .i64 v.d, .int .i64 v.s] 0 v (by simp) (by simp [Vl.cells])
  have hS9 : kFr.S 80 (w6.drew.setCells g1 (s.toNat * 4) [.int .u8 v.k, .int .u64 v.b, .int .i64 v.d, .int .i64 v.s]) B (fun k => k ≠ r) (.slice (some ad) l.length c2) (setRow l d s v) := hS9
  have hbe : Below B W (w6.drew.setCells g1 (s.toNat * 4) [.int .u8 v.k, .int .u64 v.b, .int .i64 v.d, .int .i64 v.s]) := below_setCells HG.out.2 _ _ (below_drew (HB6.out.below.mono HPos.out.2))
  rw [HXE.out, HFit.out]
  refine ⟨hbe, Or.inl ⟨rfl, rfl, some ad, c2, ?_, ?_, by rw [setRow_length]; exact hI.out.cap⟩⟩
  · rw [setRow_length]
    exact (hg9.block r (by have := blk_lt HB6.out.row; exact this) (fun he => HG.out.1 (by cases he; rfl))).trans HB6.out.row
  · rw [setRow_length]
    exact Kd.F_mono (Kd.R_F (Kd.R_bound (Kd.S_R hS9))) (fun k hk => hk.2.1)
end Go.Proofs.YtfaghjadjpiaiaaDoor.Sh
namespace Go.Proofs.YtfaghjadjpiaiaaDoor.Sh
open Go.RowKit Go.Shelf Go.Proofs.YtfaghjadjpiaiaaDoorW.PrintWords Go.Proofs.YtfaghjadjpiaiaaDoorW.PrintLast Go.Proofs.YtfaghjadjpiaiaaDoorW.PrintMore
set_option linter.unusedVariables false
set_option linter.unusedSimpArgs false
theorem results_c1 {P : Program} {fn : Func} {p : Tmp} {ty : TypeId} (h : fn.results = #[.cell p ty]) (tmps : Array Value) (w : World) (g : Nat) (t : TypeId) (cs : Array Value) (fr : Nat × Nat) (d : TypeDesc)
    (hp : tmps.getD p undef = .pointer (some ⟨g, 0, none⟩)) (hg : w.heap[g]? = some (.cells cs t fr))
    (hu : P.underlying ty = some d) (hd : (match d with | .struct _ | .array _ _ => true | _ => false) = true) (hi : (P.info? ty).map (·.size) = some cs.size) :
    (results fn tmps).run P w = .ok (.agg cs) w := by
  have hp' : tmps[p]?.getD undef = .pointer (some ⟨g, 0, none⟩) := by simpa using hp
  simp [results, h, hp', asAddr, run_loadVar_row w g t ty cs fr d hg hu hd hi]
/-- A struct's four cells, written. -/
theorem blk_set4 {w : World} {g t : Nat} {a0 a1 a2 a3 : Value} (b0 b1 b2 b3 : Value) (h : w.heap[g]? = some (.cells #[a0, a1, a2, a3] t (0, 0))) :
    ((((w.setCell ⟨g, 0, none⟩ b0).setCell ⟨g, 1, none⟩ b1).setCell ⟨g, 2, none⟩ b2).setCell ⟨g, 3, none⟩ b3).heap[g]? = some (.cells #[b0, b1, b2, b3] t (0, 0)) := by
  have h0 := blk_set h 0 b0
  have h1 := blk_set h0 1 b1
  have h2 := blk_set h1 2 b2
  have h3 := blk_set h2 3 b3
  simpa using h3
theorem below_set4 {w W : World} {B g : Nat} (b0 b1 b2 b3 : Value) (h : Below B w W) (hg : B ≤ g) : Below B w ((((W.setCell ⟨g, 0, none⟩ b0).setCell ⟨g, 1, none⟩ b1).setCell ⟨g, 2, none⟩ b2).setCell ⟨g, 3, none⟩ b3) :=
  (((h.setCell hg _).setCell hg _).setCell hg _).setCell hg _
def refE (t : List Ent) (l : List Fr) (d s : Int) : Int := if hasS l d s = false then 2 else if tPtr t (fr l d).f s = false then 5 else if (vl (fr l d).l s).k = 2 then 0 else 12
set_option maxRecDepth 100000 in
set_option maxHeartbeats 2000000 in
theorem refers_calls (a : Nat) (t : List Ent) (A : Option Addr) (c : Nat) (l : List Fr) (d s : Int) (w : World) (h : IsRow w a t A c l) (hs : I64 s) :
    Calls Tryd.prog 100 #[.agg #[.pointer (some ⟨a, 0, none⟩), .slice A l.length c], .int .i64 d, .int .i64 s] w fun e w' => Below w.heap.size w w' ∧ ((refE t l d s = 0 ∧ hasS l d s = true ∧ e = .returned (.agg #[.int .u8 (vl (fr l d).l s).k, .int .u64 (vl (fr l d).l s).b, .int .i64 (vl (fr l d).l s).d, .int .i64 (vl (fr l d).l s).s])) ∨ (refE t l d s ≠ 0 ∧ e = .panicked (Wrong (refE t l d s)))) := by
  have HI := Aside0.mk h
  have HB := Aside0.mk (FitW.start w a A l.length c zVl)
  have HH := Aside0.mk (fun (W : World) (hB : Below w.heap.size w W) => rhas_calls a t A c l d s W (h.below hB))
  have Hs := Aside0.mk hs
  clear h hs
  have q0 := HB.out.c0
  have q1 := HB.out.c1
  go_enter Tryd.func100, Tryd.ntmps100
  go_wp2_with first
    | (go_at_call 95
       refine (HH.out _ HB.out.below).mono ?_
       rintro e w2 ⟨rfl, hb⟩
       have HB2 := Aside0.mk (HB.out.step hb)
       clear hb q0 q1
       have q0 := HB2.out.c0
       have q1 := HB2.out.c1)
    | (go_at_call 102
       refine (rptr_calls a t A c l d s _ (HI.out.below HB2.out.below) HHas.out.1 HHas.out.2.1 Hs.out).mono ?_
       rintro e w3 ⟨rfl, hb⟩
       have HB3 := Aside0.mk (HB2.out.step hb)
       clear hb)
    | (go_at_call 88
       with_reducible refine (must_calls (hasS l d s) 2 _).mono ?_
       rintro e w6 ⟨rfl, ⟨hh, rfl⟩ | ⟨hh, rfl⟩⟩
       rotate_left
       · exact ⟨rfl, HB2.out.below, Or.inr ⟨by rw [refE, if_pos hh]; decide, by rw [refE, if_pos hh]⟩⟩
       have HHas := Aside0.mk (hasS_iff.1 hh)
       clear hh)
    | (go_at_call 88
       with_reducible refine (must_calls (tPtr t (fr l d).f s) 5 _).mono ?_
       rintro e w6 ⟨rfl, ⟨hh, rfl⟩ | ⟨hh, rfl⟩⟩
       rotate_left
       · have g1 : ¬ hasS l d s = false := by rw [hasS_iff.2 HHas.out]; decide
         exact ⟨rfl, HB3.out.below, Or.inr ⟨by rw [refE, if_neg g1, if_pos hh]; decide, by rw [refE, if_neg g1, if_pos hh]⟩⟩
       have HPtr := Aside0.mk hh
       clear hh q0 q1
       have q1 := HB3.out.c1
       obtain ⟨ad, A1, c1, rfl, e0, e1, el, eC⟩ := at_Fr (Kd.C_below HI.out.rows HB3.out.below) d HHas.out.1 HHas.out.2.1
       obtain ⟨ad1, rfl, f0, f1, f2, f3⟩ := at_Vl eC s HHas.out.2.2.1 HHas.out.2.2.2
       have HIn := HHas.out
       clear el eC e0)
    | (go_at_call 88
       with_reducible refine (must_calls ((vl (fr l d).l s).k == 2) 12 _).mono ?_
       rintro e w6 ⟨hw6, ⟨hh, rfl⟩ | ⟨hh, rfl⟩⟩
       rotate_left
       · have g1 : ¬ hasS l d s = false := by rw [hasS_iff.2 HHas.out]; decide
         have g2 : ¬ tPtr t (fr l d).f s = false := by rw [HPtr.out]; decide
         have g3 : ¬ (vl (fr l d).l s).k = 2 := by simpa using hh
         subst hw6
         exact ⟨rfl, (HB3.out.step (below_alloc (Below.refl _ _) _)).below, Or.inr ⟨by rw [refE, if_neg g1, if_neg g2, if_neg g3]; decide, by rw [refE, if_neg g1, if_neg g2, if_neg g3]⟩⟩
       have HK := Aside0.mk (show (vl (fr l d).l s).k = 2 by simpa using hh)
       have HB4 := Aside0.mk (HB3.out.step (below_alloc (Below.refl _ _) (.cells #[.int .u8 (vl (fr l d).l s).k, .int .u64 (vl (fr l d).l s).b, .int .i64 (vl (fr l d).l s).d, .int .i64 (vl (fr l d).l s).s] 26)))
       have hbk := heap_alloc_new w3 (.cells #[.int .u8 (vl (fr l d).l s).k, .int .u64 (vl (fr l d).l s).b, .int .i64 (vl (fr l d).l s).d, .int .i64 (vl (fr l d).l s).s] 26)
       rw [hw6] at hbk HB4
       have x0 := (blk_cell hbk 0).trans rfl
       have x1 := (blk_cell hbk 1).trans rfl
       have x2 := (blk_cell hbk 2).trans rfl
       have x3 := (blk_cell hbk 3).trans rfl
       have z0 := (blk_cell HB4.out.val 0).trans rfl
       have z1 := (blk_cell HB4.out.val 1).trans rfl
       have z2 := (blk_cell HB4.out.val 2).trans rfl
       have z3 := (blk_cell HB4.out.val 3).trans rfl
       have y0 := blk_frozen HB4.out.val 0
       have y1 := blk_frozen HB4.out.val 1
       have y2 := blk_frozen HB4.out.val 2
       have y3 := blk_frozen HB4.out.val 3
       clear hh q1 e1 f0 f1 f2 f3 HIn hw6 hbk)
  have hfin := blk_set4 (.int .u8 (vl (fr l d).l s).k) (.int .u64 (vl (fr l d).l s).b) (.int .i64 (vl (fr l d).l s).d) (.int .i64 (vl (fr l d).l s).s) HB4.out.val
  refine ⟨rfl, _, results_c1 Tryd.results100 _ _ (w.heap.size + 1) 26 _ (0, 0) _ rfl hfin Tryd.underlying26 rfl (by kernel_rfl), below_set4 _ _ _ _ HB4.out.below (Nat.le_succ _), Or.inl ⟨?_, hasS_iff.2 HHas.out, rfl⟩⟩
  have g1 : ¬ hasS l d s = false := by rw [hasS_iff.2 HHas.out]; decide
  have g2 : ¬ tPtr t (fr l d).f s = false := by rw [HPtr.out]; decide
  rw [refE, if_neg g1, if_neg g2, if_pos HK.out]
end Go.Proofs.YtfaghjadjpiaiaaDoor.Sh
namespace Go.Proofs.YtfaghjadjpiaiaaDoor.Sh
open Go.RowKit Go.Shelf Go.Proofs.YtfaghjadjpiaiaaDoorW.PrintWords Go.Proofs.YtfaghjadjpiaiaaDoorW.PrintLast Go.Proofs.YtfaghjadjpiaiaaDoorW.PrintMore
set_option linter.unusedVariables false
set_option linter.unusedSimpArgs false
theorem firstNZ_zero : ∀ {L : List Int}, firstNZ L = 0 → ∀ x ∈ L, x = 0
  | [], _, x, hx => by cases hx
  | y :: L, h, x, hx => by
    unfold firstNZ at h
    by_cases hy : y = 0
    · rw [if_pos hy] at h
      rcases List.mem_cons.1 hx with rfl | hx
      · exact hy
      · exact firstNZ_zero h x hx
    · rw [if_neg hy] at h
      exact absurd h hy
theorem right_parts {t : List Ent} {l : List Fr} (h : rightE t l = 0) : l.all (shapeOk t) = true ∧ ∀ x ∈ allErrs t l 0, x = 0 := by
  unfold rightE at h
  by_cases hs : l.all (shapeOk t) = true
  · rw [if_pos hs] at h
    exact ⟨hs, firstNZ_zero h⟩
  · rw [if_neg hs] at h
    exact absurd h (by decide)
theorem right_shape {t : List Ent} {l : List Fr} (h : rightE t l = 0) {f : Fr} (hf : f ∈ l) : 0 ≤ tSize t f.f ∧ tSize t f.f = (f.l.length : Int) := by
  have h2 := List.all_eq_true.1 (right_parts h).1 f hf
  unfold shapeOk at h2
  simpa using h2
theorem right_fits {t : List Ent} {l : List Fr} (h : rightE t l = 0) {d s : Int} (hh : hasS l d s = true) : fitsE t l d s (vl (fr l d).l s) = 0 := by
  obtain ⟨h0, h1, h2, h3⟩ := hasS_iff.1 hh
  refine (right_parts h).2 _ ?_
  unfold allErrs
  rw [List.mem_flatMap]
  refine ⟨d.toNat, by simp; omega, ?_⟩
  unfold slotErrs
  rw [List.mem_map]
  have e1 : ((d.toNat : Nat) : Int) = d := by omega
  have e2 : ((s.toNat : Nat) : Int) = s := by omega
  refine ⟨s.toNat, ?_, ?_⟩
  · rw [e1]; simp; omega
  · rw [e1, e2]
theorem right_ref {t : List Ent} {l : List Fr} (h : rightE t l = 0) {d s : Int} (hh : hasS l d s = true) (hk : (vl (fr l d).l s).k = 2) : hasS l (vl (fr l d).l s).d (vl (fr l d).l s).s = true := by
  have h2 := right_fits h hh
  unfold fitsE at h2
  by_cases g1 : mayV (vl (fr l d).l s) = false
  · rw [if_pos g1] at h2; exact absurd h2 (by decide)
  rw [if_neg g1] at h2
  by_cases g2 : (tPtr t (fr l d).f s == ((vl (fr l d).l s).k != 1)) = false
  · rw [if_pos g2] at h2; exact absurd h2 (by decide)
  rw [if_neg g2, if_pos hk] at h2
  by_cases g3 : hasS l (vl (fr l d).l s).d (vl (fr l d).l s).s = false
  · rw [if_pos g3] at h2; exact absurd h2 (by decide)
  simpa using g3
theorem refE_zero {t : List Ent} {l : List Fr} {d s : Int} (h : refE t l d s = 0) : hasS l d s = true ∧ tPtr t (fr l d).f s = true ∧ (vl (fr l d).l s).k = 2 := by
  unfold refE at h
  by_cases g1 : hasS l d s = false
  · rw [if_pos g1] at h; exact absurd h (by decide)
  rw [if_neg g1] at h
  by_cases g2 : tPtr t (fr l d).f s = false
  · rw [if_pos g2] at h; exact absurd h (by decide)
  rw [if_neg g2] at h
  by_cases g3 : (vl (fr l d).l s).k = 2
  · exact ⟨by simpa using g1, by simpa using g2, g3⟩
  · rw [if_neg g3] at h; exact absurd h (by decide)
def writeE (t : List Ent) (l : List Fr) (d s : Int) : Int := if refE t l d s = 0 then (if tPtr t (fr l (vl (fr l d).l s).d).f (vl (fr l d).l s).s = true then 5 else 0) else refE t l d s
def bitsV (v : Vl) (b : Int) : Vl := ⟨v.k, b, v.d, v.s⟩
def writeRow (l : List Fr) (d s b : Int) : List Fr := setRow l (vl (fr l d).l s).d (vl (fr l d).l s).s (bitsV (vl (fr l (vl (fr l d).l s).d).l (vl (fr l d).l s).s) b)
set_option maxRecDepth 100000 in
set_option maxHeartbeats 2000000 in
theorem write1_ok (w : World) (a p1 p2 p3 : Nat) (t : List Ent) (d s b : Int) (l : List Fr) (hT : IsTab w a t) (hA : AllE t) (hs : I64 s) (hr0 : rightE t l = 0)
    (b1 : w.heap[p1]? = some (.cells #[.int .i64 d] 3 (0, 0))) (b2 : w.heap[p2]? = some (.cells #[.int .i64 s] 3 (0, 0))) (b3 : w.heap[p3]? = some (.cells #[.int .u64 b] 24 (0, 0))) :
    HowOk w a l 101 #[.pointer (some ⟨p1, 0, none⟩), .pointer (some ⟨p2, 0, none⟩), .pointer (some ⟨p3, 0, none⟩)] (writeE t l d s) (writeRow l d s b) := by
  intro B r W A2 c2 hb hB hr hBW hrow hR
  show Calls _ _ #[.pointer (some ⟨r, 0, none⟩), .pointer (some ⟨p1, 0, none⟩), .pointer (some ⟨p2, 0, none⟩), .pointer (some ⟨p3, 0, none⟩)] _ _
  have HB := Aside0.mk (show BoxW W r a A2 l.length c2 p1 p2 d s W from ⟨hrow, (hb.block _ (blk_lt b1)).trans b1, (hb.block _ (blk_lt b2)).trans b2, Below.refl _ _⟩)
  have HV := Aside0.mk ((hb.block _ (blk_lt b3)).trans b3)
  have hI := Aside0.mk (show IsRow W a t A2 c2 l from ⟨hT.below hb, hA, (Kd.S_reads' hR).2.2, (Kd.S_reads' hR).2.1⟩)
  have HS := Aside0.mk hR
  have HF := Aside0.mk (fun (W1 : World) (hB : Below W.heap.size W W1) => refers_calls a t A2 c2 l d s W1 (hI.out.below hB) hs)
  have HPos := Aside0.mk (And.intro hr hBW)
  have HR0 := Aside0.mk hr0
  clear hb hB hr hBW hrow hR hT hA hs b1 b2 b3 hr0
  have q0 := HB.out.r0
  have q1 := HB.out.r1
  have q2 := HB.out.q1
  have q3 := HB.out.q2
  go_enter Tryd.func101, Tryd.ntmps101
  go_wp2_with fail
  refine start_ (n := 8) (S := fun w' => w'.cell? ⟨r, 0, none⟩ = some (.pointer (some ⟨a, 0, none⟩)) ∧ w'.cell? ⟨r, 1, none⟩ = some (.slice A2 l.length c2) ∧ w'.cell? ⟨p1, 0, none⟩ = some (.int .i64 d) ∧ w'.cell? ⟨p2, 0, none⟩ = some (.int .i64 s)) (ds := [7]) #[false, false, false, false, false, false, false, false] (by kernel_rfl) rfl rfl ⟨q0, q1, q2, q3⟩ (fun hHeld => ?_)
  refine pure_ (i := 0) (N := some 6) (v := ?_) (a' := ?_) #[true, false, false, false, false, false, false, false] rfl rfl (by kernel_rfl) (fun _ _ _ h => h) (Or.inl ⟨by rfl, ?_⟩) ?_ ?_
  rotate_left
  · intro w'
    go_simp
    with_reducible rfl
  rotate_left
  · simp only [Act.put, List.setIfInBounds_toArray, List.set_cons_zero, List.set_cons_succ, i64_w, i32_w]
    rfl
  refine pure_ (i := 1) (N := some 7) (v := ?_) (a' := ?_) #[true, true, false, false, false, false, false, false] rfl rfl (by kernel_rfl) (fun _ _ _ h => h) (Or.inl ⟨by rfl, ?_⟩) ?_ ?_
  rotate_left
  · intro w'
    go_simp
    with_reducible rfl
  rotate_left
  · simp only [Act.put, List.setIfInBounds_toArray, List.set_cons_zero, List.set_cons_succ, i64_w, i32_w]
    rfl
  refine take_ (i := 2) (N := some 8) (v := ?_) (a' := ?_) #[true, true, true, false, false, false, false, false] rfl rfl (by kernel_rfl) (fun _ _ _ h => h) (Or.inl ⟨by rfl, ?_⟩) hHeld ?_ ?_
  rotate_left
  · rintro w' ⟨s0, s1, s2, s3⟩
    go_simp
    with_reducible rfl
  rotate_left
  · simp only [Act.put, List.setIfInBounds_toArray, List.set_cons_zero, List.set_cons_succ, i64_w, i32_w]
    rfl
  refine take_ (i := 3) (N := some 9) (v := ?_) (a' := ?_) #[true, true, true, true, false, false, false, false] rfl rfl (by kernel_rfl) (fun _ _ _ h => h) (Or.inl ⟨by rfl, ?_⟩) hHeld ?_ ?_
  rotate_left
  · rintro w' ⟨s0, s1, s2, s3⟩
    go_simp
    with_reducible rfl
  rotate_left
  · simp only [Act.put, List.setIfInBounds_toArray, List.set_cons_zero, List.set_cons_succ, i64_w, i32_w]
    rfl
  refine take_ (i := 4) (N := some 10) (v := ?_) (a' := ?_) #[true, true, true, true, true, false, false, false] rfl rfl (by kernel_rfl) (fun _ _ _ h => h) (Or.inl ⟨by rfl, ?_⟩) hHeld ?_ ?_
  rotate_left
  · rintro w' ⟨s0, s1, s2, s3⟩
    go_simp
    with_reducible rfl
  rotate_left
  · simp only [Act.put, List.setIfInBounds_toArray, List.set_cons_zero, List.set_cons_succ, i64_w, i32_w]
    rfl
  refine join_ (σ := Nat) 1 #[true, true, true, true, true, true, true, false] (fun s_ => [(11, .agg #[.int .u8 (vl (fr l d).l s).k, .int .u64 (vl (fr l d).l s).b, .int .i64 (vl (fr l d).l s).d, .int .i64 (vl (fr l d).l s).s]), (5, .pointer (some ⟨s_, 0, none⟩))]) (fun s_ w' => (w'.cell? ⟨r, 0, none⟩ = some (.pointer (some ⟨a, 0, none⟩)) ∧ w'.cell? ⟨r, 1, none⟩ = some (.slice A2 l.length c2) ∧ w'.cell? ⟨p1, 0, none⟩ = some (.int .i64 d) ∧ w'.cell? ⟨p2, 0, none⟩ = some (.int .i64 s)) ∧ Aside0 (Below W.heap.size W w') ∧ Aside0 (refE t l d s = 0) ∧ Aside0 (w'.heap[s_]? = some (.cells #[.int .u8 0, .int .u64 0, .int .i64 0, .int .i64 0] 26 (0, 0))) ∧ Aside0 (W.heap.size ≤ s_)) ?_ ?_
  rotate_left
  · intro hCont
    refine two_ (i := 5) (j := 6) (Ni := some 11) (Nj := some 5) #[true, true, true, true, true, true, false, false] #[true, true, true, true, true, false, true, false] rfl rfl rfl rfl (by kernel_rfl) (by decide) (by decide) (fun K hK => ?_) (fun K hK => ?_)
    · skip
      show if _ = true then Oper.wp _ _ _ _ _ _ else _
      refine goesT_ Tryd.func100 (by kernel_rfl) rfl #[.agg #[.pointer (some ⟨a, 0, none⟩), .slice A2 l.length c2], .int .i64 d, .int .i64 s] (by rfl) rfl rfl (by simp only [List.map_toArray, List.map_cons, List.map_nil]; rfl) ?_
      with_reducible refine (HF.out _ (below_drew (Below.refl _ _))).mono ?_
      rintro e w6 ⟨hB6, ⟨hh, hx, rfl⟩ | ⟨hh, rfl⟩⟩
      rotate_left
      · exact Or.inr ⟨_, rfl, rfl, (HB.out.step (below_of_drew hB6)).below.mono HPos.out.2, Or.inr ⟨by rw [writeE, if_neg hh]; exact hh, by rw [writeE, if_neg hh]⟩⟩
      refine Or.inl ⟨_, rfl, ?_⟩
      have HZ := Aside0.mk hh
      have HB6 := Aside0.mk (HB.out.step (below_of_drew hB6))
      clear hh hx hB6
      refine hK.out _ _ ⟨HB6.out.r0, HB6.out.r1, HB6.out.q1, HB6.out.q2⟩ (fun hHeld => ?_)
      clear hK K
      refine norm_ (a' := ?_) ?_ ?_
      rotate_left
      · show Act.put _ (some 11) _ = _
        simp only [Act.put, List.setIfInBounds_toArray, List.set_cons_zero, List.set_cons_succ, i64_w, i32_w]
        rfl
      refine one_ (i := 6) (N := some 5) #[true, true, true, true, true, true, true, false] rfl rfl (by kernel_rfl) (by decide) (fun K hK => ?_)
      refine value_ (w1 := ?_) (v := ?_) (by rfl) rfl ?_ ?_
      rotate_left 2
      · go_simp
        constructor
        · rfl
        · rfl
      refine hK.out _ _ ⟨(pw_cell_below (below_alloc (Below.refl _ _) _) HB6.out.r0), (pw_cell_below (below_alloc (Below.refl _ _) _) HB6.out.r1), (pw_cell_below (below_alloc (Below.refl _ _) _) HB6.out.q1), (pw_cell_below (below_alloc (Below.refl _ _) _) HB6.out.q2)⟩ (fun hHeld => ?_)
      clear hK K
      refine norm_ (a' := ?_) ?_ ?_
      rotate_left
      · show Act.put _ (some 5) _ = _
        simp only [Act.put, List.setIfInBounds_toArray, List.set_cons_zero, List.set_cons_succ, i64_w, i32_w]
        rfl
      exact norm_ (by simp only [putAll, Act.put, List.setIfInBounds_toArray, List.set_cons_zero, List.set_cons_succ]) (hCont w6.heap.size _ ⟨hHeld, ⟨below_alloc HB6.out.below _⟩, HZ, ⟨heap_alloc_new w6 _⟩, ⟨HB6.out.below.size⟩⟩)
    · skip
      refine value_ (w1 := ?_) (v := ?_) (by rfl) rfl ?_ ?_
      rotate_left 2
      · go_simp
        constructor
        · rfl
        · rfl
      refine hK.out _ _ ⟨(pw_cell_below (below_alloc (Below.refl _ _) _) q0), (pw_cell_below (below_alloc (Below.refl _ _) _) q1), (pw_cell_below (below_alloc (Below.refl _ _) _) q2), (pw_cell_below (below_alloc (Below.refl _ _) _) q3)⟩ (fun hHeld => ?_)
      clear hK K
      refine norm_ (a' := ?_) ?_ ?_
      rotate_left
      · show Act.put _ (some 5) _ = _
        simp only [Act.put, List.setIfInBounds_toArray, List.set_cons_zero, List.set_cons_succ, i64_w, i32_w]
        rfl
      refine one_ (i := 5) (N := some 11) #[true, true, true, true, true, true, true, false] rfl rfl (by kernel_rfl) (by decide) (fun K hK => ?_)
      show if _ = true then Oper.wp _ _ _ _ _ _ else _
      refine goesT_ Tryd.func100 (by kernel_rfl) rfl #[.agg #[.pointer (some ⟨a, 0, none⟩), .slice A2 l.length c2], .int .i64 d, .int .i64 s] (by rfl) rfl rfl (by simp only [List.map_toArray, List.map_cons, List.map_nil]; rfl) ?_
      with_reducible refine (HF.out _ (below_drew (below_alloc (Below.refl _ _) _))).mono ?_
      rintro e w6 ⟨hB6, ⟨hh, hx, rfl⟩ | ⟨hh, rfl⟩⟩
      rotate_left
      · exact Or.inr ⟨_, rfl, rfl, (HB.out.step (below_then (below_drew (below_alloc (Below.refl _ _) _)) (by simp) hB6)).below.mono HPos.out.2, Or.inr ⟨by rw [writeE, if_neg hh]; exact hh, by rw [writeE, if_neg hh]⟩⟩
      refine Or.inl ⟨_, rfl, ?_⟩
      have HZ := Aside0.mk hh
      have HB6 := Aside0.mk (HB.out.step (below_then (below_drew (below_alloc (Below.refl _ _) _)) (by simp) hB6))
      have HNew := Aside0.mk ((hB6.block W.heap.size (by simp)).trans (heap_alloc_new W _))
      clear hh hx hB6
      refine hK.out _ _ ⟨HB6.out.r0, HB6.out.r1, HB6.out.q1, HB6.out.q2⟩ (fun hHeld => ?_)
      clear hK K
      refine norm_ (a' := ?_) ?_ ?_
      rotate_left
      · show Act.put _ (some 11) _ = _
        simp only [Act.put, List.setIfInBounds_toArray, List.set_cons_zero, List.set_cons_succ, i64_w, i32_w]
        rfl
      exact norm_ (by simp only [putAll, Act.put, List.setIfInBounds_toArray, List.set_cons_zero, List.set_cons_succ]) (hCont W.heap.size _ ⟨hHeld, ⟨HB6.out.below⟩, HZ, ⟨HNew.out⟩, ⟨Nat.le_refl _⟩⟩)
  rintro s_ w7 ⟨hHeld, HB7, HZ, HNew, HGe⟩
  have z0 := (blk_cell HNew.out 0).trans rfl
  have z1 := (blk_cell HNew.out 1).trans rfl
  have z2 := (blk_cell HNew.out 2).trans rfl
  have z3 := (blk_cell HNew.out 3).trans rfl
  have y0 := blk_frozen HNew.out 0
  have y1 := blk_frozen HNew.out 1
  have y2 := blk_frozen HNew.out 2
  have y3 := blk_frozen HNew.out 3
  refine norm_ (a' := ?_) ?_ ?_
  rotate_left
  · simp only [putAll, Act.put, List.setIfInBounds_toArray, List.set_cons_zero, List.set_cons_succ]
    rfl
  refine last_ (i := 7) (N := none) #[true, true, true, true, true, true, true, true] rfl rfl (by kernel_rfl) (by decide) (fun K hK => ?_)
  refine skip_ (w1 := ?_) (by rfl) rfl ?_ ?_
  rotate_left
  · go_simp
    rfl
  refine hK.out _ _ ?_
  clear hK K
  refine done_ (by kernel_rfl) ?_
  have hb8 := below_set4 (.int .u8 (vl (fr l d).l s).k) (.int .u64 (vl (fr l d).l s).b) (.int .i64 (vl (fr l d).l s).d) (.int .i64 (vl (fr l d).l s).s) HB7.out HGe.out
  have hn8 := blk_set4 (.int .u8 (vl (fr l d).l s).k) (.int .u64 (vl (fr l d).l s).b) (.int .i64 (vl (fr l d).l s).d) (.int .i64 (vl (fr l d).l s).s) HNew.out
  generalize ((((w7.setCell ⟨s_, 0, none⟩ (.int .u8 (vl (fr l d).l s).k)).setCell ⟨s_, 1, none⟩ (.int .u64 (vl (fr l d).l s).b)).setCell ⟨s_, 2, none⟩ (.int .i64 (vl (fr l d).l s).d)).setCell ⟨s_, 3, none⟩ (.int .i64 (vl (fr l d).l s).s)) = w8 at *
  clear q0 q1 q2 q3 z0 z1 z2 z3 y0 y1 y2 y3 hHeld HNew HB7 w7
  have HB8 := Aside0.mk (HB.out.step hb8)
  have HN8 := Aside0.mk hn8
  have hz := refE_zero HZ.out
  have hh2 := right_ref HR0.out hz.1 hz.2.2
  have HH2 := Aside0.mk hh2
  have HI2 := Aside0.mk (show I64 (vl (fr l d).l s).s from by
    have h3 := hasS_iff.1 hh2
    have h4 := (Kd.S_R HS.out)
    obtain ⟨ad, A1, c1, _, _, _, _, hC⟩ := at_Fr hI.out.rows _ h3.1 h3.2.1
    have := hC.2.1
    exact ⟨by omega, by omega⟩)
  have q0 := HB8.out.r0
  have q1 := HB8.out.r1
  have n2 : w8.cell? ⟨s_, 2, none⟩ = some (.int .i64 (vl (fr l d).l s).d) := (blk_cell hn8 2).trans rfl
  have n3 : w8.cell? ⟨s_, 3, none⟩ = some (.int .i64 (vl (fr l d).l s).s) := (blk_cell hn8 3).trans rfl
  have HWE := Aside0.mk (show writeE t l d s = if tPtr t (fr l (vl (fr l d).l s).d).f (vl (fr l d).l s).s = true then 5 else 0 from if_pos HZ.out)
  have HWR := Aside0.mk (show writeRow l d s b = setRow l (vl (fr l d).l s).d (vl (fr l d).l s).s (bitsV (vl (fr l (vl (fr l d).l s).d).l (vl (fr l d).l s).s) b) from rfl)
  generalize writeE t l d s = xE at *
  generalize writeRow l d s b = xR at *
  generalize vl (fr l d).l s = v at *
  have HP := Aside0.mk (fun (W1 : World) (hB : Below W.heap.size W W1) => rptr_calls a t A2 c2 l v.d v.s W1 (hI.out.below hB) (hasS_iff.1 HH2.out).1 (hasS_iff.1 HH2.out).2.1 HI2.out)
  clear hb8 hn8 hz hh2 HF
  go_wp2_with fail
  refine start_ (n := 10) (S := fun w' => w'.cell? ⟨r, 0, none⟩ = some (.pointer (some ⟨a, 0, none⟩)) ∧ w'.cell? ⟨r, 1, none⟩ = some (.slice A2 l.length c2) ∧ w'.cell? ⟨s_, 2, none⟩ = some (.int .i64 v.d) ∧ w'.cell? ⟨s_, 3, none⟩ = some (.int .i64 v.s)) (ds := []) #[false, false, false, false, false, false, false, false, false, false] (by kernel_rfl) rfl rfl ⟨q0, q1, n2, n3⟩ (fun hHeld => ?_)
  refine pure_ (i := 0) (N := some 12) (v := ?_) (a' := ?_) #[true, false, false, false, false, false, false, false, false, false] rfl rfl (by kernel_rfl) (fun _ _ _ h => h) (Or.inl ⟨by rfl, ?_⟩) ?_ ?_
  rotate_left
  · intro w'
    go_simp
    with_reducible rfl
  rotate_left
  · simp only [Act.put, List.setIfInBounds_toArray, List.set_cons_zero, List.set_cons_succ, i64_w, i32_w]
    rfl
  refine pure_ (i := 1) (N := some 13) (v := ?_) (a' := ?_) #[true, true, false, false, false, false, false, false, false, false] rfl rfl (by kernel_rfl) (fun _ _ _ h => h) (Or.inl ⟨by rfl, ?_⟩) ?_ ?_
  rotate_left
  · intro w'
    go_simp
    with_reducible rfl
  rotate_left
  · simp only [Act.put, List.setIfInBounds_toArray, List.set_cons_zero, List.set_cons_succ, i64_w, i32_w]
    rfl
  refine pure_ (i := 3) (N := some 15) (v := ?_) (a' := ?_) #[true, true, false, true, false, false, false, false, false, false] rfl rfl (by kernel_rfl) (fun _ _ _ h => h) (Or.inl ⟨by rfl, ?_⟩) ?_ ?_
  rotate_left
  · intro w'
    go_simp
    with_reducible rfl
  rotate_left
  · simp only [Act.put, List.setIfInBounds_toArray, List.set_cons_zero, List.set_cons_succ, i64_w, i32_w]
    rfl
  refine pure_ (i := 5) (N := some 17) (v := ?_) (a' := ?_) #[true, true, false, true, false, true, false, false, false, false] rfl rfl (by kernel_rfl) (fun _ _ _ h => h) (Or.inl ⟨by rfl, ?_⟩) ?_ ?_
  rotate_left
  · intro w'
    go_simp
    with_reducible rfl
  rotate_left
  · simp only [Act.put, List.setIfInBounds_toArray, List.set_cons_zero, List.set_cons_succ, i64_w, i32_w]
    rfl
  refine take_ (i := 2) (N := some 14) (v := ?_) (a' := ?_) #[true, true, true, true, false, true, false, false, false, false] rfl rfl (by kernel_rfl) (fun _ _ _ h => h) (Or.inl ⟨by rfl, ?_⟩) hHeld ?_ ?_
  rotate_left
  · rintro w' ⟨s0, s1, s2, s3⟩
    go_simp
    with_reducible rfl
  rotate_left
  · simp only [Act.put, List.setIfInBounds_toArray, List.set_cons_zero, List.set_cons_succ, i64_w, i32_w]
    rfl
  refine take_ (i := 4) (N := some 16) (v := ?_) (a' := ?_) #[true, true, true, true, true, true, false, false, false, false] rfl rfl (by kernel_rfl) (fun _ _ _ h => h) (Or.inl ⟨by rfl, ?_⟩) hHeld ?_ ?_
  rotate_left
  · rintro w' ⟨s0, s1, s2, s3⟩
    go_simp
    with_reducible rfl
  rotate_left
  · simp only [Act.put, List.setIfInBounds_toArray, List.set_cons_zero, List.set_cons_succ, i64_w, i32_w]
    rfl
  refine take_ (i := 6) (N := some 18) (v := ?_) (a' := ?_) #[true, true, true, true, true, true, true, false, false, false] rfl rfl (by kernel_rfl) (fun _ _ _ h => h) (Or.inl ⟨by rfl, ?_⟩) hHeld ?_ ?_
  rotate_left
  · rintro w' ⟨s0, s1, s2, s3⟩
    go_simp
    with_reducible rfl
  rotate_left
  · simp only [Act.put, List.setIfInBounds_toArray, List.set_cons_zero, List.set_cons_succ, i64_w, i32_w]
    rfl
  refine one_ (i := 7) (N := some 19) #[true, true, true, true, true, true, true, true, false, false] rfl rfl (by kernel_rfl) (by decide) (fun K hK => ?_)
  refine goes_ Tryd.func102 (by kernel_rfl) rfl #[.agg #[.pointer (some ⟨a, 0, none⟩), .slice A2 l.length c2], .int .i64 v.d, .int .i64 v.s] (by rfl) rfl rfl (by simp only [List.map_toArray, List.map_cons, List.map_nil]; rfl) ?_
  with_reducible refine (HP.out _ (below_drew HB8.out.below)).mono ?_
  rintro e w9 ⟨rfl, hB9⟩
  refine ⟨_, rfl, ?_⟩
  have HB9 := Aside0.mk (HB8.out.step (below_of_drew hB9))
  have HN9 := Aside0.mk (((below_of_drew hB9).block _ (blk_lt HN8.out)).trans HN8.out)
  clear hB9
  refine hK.out _ _ ⟨HB9.out.r0, HB9.out.r1, ((blk_cell HN9.out 2).trans rfl), ((blk_cell HN9.out 3).trans rfl)⟩ (fun hHeld => ?_)
  clear hK K
  refine norm_ (a' := ?_) ?_ ?_
  rotate_left
  · show Act.put _ (some 19) _ = _
    simp only [Act.put, List.setIfInBounds_toArray, List.set_cons_zero, List.set_cons_succ, i64_w, i32_w]
    rfl
  refine pure_ (i := 8) (N := some 20) (v := ?_) (a' := ?_) #[true, true, true, true, true, true, true, true, true, false] rfl rfl (by kernel_rfl) (fun _ _ _ h => h) (Or.inl ⟨by rfl, ?_⟩) ?_ ?_
  rotate_left
  · intro w'
    go_simp
    with_reducible rfl
  rotate_left
  · simp only [Act.put, List.setIfInBounds_toArray, List.set_cons_zero, List.set_cons_succ, i64_w, i32_w]
    rfl
  refine one_ (i := 9) (N := some 21) #[true, true, true, true, true, true, true, true, true, true] rfl rfl (by kernel_rfl) (by decide) (fun K hK => ?_)
  show if _ = true then Oper.wp _ _ _ _ _ _ else _
  refine goesT_ Tryd.func88 (by kernel_rfl) rfl #[.bool (!tPtr t (fr l v.d).f v.s), .int .i64 5] (by rfl) rfl rfl (by simp only [List.map_toArray, List.map_cons, List.map_nil]; rfl) ?_
  with_reducible refine (must_calls _ _ _).mono ?_
  rintro e w10 ⟨rfl, ⟨hh, rfl⟩ | ⟨hh, rfl⟩⟩
  rotate_left
  · exact Or.inr ⟨_, rfl, rfl, HB9.out.below.mono HPos.out.2, Or.inr ⟨by rw [HWE.out, if_pos (by simpa using hh)]; decide, by rw [HWE.out, if_pos (by simpa using hh)]⟩⟩
  refine Or.inl ⟨_, rfl, ?_⟩
  have HPt := Aside0.mk (show ¬ tPtr t (fr l v.d).f v.s = true by simpa using hh)
  clear hh
  refine hK.out _ _ ⟨HB9.out.r0, HB9.out.r1, ((blk_cell HN9.out 2).trans rfl), ((blk_cell HN9.out 3).trans rfl)⟩ (fun hHeld => ?_)
  clear hK K
  refine norm_ (a' := ?_) ?_ ?_
  rotate_left
  · show Act.put _ (some 21) _ = _
    simp only [Act.put, List.setIfInBounds_toArray, List.set_cons_zero, List.set_cons_succ, i64_w, i32_w]
    rfl
  refine done_ (by kernel_rfl) ?_
  clear hHeld q0 q1 n2 n3
  have HV9 := Aside0.mk ((HB9.out.below.block _ (blk_lt HV.out)).trans HV.out)
  have hd0 := (hasS_iff.1 HH2.out).1
  have hd1 := (hasS_iff.1 HH2.out).2.1
  have hs0 := (hasS_iff.1 HH2.out).2.2.1
  have hs1 := (hasS_iff.1 HH2.out).2.2.2
  obtain ⟨ad, rfl⟩ : ∃ ad, A2 = some ad := by
    obtain ⟨ad, he, _⟩ := hI.out.rows.2.2 (by omega)
    exact ⟨ad, he⟩
  obtain ⟨g1, c1, g3, hsc, hsf, hok, hBg, hlc, hst, hput⟩ := put_row (W := w9.drew) (Kd.S_drew (Kd.S_below HS.out HB9.out.below)) v.d v.s hd0 hd1 hs0 hs1
  have HPut := Aside0.mk hput
  have hst : (Instr.storeAt 24 (.pointer (some ⟨g1, v.s.toNat * 4 + 1, none⟩)) (.int .u64 b)).run Tryd.prog w9.drew = .ok () (w9.drew.setCells g1 (v.s.toNat * 4 + 1) [.int .u64 b]) := hst _ 24 _ _ 1 rfl (by kernel_rfl) (by simp) (by simp [Value.oneCell'])
  have HG := Aside0.mk (And.intro hok hBg)
  have q1 := HB9.out.r1
  have v0 : w9.cell? ⟨p3, 0, none⟩ = some (.int .u64 b) := (blk_cell HV9.out 0).trans rfl
  have n2 : w9.cell? ⟨s_, 2, none⟩ = some (.int .i64 v.d) := (blk_cell HN9.out 2).trans rfl
  have n3 : w9.cell? ⟨s_, 3, none⟩ = some (.int .i64 v.s) := (blk_cell HN9.out 3).trans rfl
  clear hput hok hBg hlc hsc hsf
  go_wp2_with fail
  refine start_ (n := 15) (S := fun w' => w'.cell? ⟨r, 1, none⟩ = some (.slice (some ad) l.length c2) ∧ w'.cell? ⟨s_, 2, none⟩ = some (.int .i64 v.d) ∧ w'.cell? ⟨s_, 3, none⟩ = some (.int .i64 v.s) ∧ w'.cell? ⟨p3, 0, none⟩ = some (.int .u64 b) ∧ w'.cell? ⟨(ad.add (v.d.toNat * 2)).block, (ad.add (v.d.toNat * 2)).off + 1, none⟩ = some (.slice (some ⟨g1, 0, none⟩) (fr l v.d).l.length c1)) (ds := [14]) #[false, false, false, false, false, false, false, false, false, false, false, false, false, false, false] (by kernel_rfl) rfl rfl ⟨q1, n2, n3, v0, g3⟩ (fun hHeld => ?_)
  refine pure_ (i := 0) (N := some 22) (v := ?_) (a' := ?_) #[true, false, false, false, false, false, false, false, false, false, false, false, false, false, false] rfl rfl (by kernel_rfl) (fun _ _ _ h => h) (Or.inl ⟨by rfl, ?_⟩) ?_ ?_
  rotate_left
  · intro w'
    go_simp
    with_reducible rfl
  rotate_left
  · simp only [Act.put, List.setIfInBounds_toArray, List.set_cons_zero, List.set_cons_succ, i64_w, i32_w]
    rfl
  refine pure_ (i := 1) (N := some 23) (v := ?_) (a' := ?_) #[true, true, false, false, false, false, false, false, false, false, false, false, false, false, false] rfl rfl (by kernel_rfl) (fun _ _ _ h => h) (Or.inl ⟨by rfl, ?_⟩) ?_ ?_
  rotate_left
  · intro w'
    go_simp
    with_reducible rfl
  rotate_left
  · simp only [Act.put, List.setIfInBounds_toArray, List.set_cons_zero, List.set_cons_succ, i64_w, i32_w]
    rfl
  refine pure_ (i := 2) (N := some 24) (v := ?_) (a' := ?_) #[true, true, true, false, false, false, false, false, false, false, false, false, false, false, false] rfl rfl (by kernel_rfl) (fun _ _ _ h => h) (Or.inl ⟨by rfl, ?_⟩) ?_ ?_
  rotate_left
  · intro w'
    go_simp
    with_reducible rfl
  rotate_left
  · simp only [Act.put, List.setIfInBounds_toArray, List.set_cons_zero, List.set_cons_succ, i64_w, i32_w]
    rfl
  refine pure_ (i := 4) (N := some 26) (v := ?_) (a' := ?_) #[true, true, true, false, true, false, false, false, false, false, false, false, false, false, false] rfl rfl (by kernel_rfl) (fun _ _ _ h => h) (Or.inl ⟨by rfl, ?_⟩) ?_ ?_
  rotate_left
  · intro w'
    go_simp
    with_reducible rfl
  rotate_left
  · simp only [Act.put, List.setIfInBounds_toArray, List.set_cons_zero, List.set_cons_succ, i64_w, i32_w]
    rfl
  refine pure_ (i := 9) (N := some 31) (v := ?_) (a' := ?_) #[true, true, true, false, true, false, false, false, false, true, false, false, false, false, false] rfl rfl (by kernel_rfl) (fun _ _ _ h => h) (Or.inl ⟨by rfl, ?_⟩) ?_ ?_
  rotate_left
  · intro w'
    go_simp
    with_reducible rfl
  rotate_left
  · simp only [Act.put, List.setIfInBounds_toArray, List.set_cons_zero, List.set_cons_succ, i64_w, i32_w]
    rfl
  refine take_ (i := 3) (N := some 25) (v := ?_) (a' := ?_) #[true, true, true, true, true, false, false, false, false, true, false, false, false, false, false] rfl rfl (by kernel_rfl) (fun _ _ _ h => h) (Or.inl ⟨by rfl, ?_⟩) hHeld ?_ ?_
  rotate_left
  · rintro w' ⟨s0, s1, s2, s3, s4⟩
    go_simp
    with_reducible rfl
  rotate_left
  · simp only [Act.put, List.setIfInBounds_toArray, List.set_cons_zero, List.set_cons_succ, i64_w, i32_w]
    rfl
  refine take_ (i := 5) (N := some 27) (v := ?_) (a' := ?_) #[true, true, true, true, true, true, false, false, false, true, false, false, false, false, false] rfl rfl (by kernel_rfl) (fun _ _ _ h => h) (Or.inl ⟨by rfl, ?_⟩) hHeld ?_ ?_
  rotate_left
  · rintro w' ⟨s0, s1, s2, s3, s4⟩
    go_simp
    with_reducible rfl
  rotate_left
  · simp only [Act.put, List.setIfInBounds_toArray, List.set_cons_zero, List.set_cons_succ, i64_w, i32_w]
    rfl
  refine pure_ (i := 6) (N := some 28) (v := ?_) (a' := ?_) #[true, true, true, true, true, true, true, false, false, true, false, false, false, false, false] rfl rfl (by kernel_rfl) (fun _ _ _ h => h) (Or.inl ⟨by rfl, ?_⟩) ?_ ?_
  rotate_left
  · intro w'
    go_simp
    with_reducible rfl
  rotate_left
  · simp only [Act.put, List.setIfInBounds_toArray, List.set_cons_zero, List.set_cons_succ, i64_w, i32_w]
    rfl
  refine pure_ (i := 7) (N := some 29) (v := ?_) (a' := ?_) #[true, true, true, true, true, true, true, true, false, true, false, false, false, false, false] rfl rfl (by kernel_rfl) (fun _ _ _ h => h) (Or.inl ⟨by rfl, ?_⟩) ?_ ?_
  rotate_left
  · intro w'
    go_simp
    with_reducible rfl
  rotate_left
  · simp only [Act.put, List.setIfInBounds_toArray, List.set_cons_zero, List.set_cons_succ, i64_w, i32_w]
    rfl
  refine take_ (i := 8) (N := some 30) (v := ?_) (a' := ?_) #[true, true, true, true, true, true, true, true, true, true, false, false, false, false, false] rfl rfl (by kernel_rfl) (fun _ _ _ h => h) (Or.inl ⟨by rfl, ?_⟩) hHeld ?_ ?_
  rotate_left
  · rintro w' ⟨s0, s1, s2, s3, s4⟩
    go_simp
    with_reducible rfl
  rotate_left
  · simp only [Act.put, List.setIfInBounds_toArray, List.set_cons_zero, List.set_cons_succ, i64_w, i32_w]
    rfl
  refine take_ (i := 10) (N := some 32) (v := ?_) (a' := ?_) #[true, true, true, true, true, true, true, true, true, true, true, false, false, false, false] rfl rfl (by kernel_rfl) (fun _ _ _ h => h) (Or.inl ⟨by rfl, ?_⟩) hHeld ?_ ?_
  rotate_left
  · rintro w' ⟨s0, s1, s2, s3, s4⟩
    go_simp
    with_reducible rfl
  rotate_left
  · simp only [Act.put, List.setIfInBounds_toArray, List.set_cons_zero, List.set_cons_succ, i64_w, i32_w]
    rfl
  refine take_ (i := 11) (N := some 33) (v := ?_) (a' := ?_) #[true, true, true, true, true, true, true, true, true, true, true, true, false, false, false] rfl rfl (by kernel_rfl) (fun _ _ _ h => h) (Or.inl ⟨by rfl, ?_⟩) hHeld ?_ ?_
  rotate_left
  · rintro w' ⟨s0, s1, s2, s3, s4⟩
    go_simp
    with_reducible rfl
  rotate_left
  · simp only [Act.put, List.setIfInBounds_toArray, List.set_cons_zero, List.set_cons_succ, i64_w, i32_w]
    rfl
  refine pure_ (i := 12) (N := some 34) (v := ?_) (a' := ?_) #[true, true, true, true, true, true, true, true, true, true, true, true, true, false, false] rfl rfl (by kernel_rfl) (fun _ _ _ h => h) (Or.inl ⟨by rfl, ?_⟩) ?_ ?_
  rotate_left
  · intro w'
    go_simp
    with_reducible rfl
  rotate_left
  · simp only [Act.put, List.setIfInBounds_toArray, List.set_cons_zero, List.set_cons_succ, i64_w, i32_w]
    rfl
  refine pure_ (i := 13) (N := some 35) (v := ?_) (a' := ?_) #[true, true, true, true, true, true, true, true, true, true, true, true, true, true, false] rfl rfl (by kernel_rfl) (fun _ _ _ h => h) (Or.inl ⟨by rfl, ?_⟩) ?_ ?_
  rotate_left
  · intro w'
    go_simp
    with_reducible rfl
  rotate_left
  · simp only [Act.put, List.setIfInBounds_toArray, List.set_cons_zero, List.set_cons_succ, i64_w, i32_w]
    rfl
  refine last_ (i := 14) (N := none) #[true, true, true, true, true, true, true, true, true, true, true, true, true, true, true] rfl rfl (by kernel_rfl) (by decide) (fun K hK => ?_)
  refine store_ (by rfl) rfl rfl rfl rfl hst ?_
  refine hK.out _ _ ?_
  clear hK K
  refine done_ (by kernel_rfl) ?_
  clear hHeld
  go_end0
  obtain ⟨hS9, hg9⟩ := HPut.out [.int .u64 b] 1 (bitsV (vl (fr l v.d).l v.s) b) (by simp) (by simp [Vl.cells, bitsV])
  have hbe : Below B W (w9.drew.setCells g1 (v.s.toNat * 4 + 1) [.int .u64 b]) := below_setCells HG.out.2 _ _ (below_drew (HB9.out.below.mono HPos.out.2))
  rw [HWE.out, if_neg HPt.out, HWR.out]
  refine ⟨hbe, Or.inl ⟨rfl, rfl, some ad, c2, ?_, ?_, by rw [setRow_length]; exact hI.out.cap⟩⟩
  · rw [setRow_length]
    exact (hg9.block r (by have := blk_lt HB9.out.row; exact this) (fun he => HG.out.1 (by cases he; rfl))).trans HB9.out.row
  · rw [setRow_length]
    exact Kd.F_mono (Kd.R_F (Kd.R_bound (Kd.S_R hS9))) (fun k hk => hk.2.1)
end Go.Proofs.YtfaghjadjpiaiaaDoor.Sh
