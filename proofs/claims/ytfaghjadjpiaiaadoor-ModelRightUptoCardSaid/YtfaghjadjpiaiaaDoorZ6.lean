/- What the document's functions answer: Has, Size, Ptr, has, May, Fits. What the document's functions answer, on: Right, Same, Great. What the document's functions answer, on: Same, Great. The law ModelRight, walked. The law ModelRight, walked: where a table is made. The law ModelRight: an act without an error. The law ModelRight: an act with an error. The law ModelRight: any input. -/
import Derived.Test.YtfaghjadjpiaiaaDoorZ5
import Derived.Test.YtfaghjadjpiaiaaDoorPModelRightx
namespace Go.Proofs.YtfaghjadjpiaiaaDoor.Sh
open Go.RowKit Go.Shelf Go.Proofs.YtfaghjadjpiaiaaDoorW.PrintWords Go.Proofs.YtfaghjadjpiaiaaDoorW.PrintLast Go.Proofs.YtfaghjadjpiaiaaDoorW.PrintMore Go.Proofs.YtfaghjadjpiaiaaDoor.PModelRight
set_option linter.unusedVariables false
set_option linter.unusedSimpArgs false
def dFn (f : Fn0) : S88 := ⟨f.size, f.bits⟩
def dVl (v : Vl) : S26 := ⟨v.k, v.b, v.d, v.s⟩
def dFr (f : Fr) : S80 := ⟨f.f, f.l.map dVl⟩
theorem C_map {α β : Type} {d : Kd α} {d' : Kd β} {w : World} {A : Option Addr} {n : Nat} {xs : List α} (g : α → β) (hsz : d'.sz = d.sz) (hK : ∀ x cs, d.K w x cs → d'.K w (g x) cs) (h : d.C w A n xs) : d'.C w A n (xs.map g) := by
  refine ⟨by simpa using h.1, h.2.1, fun hn => ?_⟩
  obtain ⟨ad, e, hc⟩ := h.2.2 hn
  refine ⟨ad, e, fun j y hj => ?_⟩
  rw [List.getElem?_map] at hj
  obtain ⟨x, hx, rfl⟩ := Option.map_eq_some_iff.1 hj
  obtain ⟨c, h1, h2, h3⟩ := hc j x hx
  exact ⟨c, by rw [hsz]; exact h1, hK x c h2, by rw [hsz]; exact h3⟩
theorem C_dFn {w : World} {A : Option Addr} {l : List Fn0} (h : kFn.C w A l.length l) : Kd.C k88 w A (l.map dFn).length (l.map dFn) := by
  have h2 := C_map (d' := k88) dFn rfl (fun x cs hx => by
    obtain ⟨A1, c1, rfl, l1, g1⟩ := kFn_open hx
    exact k88_mk w (dFn x) l1 g1) h
  rw [List.length_map]
  exact h2
theorem C_dVl {w : World} {A : Option Addr} {n : Nat} {l : List Vl} (h : kVl.C w A n l) : Kd.C k26 w A n (l.map dVl) :=
  C_map (d' := k26) dVl rfl (fun x cs hx => by
    obtain rfl := kVl_open hx
    exact k26_mk w (dVl x)) h
theorem C_dFr {w : World} {A : Option Addr} {l : List Fr} (h : kFr.C w A l.length l) : Kd.C k80 w A (l.map dFr).length (l.map dFr) := by
  have h2 := C_map (d' := k80) dFr rfl (fun x cs hx => by
    obtain ⟨A1, c1, rfl, l1, g1⟩ := kFr_open hx
    have e : (dFr x).f1.length = x.l.length := by simp [dFr]
    have := k80_mk w (dFr x) (A1 := A1) (c1 := c1) (by rw [e]; exact l1) (by rw [e]; exact C_dVl g1)
    rw [e] at this
    exact this) h
  rw [List.length_map]
  exact h2
theorem rd_dFn (l : List Fn0) (f : Int) (h0 : 0 ≤ f) (h1 : f < l.length) : rd_T88 (l.map dFn) f = dFn (fnAt l f) := by
  have hl : f.toNat < l.length := by omega
  unfold rd_T88 fnAt
  simp [List.getD_eq_getElem?_getD, List.getElem?_eq_getElem hl]
theorem rd_dFr (l : List Fr) (d : Int) (h0 : 0 ≤ d) (h1 : d < l.length) : rd_T80 (l.map dFr) d = dFr (fr l d) := by
  have hl : d.toNat < l.length := by omega
  unfold rd_T80 fr
  simp [List.getD_eq_getElem?_getD, List.getElem?_eq_getElem hl]
theorem rd_dVl (l : List Vl) (s : Int) (h0 : 0 ≤ s) (h1 : s < l.length) : rd_T26 (l.map dVl) s = dVl (vl l s) := by
  have hl : s.toNat < l.length := by omega
  unfold rd_T26 vl
  simp [List.getD_eq_getElem?_getD, List.getElem?_eq_getElem hl]
theorem has_loop (x1 : Int) (hx : 0 ≤ x1) : ∀ (n : Nat) (x5 x6 : Int), U64 x5 → 0 ≤ x6 → x6 + n = Int.tmod x1 64 → ∀ k, n < k → shoringref03_Has.l0 k x1 x5 x6 = some (x5.toNat.testBit n) := by
  have hm : Int.tmod x1 64 = x1 % 64 := Int.tmod_eq_emod_of_nonneg hx
  intro n
  induction n with
  | zero =>
    intro x5 x6 h5 h6 he k hk
    obtain ⟨k, rfl⟩ : ∃ k', k = k' + 1 := ⟨k - 1, by omega⟩
    unfold shoringref03_Has.l0
    rw [if_neg (by omega), Int.tmod_eq_emod_of_nonneg h5.1]
    congr 1
    rw [Nat.testBit_zero, Bool.eq_iff_iff]
    simp only [beq_iff_eq, decide_eq_true_eq]
    have := h5.1
    omega
  | succ n ih =>
    intro x5 x6 h5 h6 he k hk
    obtain ⟨k, rfl⟩ : ∃ k', k = k' + 1 := ⟨k - 1, by omega⟩
    unfold shoringref03_Has.l0
    have h0 := h5.1
    have h1 := h5.2
    have ed : Int.tdiv x5 2 = x5 / 2 := Int.tdiv_eq_ediv_of_nonneg h0
    have ew : IntKind.u64.wrap (Int.tdiv x5 2) = x5 / 2 := by rw [ed, IntKind.wrap_u64]; omega
    have e6 : wrap64 (x6 + 1) = x6 + 1 := by unfold wrap64; omega
    rw [if_pos (by omega), ew, e6, ih (x5 / 2) (x6 + 1) ⟨by omega, by omega⟩ (by omega) (by omega) k (by omega)]
    congr 1
    rw [Nat.testBit_succ]
    congr 1
    omega
theorem doc_has {b : List Int} {j : Int} (hb : AllU b) (hj : I64 j) (k : Nat) (hk : 66 ≤ k) : shoringref03_Has.f k b j = some (bitOf b j) := by
  obtain ⟨k, rfl⟩ : ∃ k', k = k' + 1 := ⟨k - 1, by omega⟩
  unfold shoringref03_Has.f
  by_cases h0 : j < 0
  · rw [if_pos h0]
    unfold shoringref03_Has.j0
    dsimp only
    rw [if_pos rfl]
    unfold bitOf
    rw [decide_eq_false (by omega)]
    rfl
  · rw [if_neg h0]
    have h1 := hj.2
    have ed : Int.tdiv j 64 = j / 64 := Int.tdiv_eq_ediv_of_nonneg (by omega)
    have ew : wrap64 (Int.tdiv j 64) = j / 64 := by rw [ed]; unfold wrap64; omega
    unfold shoringref03_Has.j0
    dsimp only
    rw [ew]
    by_cases hg : j / 64 ≥ (b.length : Int)
    · rw [if_pos (decide_eq_true hg)]
      unfold bitOf
      rw [decide_eq_false (show ¬ j / 64 < (b.length : Int) by omega)]
      simp
    · rw [if_neg (by simpa using hg), if_pos (by omega), if_pos (by omega)]
      have hu : U64 (rd b (j / 64)) := hb _ (rd_mem (by omega) (by omega))
      have hm : Int.tmod j 64 = j % 64 := Int.tmod_eq_emod_of_nonneg (by omega)
      rw [has_loop j (by omega) (j % 64).toNat _ 0 hu (by omega) (by omega) k (by omega)]
      congr 1
      unfold bitOf
      rw [decide_eq_true (show 0 ≤ j by omega), decide_eq_true (show j / 64 < (b.length : Int) by omega)]
      simp
theorem doc_size {l : List Fn0} {t : List Ent} (h : TabOk l t) (f : Int) : shoringref13_Size.f (l.map dFn) f = some (tSize t f) := by
  rw [size_doc h]
  unfold shoringref13_Size.f
  rw [List.length_map]
  by_cases h0 : f < 0
  · rw [if_pos h0, if_neg (by omega)]
  · rw [if_neg h0]
    by_cases h1 : f ≥ (l.length : Int)
    · rw [if_pos h1, if_neg (by omega)]
    · rw [if_neg h1, if_pos (by omega), if_pos (by omega), if_pos (by omega), rd_dFn l f (by omega) (by omega)]
      rfl
theorem size_neg {l : List Fn0} {t : List Ent} (h : TabOk l t) (hn : newB l = true) (f : Int) : 0 ≤ tSize t f ↔ 0 ≤ f ∧ f < l.length := by
  unfold tSize
  by_cases hh : tHas t f = true
  · obtain ⟨g, hg, hget, he⟩ := tab_ent h hh
    have hf2 : 0 ≤ f ∧ f < l.length := by
      unfold tHas at hh
      have h3 : 0 ≤ f ∧ f < t.length := by simpa using hh
      rw [← h.1]; exact h3
    have hm : mayB g = true := by
      simp only [newB, Bool.and_eq_true, decide_eq_true_eq] at hn
      have h3 : (l.any fun f => !mayB f) = false := by simpa using hn.2.2
      have := List.any_eq_false.1 h3 g hg
      simpa using this
    simp only [mayB, Bool.and_eq_true, decide_eq_true_eq] at hm
    rw [if_pos hh, he.size]
    exact ⟨fun _ => hf2, fun _ => hm.1⟩
  · rw [if_neg hh]
    refine ⟨fun hc => absurd hc (by decide), fun hc => absurd ?_ hh⟩
    unfold tHas
    rw [h.1]
    simp; omega
theorem doc_ptr {l : List Fn0} {t : List Ent} (h : TabOk l t) (hn : newB l = true) (hu : ∀ f ∈ l, FnOk f) (f : Int) {j : Int} (hj : I64 j) (k : Nat) (hk : 66 ≤ k) : shoringref13_Ptr.f k (l.map dFn) f j = some (tPtr t f j) := by
  unfold shoringref13_Ptr.f
  rw [doc_size h]
  simp only [Option.bind_some]
  rw [ptr_doc h hn hu]
  by_cases hf : 0 ≤ f ∧ f < l.length
  · rw [if_pos ((size_neg h hn f).2 hf), if_pos hf.1, if_pos (by rw [List.length_map]; exact hf.2), rd_dFn l f hf.1 hf.2, decide_eq_true hf]
    have hm : fnAt l f ∈ l := by
      have hl : f.toNat < l.length := by omega
      unfold fnAt
      rw [List.getD_eq_getElem?_getD, List.getElem?_eq_getElem hl]
      exact List.getElem_mem hl
    have := doc_has (hu _ hm).bits hj k hk
    show (shoringref03_Has.f k (fnAt l f).bits j).bind _ = _
    rw [this]
    simp
  · have h0 : ¬ 0 ≤ tSize t f := fun hc => hf ((size_neg h hn f).1 hc)
    rw [if_neg h0, decide_eq_false hf]
    rfl
theorem doc_hasS (l : List Fr) (d s : Int) : shoringref19_has.f (l.map dFr) d s = some (hasS l d s) := by
  unfold shoringref19_has.f hasS
  rw [List.length_map]
  by_cases h0 : 0 ≤ d
  · rw [if_pos h0, decide_eq_true h0]
    by_cases h1 : d < l.length
    · rw [if_pos h1, decide_eq_true h1]
      by_cases h2 : 0 ≤ s
      · rw [if_pos h2, if_pos h0, decide_eq_true h2, rd_dFr l d h0 h1]
        simp [dFr]
      · rw [if_neg h2, decide_eq_false h2]; rfl
    · rw [if_neg h1, decide_eq_false h1]; rfl
  · rw [if_neg h0, decide_eq_false h0]; rfl
theorem doc_may (v : Vl) (hk0 : 0 ≤ v.k) (k : Nat) (hk : 1 ≤ k) : shoringref16_May.f k v.k v.b v.d v.s = some (mayV v) := by
  obtain ⟨k, rfl⟩ : ∃ k', k = k' + 1 := ⟨k - 1, by omega⟩
  obtain ⟨vk, vb, vd, vs⟩ := v
  simp only at hk0 ⊢
  by_cases h2 : vk > 2
  · have h0 : ¬ vk = 0 := by omega
    have h1 : ¬ vk = 1 := by omega
    have h3 : ¬ vk = 2 := by omega
    simp [shoringref16_May.f, shoringref16_May.j0, mayV, h2, h0, h1, h3]
  · have : vk = 0 ∨ vk = 1 ∨ vk = 2 := by omega
    rcases this with rfl | rfl | rfl
    · by_cases hb : vb = 0 <;> by_cases hd : vd = 0 <;> simp [shoringref16_May.f, shoringref16_May.j0, mayV, hb, hd]
    · by_cases hd : vd = 0 <;> simp [shoringref16_May.f, shoringref16_May.j0, mayV, hd]
    · by_cases hb : vb = 0 <;> by_cases hd : 0 ≤ vd <;> simp [shoringref16_May.f, shoringref16_May.j0, mayV, hb, hd]
theorem doc_fits {fn : List Fn0} {t : List Ent} (h : TabOk fn t) (hn : newB fn = true) (hu : ∀ f ∈ fn, FnOk f) (l : List Fr) {d s : Int} (v : Vl) (h0 : 0 ≤ d) (h1 : d < l.length) (hs : I64 s) (hk0 : 0 ≤ v.k) (k : Nat) (hk : 66 ≤ k) :
    shoringref19_Fits.f k (fn.map dFn) (l.map dFr) d s v.k v.b v.d v.s = some (fitsE t l d s v) := by
  unfold shoringref19_Fits.f fitsE
  rw [doc_may v hk0 k (by omega)]
  simp only [Option.bind_some]
  by_cases g1 : mayV v = false
  · rw [if_neg (by rw [g1]; decide), if_pos g1]
  have g1' : mayV v = true := by simpa using g1
  rw [if_pos g1', if_neg g1, if_pos h0, if_pos (by rw [List.length_map]; exact h1), rd_dFr l d h0 h1]
  show (shoringref13_Ptr.f k (fn.map dFn) (fr l d).f s).bind _ = _
  rw [doc_ptr h hn hu (fr l d).f hs k hk]
  simp only [Option.bind_some]
  obtain ⟨k, rfl⟩ : ∃ k', k = k' + 1 := ⟨k - 1, by omega⟩
  have e : ((tPtr t (fr l d).f s == (v.k == 1)) = true) ↔ ((tPtr t (fr l d).f s == (v.k != 1)) = false) := by
    cases tPtr t (fr l d).f s <;> by_cases hv : v.k = 1 <;> simp [hv]
  by_cases g2 : (tPtr t (fr l d).f s == (v.k != 1)) = false
  · rw [if_pos (e.2 g2), if_pos g2]
  · rw [if_neg (fun hc => g2 (e.1 hc)), if_neg g2]
    by_cases g3 : v.k = 2
    · rw [if_pos g3, if_pos g3, doc_hasS]
      simp only [Option.bind_some]
      unfold shoringref19_Fits.j0
      dsimp only
      by_cases g4 : hasS l v.d v.s = false
      · rw [if_pos (by rw [g4]; rfl), if_pos g4]
      · have g4' : hasS l v.d v.s = true := by simpa using g4
        rw [if_neg (by rw [g4']; decide), if_neg g4, if_pos g3]
        by_cases g5 : d < v.d
        · rw [if_pos g5, if_pos g5]
        · rw [if_neg g5, if_neg g5]
    · rw [if_neg g3, if_neg g3]
      unfold shoringref19_Fits.j0
      dsimp only
      rw [if_neg (by decide), if_neg g3]
end Go.Proofs.YtfaghjadjpiaiaaDoor.Sh
namespace Go.Proofs.YtfaghjadjpiaiaaDoor.Sh
open Go.RowKit Go.Shelf Go.Proofs.YtfaghjadjpiaiaaDoorW.PrintWords Go.Proofs.YtfaghjadjpiaiaaDoorW.PrintLast Go.Proofs.YtfaghjadjpiaiaaDoorW.PrintMore Go.Proofs.YtfaghjadjpiaiaaDoor.PModelRight
set_option linter.unusedVariables false
set_option linter.unusedSimpArgs false
/-- Values of their kinds. -/
def WfL (l : List Fr) : Prop := ∀ f ∈ l, ∀ v ∈ f.l, 0 ≤ v.k
def zeros (L : List Int) : Bool := L.all (· == 0)
theorem firstNZ_zeros (L : List Int) : (firstNZ L == 0) = zeros L := by
  induction L with
  | nil => rfl
  | cons x r ih =>
    unfold firstNZ zeros
    by_cases hx : x = 0
    · rw [if_pos hx, ih]
      simp [hx, zeros]
    · rw [if_neg hx]
      simp [hx]
theorem rightE_zeros (t : List Ent) (l : List Fr) : (rightE t l == 0) = (l.all (shapeOk t) && zeros (allErrs t l 0)) := by
  unfold rightE
  by_cases h : l.all (shapeOk t) = true
  · rw [if_pos h, h, firstNZ_zeros]; simp
  · rw [if_neg h]
    have h' : l.all (shapeOk t) = false := by simpa using h
    rw [h']; rfl
section
variable {fn : List Fn0} {t : List Ent} (h : TabOk fn t) (hn : newB fn = true) (hu : ∀ f ∈ fn, FnOk f) {l : List Fr} (hw : WfL l) (hs : SmallR l)
include h hn hu hw hs
theorem right_l2 (d : Nat) (hd : d < l.length) (r1 : Bool) (K1 : Nat) (h1 : ∀ k, K1 ≤ k → shoringref19_Right.l1 k (l.map dFr |> fun _ => fn.map dFn) (l.map dFr) (l.length : Int) ((d + 1 : Nat) : Int) = some r1) :
    ∀ (m s : Nat), s + m = (fr l d).l.length → ∀ k, K1 + 70 + m ≤ k → shoringref19_Right.l2 k (fn.map dFn) (l.map dFr) (d : Int) (l.length : Int) (d : Int) ((fr l d).l.length : Int) (s : Int) = some (zeros ((slotErrs t l d).drop s) && r1) := by
  have hf := fr_mem (l := l) (i := (d : Int)) (by omega) (by omega)
  have hsl := hs.slots _ hf
  have hll := hs.len
  intro m
  induction m with
  | zero =>
    intro s hsm k hk
    obtain ⟨k, rfl⟩ : ∃ k', k = k' + 1 := ⟨k - 1, by omega⟩
    rw [shoringref19_Right.l2]
    have ew : wrap64 ((d : Int) + 1) = ((d + 1 : Nat) : Int) := by unfold wrap64; omega
    rw [if_neg (by omega), ew]
    have := h1 k (by omega)
    rw [this, List.drop_eq_nil_of_le (by simp [slotErrs]; omega)]
    rfl
  | succ m ih =>
    intro s hsm k hk
    obtain ⟨k, rfl⟩ : ∃ k', k = k' + 1 := ⟨k - 1, by omega⟩
    have hslt : s < (fr l d).l.length := by omega
    rw [shoringref19_Right.l2]
    rw [if_pos (by omega), if_pos (by omega), if_pos (by rw [List.length_map]; omega), if_pos (by omega), rd_dFr l d (by omega) (by omega)]
    have el : ((dFr (fr l d)).f1.length : Int) = ((fr l d).l.length : Int) := by simp [dFr]
    rw [el, if_pos (by omega)]
    have er : rd_T26 (dFr (fr l d)).f1 (s : Int) = dVl (vl (fr l d).l s) := rd_dVl _ _ (by omega) (by omega)
    rw [er]
    have hv := hw _ hf _ (vl_mem (l := (fr l d).l) (i := (s : Int)) (by omega) (by omega))
    show (shoringref19_Fits.f k (fn.map dFn) (l.map dFr) d s (vl (fr l d).l s).k (vl (fr l d).l s).b (vl (fr l d).l s).d (vl (fr l d).l s).s).bind _ = _
    rw [doc_fits h hn hu l _ (by omega) (by omega) ⟨by omega, by omega⟩ hv k (by omega)]
    simp only [Option.bind_some]
    have ew : wrap64 ((s : Int) + 1) = ((s + 1 : Nat) : Int) := by unfold wrap64; omega
    rw [slotErrs_step hslt]
    by_cases hz : fitsE t l d s (vl (fr l d).l s) = 0
    · rw [if_pos hz, ew, ih (s + 1) (by omega) k (by omega)]
      simp [zeros, hz]
    · rw [if_neg hz]
      simp [zeros, hz]
theorem right_l1 : ∀ (m d : Nat), d + m = l.length → ∃ K, ∀ k, K ≤ k → shoringref19_Right.l1 k (fn.map dFn) (l.map dFr) (l.length : Int) (d : Int) = some (zeros (allErrs t l d)) := by
  have hll := hs.len
  intro m
  induction m with
  | zero =>
    intro d hd
    refine ⟨1, fun k hk => ?_⟩
    obtain ⟨k, rfl⟩ : ∃ k', k = k' + 1 := ⟨k - 1, by omega⟩
    rw [shoringref19_Right.l1, if_neg (by omega)]
    unfold allErrs
    rw [List.drop_eq_nil_of_le (by simp; omega)]
    rfl
  | succ m ih =>
    intro d hd
    have hdl : d < l.length := by omega
    obtain ⟨K1, h1⟩ := ih (d + 1) (by omega)
    have h2 := right_l2 h hn hu hw hs d hdl _ K1 h1 (fr l d).l.length 0 (by omega)
    refine ⟨K1 + 71 + (fr l d).l.length, fun k hk => ?_⟩
    obtain ⟨k, rfl⟩ : ∃ k', k = k' + 1 := ⟨k - 1, by omega⟩
    rw [shoringref19_Right.l1, if_pos (by omega), if_pos (by omega), if_pos (by rw [List.length_map]; omega), rd_dFr l d (by omega) (by omega)]
    have el : ((dFr (fr l d)).f1.length : Int) = ((fr l d).l.length : Int) := by simp [dFr]
    rw [el]
    have := h2 k (by omega)
    rw [show ((0 : Nat) : Int) = 0 from rfl] at this
    rw [this, allErrs_step hdl]
    simp [zeros, List.all_append]
theorem right_l0 : ∀ (m d : Nat), d + m = l.length → ∃ K, ∀ k, K ≤ k → shoringref19_Right.l0 k (fn.map dFn) (l.map dFr) (l.length : Int) (d : Int) = some ((l.drop d).all (shapeOk t) && zeros (allErrs t l 0)) := by
  have hll := hs.len
  intro m
  induction m with
  | zero =>
    intro d hd
    obtain ⟨K1, h1⟩ := right_l1 h hn hu hw hs l.length 0 (by omega)
    refine ⟨K1 + 1, fun k hk => ?_⟩
    obtain ⟨k, rfl⟩ : ∃ k', k = k' + 1 := ⟨k - 1, by omega⟩
    rw [shoringref19_Right.l0, if_neg (by omega), List.length_map]
    have := h1 k (by omega)
    rw [show ((0 : Nat) : Int) = 0 from rfl] at this
    rw [this, List.drop_eq_nil_of_le (by omega)]
    rfl
  | succ m ih =>
    intro d hd
    have hdl : d < l.length := by omega
    obtain ⟨K1, h1⟩ := ih (d + 1) (by omega)
    refine ⟨K1 + 1, fun k hk => ?_⟩
    obtain ⟨k, rfl⟩ : ∃ k', k = k' + 1 := ⟨k - 1, by omega⟩
    rw [shoringref19_Right.l0, if_pos (by omega), if_pos (by omega), if_pos (by rw [List.length_map]; omega), rd_dFr l d (by omega) (by omega)]
    have el : ((dFr (fr l d)).f1.length : Int) = ((fr l d).l.length : Int) := by simp [dFr]
    rw [el]
    show (shoringref13_Size.f (fn.map dFn) (fr l d).f).bind _ = _
    rw [doc_size h]
    simp only [Option.bind_some]
    have ew : wrap64 ((d : Int) + 1) = ((d + 1 : Nat) : Int) := by unfold wrap64; omega
    have hdrop : l.drop d = fr l d :: l.drop (d + 1) := by
      rw [List.drop_eq_getElem_cons hdl]
      congr 1
      simp [fr, List.getElem?_eq_getElem hdl]
    rw [hdrop, List.all_cons]
    unfold shapeOk
    by_cases g0 : tSize t (fr l d).f < 0
    · rw [if_pos g0, decide_eq_false (by omega)]; simp
    · rw [if_neg g0, decide_eq_true (by omega)]
      by_cases g1 : tSize t (fr l d).f = ((fr l d).l.length : Int)
      · rw [if_pos g1, ew, h1 k (by omega)]
        have : (tSize t (fr l d).f == ((fr l d).l.length : Int)) = true := by simpa using g1
        rw [this]
        rfl
      · rw [if_neg g1]
        have : (tSize t (fr l d).f == ((fr l d).l.length : Int)) = false := by simpa using g1
        rw [this]
        rfl
theorem doc_right : ∃ k, shoringref19_Right.f k (fn.map dFn) (l.map dFr) = some (rightE t l == 0) := by
  obtain ⟨K, hK⟩ := right_l0 h hn hu hw hs l.length 0 (by omega)
  refine ⟨K, ?_⟩
  unfold shoringref19_Right.f
  rw [List.length_map]
  have := hK K (Nat.le_refl _)
  rw [show ((0 : Nat) : Int) = 0 from rfl] at this
  rw [this, rightE_zeros]
  rfl
end
end Go.Proofs.YtfaghjadjpiaiaaDoor.Sh
namespace Go.Proofs.YtfaghjadjpiaiaaDoor.Sh
open Go.RowKit Go.Shelf Go.Proofs.YtfaghjadjpiaiaaDoorW.PrintWords Go.Proofs.YtfaghjadjpiaiaaDoorW.PrintLast Go.Proofs.YtfaghjadjpiaiaaDoorW.PrintMore Go.Proofs.YtfaghjadjpiaiaaDoor.PModelRight
set_option linter.unusedVariables false
set_option linter.unusedSimpArgs false
section
variable {l : List Fr} (hs : SmallR l)
include hs
theorem same_l1 (d : Nat) (hd : d < l.length) (K1 : Nat) (h1 : ∀ k, K1 ≤ k → shoringref19_Same.l0 k (l.map dFr) (l.map dFr) (l.length : Int) ((d + 1 : Nat) : Int) = some true) :
    ∀ (m s : Nat), s + m = (fr l d).l.length → ∀ k, K1 + 1 + m ≤ k → shoringref19_Same.l1 k (l.map dFr) (l.map dFr) (d : Int) (l.length : Int) (d : Int) ((fr l d).l.length : Int) (s : Int) = some true := by
  have hf := fr_mem (l := l) (i := (d : Int)) (by omega) (by omega)
  have hsl := hs.slots _ hf
  have hll := hs.len
  intro m
  induction m with
  | zero =>
    intro s hsm k hk
    obtain ⟨k, rfl⟩ : ∃ k', k = k' + 1 := ⟨k - 1, by omega⟩
    rw [shoringref19_Same.l1]
    have ew : wrap64 ((d : Int) + 1) = ((d + 1 : Nat) : Int) := by unfold wrap64; omega
    rw [if_neg (by omega), ew]
    exact h1 k (by omega)
  | succ m ih =>
    intro s hsm k hk
    obtain ⟨k, rfl⟩ : ∃ k', k = k' + 1 := ⟨k - 1, by omega⟩
    rw [shoringref19_Same.l1]
    have el : ((dFr (fr l d)).f1.length : Int) = ((fr l d).l.length : Int) := by simp [dFr]
    have ew : wrap64 ((s : Int) + 1) = ((s + 1 : Nat) : Int) := by unfold wrap64; omega
    rw [if_pos (by omega), if_pos (by omega), if_pos (by rw [List.length_map]; omega), if_pos (by omega), rd_dFr l d (by omega) (by omega), el, if_pos (by omega), if_pos (by rw [List.length_map]; omega), if_pos (by omega), if_neg (by simp), ew]
    exact ih (s + 1) (by omega) k (by omega)
theorem same_l0 : ∀ (m d : Nat), d + m = l.length → ∃ K, ∀ k, K ≤ k → shoringref19_Same.l0 k (l.map dFr) (l.map dFr) (l.length : Int) (d : Int) = some true := by
  have hll := hs.len
  intro m
  induction m with
  | zero =>
    intro d hd
    refine ⟨1, fun k hk => ?_⟩
    obtain ⟨k, rfl⟩ : ∃ k', k = k' + 1 := ⟨k - 1, by omega⟩
    rw [shoringref19_Same.l0, if_neg (by omega)]
  | succ m ih =>
    intro d hd
    have hdl : d < l.length := by omega
    obtain ⟨K1, h1⟩ := ih (d + 1) (by omega)
    have h2 := same_l1 hs d hdl K1 h1 (fr l d).l.length 0 (by omega)
    refine ⟨K1 + 3 + (fr l d).l.length, fun k hk => ?_⟩
    obtain ⟨k, rfl⟩ : ∃ k', k = k' + 2 := ⟨k - 2, by omega⟩
    have el : ((dFr (fr l d)).f1.length : Int) = ((fr l d).l.length : Int) := by simp [dFr]
    rw [shoringref19_Same.l0, if_pos (by omega), if_pos (by omega), if_pos (by rw [List.length_map]; omega), if_pos (by rw [List.length_map]; omega), rd_dFr l d (by omega) (by omega), if_pos rfl]
    rw [shoringref19_Same.j1, if_neg (by simp), if_pos (by omega), if_pos (by rw [List.length_map]; omega), rd_dFr l d (by omega) (by omega), el]
    have := h2 k (by omega)
    rw [show ((0 : Nat) : Int) = 0 from rfl] at this
    exact this
theorem doc_same : ∃ k, shoringref19_Same.f k (l.map dFr) (l.map dFr) = some true := by
  obtain ⟨K, hK⟩ := same_l0 hs l.length 0 (by omega)
  refine ⟨K, ?_⟩
  unfold shoringref19_Same.f
  rw [if_pos rfl, List.length_map]
  have := hK K (Nat.le_refl _)
  rw [show ((0 : Nat) : Int) = 0 from rfl] at this
  exact this
end
def great19 (l : List Fr) : Bool := decide (30 < l.length) || l.any fun f => decide (100 < f.l.length)
theorem great_small {l : List Fr} (h : great19 l = false) : SmallR l := by
  unfold great19 at h
  simp only [Bool.or_eq_false_iff, decide_eq_false_iff_not] at h
  refine ⟨by omega, fun f hf => ?_⟩
  have := List.any_eq_false.1 h.2 f hf
  simp at this
  omega
theorem great_l0 (l : List Fr) (hl : l.length ≤ 30) : ∀ (m d : Nat), d + m = l.length → ∀ k, m + 1 ≤ k → shoringref19_Great.l0 k (l.map dFr) (l.length : Int) (d : Int) = some ((l.drop d).any fun f => decide (100 < f.l.length)) := by
  intro m
  induction m with
  | zero =>
    intro d hd k hk
    obtain ⟨k, rfl⟩ : ∃ k', k = k' + 1 := ⟨k - 1, by omega⟩
    rw [shoringref19_Great.l0, if_neg (by omega), List.drop_eq_nil_of_le (by omega)]
    rfl
  | succ m ih =>
    intro d hd k hk
    have hdl : d < l.length := by omega
    obtain ⟨k, rfl⟩ : ∃ k', k = k' + 1 := ⟨k - 1, by omega⟩
    have el : ((dFr (fr l d)).f1.length : Int) = ((fr l d).l.length : Int) := by simp [dFr]
    have ew : wrap64 ((d : Int) + 1) = ((d + 1 : Nat) : Int) := by unfold wrap64; omega
    have hdrop : l.drop d = fr l d :: l.drop (d + 1) := by
      rw [List.drop_eq_getElem_cons hdl]
      congr 1
      simp [fr, List.getElem?_eq_getElem hdl]
    rw [shoringref19_Great.l0, if_pos (by omega), if_pos (by omega), if_pos (by rw [List.length_map]; omega), rd_dFr l d (by omega) (by omega), el, hdrop, List.any_cons]
    by_cases hg : ((fr l d).l.length : Int) > 100
    · rw [if_pos hg, decide_eq_true (show 100 < (fr l d).l.length by omega)]
      rfl
    · rw [if_neg hg, ew, ih (d + 1) (by omega) k (by omega), decide_eq_false (show ¬ 100 < (fr l d).l.length by omega)]
      simp
theorem doc_great19 (l : List Fr) : ∃ k, shoringref19_Great.f k (l.map dFr) = some (great19 l) := by
  refine ⟨l.length + 1, ?_⟩
  unfold shoringref19_Great.f great19
  rw [List.length_map]
  by_cases h : (l.length : Int) > 30
  · rw [if_pos h, decide_eq_true (show 30 < l.length by omega)]
    rfl
  · rw [if_neg h, decide_eq_false (show ¬ 30 < l.length by omega)]
    have := great_l0 l (by omega) l.length 0 (by omega) (l.length + 1) (Nat.le_refl _)
    rw [show ((0 : Nat) : Int) = 0 from rfl] at this
    rw [this]
    simp
def great13 (l : List Fn0) : Bool := decide (120 < l.length) || l.any fun f => decide (40 < f.bits.length)
theorem great13_l0 (l : List Fn0) (hl : l.length ≤ 120) : ∀ (m d : Nat), d + m = l.length → ∀ k, m + 1 ≤ k → shoringref13_Great.l0 k (l.map dFn) (l.length : Int) (d : Int) = some ((l.drop d).any fun f => decide (40 < f.bits.length)) := by
  intro m
  induction m with
  | zero =>
    intro d hd k hk
    obtain ⟨k, rfl⟩ : ∃ k', k = k' + 1 := ⟨k - 1, by omega⟩
    rw [shoringref13_Great.l0, if_neg (by omega), List.drop_eq_nil_of_le (by omega)]
    rfl
  | succ m ih =>
    intro d hd k hk
    have hdl : d < l.length := by omega
    obtain ⟨k, rfl⟩ : ∃ k', k = k' + 1 := ⟨k - 1, by omega⟩
    have el : ((dFn (fnAt l d)).f1.length : Int) = ((fnAt l d).bits.length : Int) := rfl
    have ew : wrap64 ((d : Int) + 1) = ((d + 1 : Nat) : Int) := by unfold wrap64; omega
    have hdrop : l.drop d = fnAt l d :: l.drop (d + 1) := by
      rw [List.drop_eq_getElem_cons hdl]
      congr 1
      simp [fnAt, List.getElem?_eq_getElem hdl]
    rw [shoringref13_Great.l0, if_pos (by omega), if_pos (by omega), if_pos (by rw [List.length_map]; omega), rd_dFn l d (by omega) (by omega), el, hdrop, List.any_cons]
    by_cases hg : ((fnAt l d).bits.length : Int) > 40
    · rw [if_pos hg, decide_eq_true (show 40 < (fnAt l d).bits.length by omega)]
      rfl
    · rw [if_neg hg, ew, ih (d + 1) (by omega) k (by omega), decide_eq_false (show ¬ 40 < (fnAt l d).bits.length by omega)]
      simp
theorem doc_great13 (l : List Fn0) : ∃ k, shoringref13_Great.f k (l.map dFn) = some (great13 l) := by
  refine ⟨l.length + 1, ?_⟩
  unfold shoringref13_Great.f great13
  rw [List.length_map]
  by_cases h : (l.length : Int) > 120
  · rw [if_pos h, decide_eq_true (show 120 < l.length by omega)]
    rfl
  · rw [if_neg h, decide_eq_false (show ¬ 120 < l.length by omega)]
    have := great13_l0 l (by omega) l.length 0 (by omega) (l.length + 1) (Nat.le_refl _)
    rw [show ((0 : Nat) : Int) = 0 from rfl] at this
    rw [this]
    simp
theorem drawn_below {w w' : World} (h : Drawn0 w w') : Below w.heap.size w w' := by
  obtain ⟨n, rfl⟩ := h
  exact pw_below_drewN (Below.refl _ _) n
/-- The contracts, of the program's words. -/
theorem Great13_calls (A : Option Addr) (c : Nat) (l : List Fn0) (w : World) (hr : kFn.C w A l.length l) (hc : l.length ≤ c) :
    Calls Tryd.prog 10 #[.slice A l.length c] w fun e w' => e = .returned (.bool (great13 l)) ∧ Below w.heap.size w w' := by
  obtain ⟨k, hk⟩ := doc_great13 l
  have := shoringref13_Great.calls k A c (l.map dFn) _ w (C_dFn hr) (by rw [List.length_map]; exact hc) hk
  rw [List.length_map] at this
  exact this.mono fun e w' ⟨he, hd⟩ => ⟨he, drawn_below hd⟩
theorem Great19_calls (A : Option Addr) (c : Nat) (l : List Fr) (w : World) (hr : kFr.C w A l.length l) (hc : l.length ≤ c) :
    Calls Tryd.prog 11 #[.slice A l.length c] w fun e w' => e = .returned (.bool (great19 l)) ∧ Below w.heap.size w w' := by
  obtain ⟨k, hk⟩ := doc_great19 l
  have := shoringref19_Great.calls k A c (l.map dFr) _ w (C_dFr hr) (by rw [List.length_map]; exact hc) hk
  rw [List.length_map] at this
  exact this.mono fun e w' ⟨he, hd⟩ => ⟨he, drawn_below hd⟩
theorem Same_calls (A : Option Addr) (c : Nat) (A1 : Option Addr) (c1 : Nat) (l : List Fr) (w : World) (hr : kFr.C w A l.length l) (hc : l.length ≤ c) (hr1 : kFr.C w A1 l.length l) (hc1 : l.length ≤ c1) (hs : SmallR l) :
    Calls Tryd.prog 15 #[.slice A l.length c, .slice A1 l.length c1] w fun e w' => e = .returned (.bool true) ∧ Below w.heap.size w w' := by
  obtain ⟨k, hk⟩ := doc_same hs
  have := shoringref19_Same.calls k A c (l.map dFr) A1 c1 (l.map dFr) _ w (C_dFr hr) (by rw [List.length_map]; exact hc) (C_dFr hr1) (by rw [List.length_map]; exact hc1) hk
  rw [List.length_map] at this
  exact this.mono fun e w' ⟨he, hd⟩ => ⟨he, drawn_below hd⟩
theorem RefRight_calls {fn : List Fn0} {t : List Ent} (h : TabOk fn t) (hn : newB fn = true) (hu : ∀ f ∈ fn, FnOk f) {l : List Fr} (hw : WfL l) (hs : SmallR l) (A : Option Addr) (c : Nat) (A1 : Option Addr) (c1 : Nat) (w : World) (hr : kFn.C w A fn.length fn) (hc : fn.length ≤ c) (hr1 : kFr.C w A1 l.length l) (hc1 : l.length ≤ c1) :
    Calls Tryd.prog 13 #[.slice A fn.length c, .slice A1 l.length c1] w fun e w' => e = .returned (.bool (rightE t l == 0)) ∧ Below w.heap.size w w' := by
  obtain ⟨k, hk⟩ := doc_right h hn hu hw hs
  have := shoringref19_Right.calls k A c (fn.map dFn) A1 c1 (l.map dFr) _ w (C_dFn hr) (by rw [List.length_map]; exact hc) (C_dFr hr1) (by rw [List.length_map]; exact hc1) hk
  rw [List.length_map, List.length_map] at this
  exact this
end Go.Proofs.YtfaghjadjpiaiaaDoor.Sh
namespace Go.Proofs.YtfaghjadjpiaiaaDoor.Sh
open Go.RowKit Go.Shelf Go.Proofs.YtfaghjadjpiaiaaDoorW.PrintWords Go.Proofs.YtfaghjadjpiaiaaDoorW.PrintLast Go.Proofs.YtfaghjadjpiaiaaDoorW.PrintMore
set_option linter.unusedVariables false
set_option linter.unusedSimpArgs false
theorem vl_wf {l : List Fr} (h : WfL l) (d s : Int) : 0 ≤ (vl (fr l d).l s).k := by
  have hf : fr l d ∈ l ∨ fr l d = zFr := by
    unfold fr
    rw [List.getD_eq_getElem?_getD]
    rcases Nat.lt_or_ge d.toNat l.length with hl | hl
    · rw [List.getElem?_eq_getElem hl]; exact Or.inl (List.getElem_mem hl)
    · rw [List.getElem?_eq_none hl]; exact Or.inr rfl
  have hv : ∀ L : List Vl, (∀ v ∈ L, 0 ≤ v.k) → 0 ≤ (vl L s).k := by
    intro L hL
    unfold vl
    rw [List.getD_eq_getElem?_getD]
    rcases Nat.lt_or_ge s.toNat L.length with hl | hl
    · rw [List.getElem?_eq_getElem hl]; exact hL _ (List.getElem_mem hl)
    · rw [List.getElem?_eq_none hl]; decide
  rcases hf with hf | hf
  · exact hv _ (h _ hf)
  · rw [hf]; exact hv [] (fun v hv => by cases hv)
theorem wf_set {l : List Fr} (h : WfL l) (d s : Int) (v : Vl) (hv : 0 ≤ v.k) : WfL (setRow l d s v) := by
  intro f hf u hu
  have hfr : ∀ u ∈ (fr l d).l, 0 ≤ u.k := by
    intro u hu
    unfold fr at hu
    rw [List.getD_eq_getElem?_getD] at hu
    rcases Nat.lt_or_ge d.toNat l.length with hl | hl
    · rw [List.getElem?_eq_getElem hl] at hu; exact h _ (List.getElem_mem hl) u hu
    · rw [List.getElem?_eq_none hl] at hu; cases hu
  unfold setRow at hf
  rcases List.mem_or_eq_of_mem_set hf with hf | rfl
  · exact h f hf u hu
  · rcases List.mem_or_eq_of_mem_set hu with hu | rfl
    · exact hfr u hu
    · exact hv
theorem act_wf {t : List Ent} {l : List Fr} (x : Ac) (h : WfL l) (hv : 0 ≤ x.v.k) : WfL (actRow t l x) := by
  have hnew : WfL (l ++ [newFr t x.f]) := by
    intro f hf u hu
    rcases List.mem_append.1 hf with hf | hf
    · exact h f hf u hu
    · simp at hf
      subst hf
      unfold newFr slotsOf at hu
      simp only [List.mem_map] at hu
      obtain ⟨i, _, rfl⟩ := hu
      unfold slotAt
      split <;> decide
  unfold actRow
  split
  · exact hnew
  split
  · exact fun f hf => h f (List.mem_of_mem_take hf)
  split
  · exact wf_set h _ _ _ hv
  split
  · exact h
  split
  · exact h
  split
  · exact wf_set h _ _ _ (vl_wf h _ _)
  · exact wf_set h _ _ _ (vl_wf h _ _)
theorem small_set {l : List Fr} (h : SmallR l) (d s : Int) (v : Vl) : SmallR (setRow l d s v) := by
  refine ⟨by rw [setRow_length]; exact h.len, fun f hf => ?_⟩
  obtain ⟨i, hi, rfl⟩ := List.getElem_of_mem hf
  have e : (setRow l d s v)[i] = fr (setRow l d s v) (i : Int) := by simp [fr, hi]
  rw [e, fr_set_len]
  rw [setRow_length] at hi
  exact h.slots _ (fr_mem (by omega) (by omega))
theorem act_small {t : List Ent} {l : List Fr} (x : Ac) (hg : great19 l = false) (hz : tSize t x.f ≤ 1000000) : SmallR (actRow t l x) := by
  have h := great_small hg
  have hl : l.length ≤ 30 := by
    unfold great19 at hg
    simp only [Bool.or_eq_false_iff, decide_eq_false_iff_not] at hg
    omega
  have hnew : SmallR (l ++ [newFr t x.f]) := by
    refine ⟨by simp; omega, fun f hf => ?_⟩
    rcases List.mem_append.1 hf with hf | hf
    · exact h.slots f hf
    · simp at hf
      subst hf
      unfold newFr
      rw [slotsOf_length]
      omega
  unfold actRow
  split
  · exact hnew
  split
  · exact ⟨by simp; omega, fun f hf => h.slots f (List.mem_of_mem_take hf)⟩
  split
  · exact small_set h _ _ _
  split
  · exact h
  split
  · exact h
  split
  · exact small_set h _ _ _
  · exact small_set h _ _ _
attribute [local go_sem high] eqVl
/-- What the law is given. -/
structure LawIn (w : World) (A : Option Addr) (c : Nat) (fn : List Fn0) (B : Option Addr) (e : Nat) (l : List Fr) (x : Ac) : Prop where
  tab : Tab64 w
  fns : kFn.C w A fn.length fn
  fnc : fn.length ≤ c
  ok : ∀ f ∈ fn, FnOk f
  row : kFr.C w B l.length l
  rowc : l.length ≤ e
  wf : WfL l
  act : AcOk w x
  val : 0 ≤ x.v.k
def ACT (x : Ac) : Value := .agg #[.int .i64 x.kind, .int .i64 x.f, .int .i64 x.d, .int .i64 x.s, .int .u8 x.v.k, .int .u64 x.v.b, .int .i64 x.v.d, .int .i64 x.v.s, .int .u64 x.bits, .int .u8 x.op, .slice x.A x.ns.length x.c]
/-- What stands while the law runs: the act's box. -/
structure LawW (w : World) (x : Ac) (W : World) : Prop where
  below : Below w.heap.size w W
  act : W.heap[w.heap.size]? = some (.cells #[.int .i64 x.kind, .int .i64 x.f, .int .i64 x.d, .int .i64 x.s, .int .u8 x.v.k, .int .u64 x.v.b, .int .i64 x.v.d, .int .i64 x.v.s, .int .u64 x.bits, .int .u8 x.op, .slice x.A x.ns.length x.c] 29 (0, 0))
theorem LawW.step {w : World} {x : Ac} {W W1 : World} (h : LawW w x W) (hb : Below W.heap.size W W1) : LawW w x W1 :=
  ⟨below_then h.below h.below.size hb, (hb.block _ (blk_lt h.act)).trans h.act⟩
theorem LawW.start (w : World) (x : Ac) : LawW w x (w.alloc (.cells #[.int .i64 x.kind, .int .i64 x.f, .int .i64 x.d, .int .i64 x.s, .int .u8 x.v.k, .int .u64 x.v.b, .int .i64 x.v.d, .int .i64 x.v.s, .int .u64 x.bits, .int .u8 x.op, .slice x.A x.ns.length x.c] 29)) :=
  ⟨below_alloc (Below.refl _ _) _, heap_alloc_new w _⟩
set_option maxRecDepth 100000 in
set_option maxHeartbeats 2000000 in
theorem law_no (A : Option Addr) (c : Nat) (fn : List Fn0) (B : Option Addr) (e : Nat) (l : List Fr) (x : Ac) (w : World) (h : LawIn w A c fn B e l x) (hn : newB fn = false) :
    Calls Tryd.prog 3 #[.slice A fn.length c, .slice B l.length e, .agg #[.int .i64 x.kind, .int .i64 x.f, .int .i64 x.d, .int .i64 x.s, .int .u8 x.v.k, .int .u64 x.v.b, .int .i64 x.v.d, .int .i64 x.v.s, .int .u64 x.bits, .int .u8 x.op, .slice x.A x.ns.length x.c]] w fun e w' => e = .returned (.bool true) ∧ Below w.heap.size w w' := by
  have HS := Aside0.mk (LawW.start w x)
  have HN := Aside0.mk (fun (W : World) (hB : Below w.heap.size w W) => New_no A c fn W h.ok (h.tab.below hB) (Kd.C_below h.fns hB) h.fnc hn)
  have HG13 := Aside0.mk (fun (W : World) (hB : Below w.heap.size w W) => Great13_calls A c fn W (Kd.C_below h.fns hB) h.fnc)
  have HG19 := Aside0.mk (fun (W : World) (hB : Below w.heap.size w W) => Great19_calls B e l W (Kd.C_below h.row hB) h.rowc)
  have HAw := Aside0.mk (fun (W : World) (hB : Below w.heap.size w W) => awake_calls W (h.tab.below hB))
  clear h hn
  go_enter Tryd.func3, Tryd.ntmps3
  by_cases h13 : great13 fn = true
  · rw [h13] at HG13
    clear h13
    go_wp2_with first
      | (go_at_call 9; refine (HN.out _ HS.out.below).mono ?_; rintro e w1 ⟨rfl, hb⟩; have H1 := Aside0.mk (HS.out.step hb); clear hb)
      | (go_at_call 10; refine (HG13.out _ H1.out.below).mono ?_; rintro e w2 ⟨rfl, hb⟩; have H2 := Aside0.mk (H1.out.step hb); clear hb)
      | (go_at_call 12; refine (HAw.out _ H2.out.below).mono ?_; rintro e w3 ⟨rfl, hb⟩; have H3 := Aside0.mk (H2.out.step hb); clear hb)
    go_ret
    exact ⟨rfl, H3.out.below⟩
  · have h13' : great13 fn = false := by simpa using h13
    rw [h13'] at HG13
    clear h13 h13'
    by_cases h19 : great19 l = true
    · rw [h19] at HG19
      clear h19
      go_wp2_with first
        | (go_at_call 9; refine (HN.out _ HS.out.below).mono ?_; rintro e w1 ⟨rfl, hb⟩; have H1 := Aside0.mk (HS.out.step hb); clear hb)
        | (go_at_call 10; refine (HG13.out _ H1.out.below).mono ?_; rintro e w2 ⟨rfl, hb⟩; have H2 := Aside0.mk (H1.out.step hb); clear hb)
        | (go_at_call 11; refine (HG19.out _ H2.out.below).mono ?_; rintro e w3 ⟨rfl, hb⟩; have H3 := Aside0.mk (H2.out.step hb); clear hb)
        | (go_at_call 12; refine (HAw.out _ H3.out.below).mono ?_; rintro e w4 ⟨rfl, hb⟩; have H4 := Aside0.mk (H3.out.step hb); clear hb)
      go_ret
      exact ⟨rfl, H4.out.below⟩
    · have h19' : great19 l = false := by simpa using h19
      rw [h19'] at HG19
      clear h19 h19'
      go_wp2_with first
        | (go_at_call 9; refine (HN.out _ HS.out.below).mono ?_; rintro e w1 ⟨rfl, hb⟩; have H1 := Aside0.mk (HS.out.step hb); clear hb)
        | (go_at_call 10; refine (HG13.out _ H1.out.below).mono ?_; rintro e w2 ⟨rfl, hb⟩; have H2 := Aside0.mk (H1.out.step hb); clear hb)
        | (go_at_call 11; refine (HG19.out _ H2.out.below).mono ?_; rintro e w3 ⟨rfl, hb⟩; have H3 := Aside0.mk (H2.out.step hb); clear hb)
        | (go_at_call 12; refine (HAw.out _ H3.out.below).mono ?_; rintro e w4 ⟨rfl, hb⟩; have H4 := Aside0.mk (H3.out.step hb); clear hb)
      go_ret
      exact ⟨rfl, H4.out.below⟩
end Go.Proofs.YtfaghjadjpiaiaaDoor.Sh
namespace Go.Proofs.YtfaghjadjpiaiaaDoor.Sh
open Go.RowKit Go.Shelf Go.Proofs.YtfaghjadjpiaiaaDoorW.PrintWords Go.Proofs.YtfaghjadjpiaiaaDoorW.PrintLast Go.Proofs.YtfaghjadjpiaiaaDoorW.PrintMore
set_option linter.unusedVariables false
set_option linter.unusedSimpArgs false
attribute [local go_sem high] eqVl
theorem tab_eq {fn : List Fn0} {t t' : List Ent} (hn : newB fn = true) (hu : ∀ f ∈ fn, FnOk f) (h : TabOk fn t) (h' : TabOk fn t') : tSize t = tSize t' ∧ tPtr t = tPtr t' :=
  ⟨funext fun f => by rw [size_doc h, size_doc h'], funext fun f => funext fun j => by rw [ptr_doc h hn hu, ptr_doc h' hn hu]⟩
theorem fits_eq {t t' : List Ent} (h2 : tPtr t = tPtr t') (l : List Fr) : fitsE t l = fitsE t' l := by
  funext d s v
  unfold fitsE
  rw [h2]
theorem rightE_eq {t t' : List Ent} (h1 : tSize t = tSize t') (h2 : tPtr t = tPtr t') (l : List Fr) : rightE t l = rightE t' l := by
  have hs : shapeOk t = shapeOk t' := by funext f; unfold shapeOk; rw [h1]
  have hf : slotErrs t l = slotErrs t' l := by funext d; unfold slotErrs; rw [fits_eq h2]
  unfold rightE allErrs
  rw [hs, hf]
theorem actE_eq {t t' : List Ent} (h1 : tSize t = tSize t') (h2 : tPtr t = tPtr t') (l : List Fr) (x : Ac) : actE t l x = actE t' l x := by
  unfold actE callE setE writeE refE calcErr
  rw [h1, h2, fits_eq h2]
set_option maxRecDepth 100000 in
set_option maxHeartbeats 4000000 in
theorem law_early (A : Option Addr) (c : Nat) (fn : List Fn0) (B : Option Addr) (e : Nat) (l : List Fr) (x : Ac) (w : World) (h : LawIn w A c fn B e l x) (hn : newB fn = true) (hE : great13 fn = true ∨ great19 l = true ∨ (x.ns.length : Int) > 10) :
    Calls Tryd.prog 3 #[.slice A fn.length c, .slice B l.length e, .agg #[.int .i64 x.kind, .int .i64 x.f, .int .i64 x.d, .int .i64 x.s, .int .u8 x.v.k, .int .u64 x.v.b, .int .i64 x.v.d, .int .i64 x.v.s, .int .u64 x.bits, .int .u8 x.op, .slice x.A x.ns.length x.c]] w fun e w' => e = .returned (.bool true) ∧ Below w.heap.size w w' := by
  have HIn := Aside0.mk h
  have HNew := Aside0.mk hn
  have HS := Aside0.mk (LawW.start w x)
  have HN := Aside0.mk (fun (W : World) (hB : Below w.heap.size w W) => New_ok A c fn W h.ok (h.tab.below hB) (Kd.C_below h.fns hB) h.fnc hn)
  have HG13 := Aside0.mk (fun (W : World) (hB : Below w.heap.size w W) => Great13_calls A c fn W (Kd.C_below h.fns hB) h.fnc)
  have HG19 := Aside0.mk (fun (W : World) (hB : Below w.heap.size w W) => Great19_calls B e l W (Kd.C_below h.row hB) h.rowc)
  have HAw := Aside0.mk (fun (W : World) (hB : Below w.heap.size w W) => awake_calls W (h.tab.below hB))
  have hmax : (x.ns.length : Int) ≤ 9223372036854775807 := by have := h.act.row.2.1; omega
  have HE := Aside0.mk hE
  clear h hn hE
  go_enter Tryd.func3, Tryd.ntmps3
  by_cases h13 : great13 fn = true
  · rw [h13] at HG13
    clear h13
    go_wp2_with first
      | (go_at_call 9; refine (HN.out _ HS.out.below).mono ?_; rintro e w1 ⟨a, t, rfl, _, _, _, hb⟩; have H1 := Aside0.mk (HS.out.step hb); clear hb)
      | (go_at_call 10; refine (HG13.out _ H1.out.below).mono ?_; rintro e w2 ⟨rfl, hb⟩; have H2 := Aside0.mk (H1.out.step hb); clear hb)
      | (go_at_call 12; refine (HAw.out _ H2.out.below).mono ?_; rintro e w3 ⟨rfl, hb⟩; have H3 := Aside0.mk (H2.out.step hb); clear hb)
    go_ret
    exact ⟨rfl, H3.out.below⟩
  have HN13 := Aside0.mk h13
  have h13' : great13 fn = false := by simpa using h13
  rw [h13'] at HG13
  clear h13 h13'
  by_cases h19 : great19 l = true
  · rw [h19] at HG19
    clear h19
    go_wp2_with first
      | (go_at_call 9; refine (HN.out _ HS.out.below).mono ?_; rintro e w1 ⟨a, t, rfl, _, _, _, hb⟩; have H1 := Aside0.mk (HS.out.step hb); clear hb)
      | (go_at_call 10; refine (HG13.out _ H1.out.below).mono ?_; rintro e w2 ⟨rfl, hb⟩; have H2 := Aside0.mk (H1.out.step hb); clear hb)
      | (go_at_call 11; refine (HG19.out _ H2.out.below).mono ?_; rintro e w3 ⟨rfl, hb⟩; have H3 := Aside0.mk (H2.out.step hb); clear hb)
      | (go_at_call 12; refine (HAw.out _ H3.out.below).mono ?_; rintro e w4 ⟨rfl, hb⟩; have H4 := Aside0.mk (H3.out.step hb); clear hb)
    go_ret
    exact ⟨rfl, H4.out.below⟩
  have HN19 := Aside0.mk h19
  have h19' : great19 l = false := by simpa using h19
  rw [h19'] at HG19
  have HSm := Aside0.mk (great_small h19')
  have HGr := Aside0.mk h19'
  clear h19 h19'
  by_cases h10 : (x.ns.length : Int) > 10
  · have hd10 : decide ((x.ns.length : Int) > 10) = true := decide_eq_true h10
    clear h10
    go_wp2_with first
      | (go_at_call 9; refine (HN.out _ HS.out.below).mono ?_; rintro e w1 ⟨a, t, rfl, _, _, _, hb⟩; have H1 := Aside0.mk (HS.out.step hb); clear hb)
      | (go_at_call 10; refine (HG13.out _ H1.out.below).mono ?_; rintro e w2 ⟨rfl, hb⟩; have H2 := Aside0.mk (H1.out.step hb); clear hb)
      | (go_at_call 11; refine (HG19.out _ H2.out.below).mono ?_; rintro e w3 ⟨rfl, hb⟩; have H3 := Aside0.mk (H2.out.step hb); clear hb; have c10 : w3.cell? ⟨w.heap.size, 10, none⟩ = some (.slice x.A x.ns.length x.c) := (blk_cell H3.out.act 10).trans rfl)
      | (go_at_call 12; refine (HAw.out _ H3.out.below).mono ?_; rintro e w4 ⟨rfl, hb⟩; have H4 := Aside0.mk (H3.out.step hb); clear hb)
    go_ret
    exact ⟨rfl, H4.out.below⟩
  rcases HE.out with hc | hc | hc
  · exact absurd hc HN13.out
  · exact absurd hc HN19.out
  · exact absurd hc h10
set_option maxRecDepth 100000 in
set_option maxHeartbeats 4000000 in
theorem law_wrong (A : Option Addr) (c : Nat) (fn : List Fn0) (B : Option Addr) (e : Nat) (l : List Fr) (x : Ac) (w : World) (h : LawIn w A c fn B e l x) (hn : newB fn = true) (h13 : great13 fn = false) (h19 : great19 l = false) (h10 : ¬ (x.ns.length : Int) > 10) (hR : ∀ t, TabOk fn t → rightE t l ≠ 0) :
    Calls Tryd.prog 3 #[.slice A fn.length c, .slice B l.length e, .agg #[.int .i64 x.kind, .int .i64 x.f, .int .i64 x.d, .int .i64 x.s, .int .u8 x.v.k, .int .u64 x.v.b, .int .i64 x.v.d, .int .i64 x.v.s, .int .u64 x.bits, .int .u8 x.op, .slice x.A x.ns.length x.c]] w fun e w' => e = .returned (.bool true) ∧ Below w.heap.size w w' := by
  have HIn := Aside0.mk h
  have HNew := Aside0.mk hn
  have HS := Aside0.mk (LawW.start w x)
  have HN := Aside0.mk (fun (W : World) (hB : Below w.heap.size w W) => New_ok A c fn W h.ok (h.tab.below hB) (Kd.C_below h.fns hB) h.fnc hn)
  have HG13 := Aside0.mk (fun (W : World) (hB : Below w.heap.size w W) => Great13_calls A c fn W (Kd.C_below h.fns hB) h.fnc)
  have HG19 := Aside0.mk (fun (W : World) (hB : Below w.heap.size w W) => Great19_calls B e l W (Kd.C_below h.row hB) h.rowc)
  have HAw := Aside0.mk (fun (W : World) (hB : Below w.heap.size w W) => awake_calls W (h.tab.below hB))
  have hmax : (x.ns.length : Int) ≤ 9223372036854775807 := by have := h.act.row.2.1; omega
  have HR := Aside0.mk hR
  rw [h13] at HG13
  rw [h19] at HG19
  have HSm := Aside0.mk (great_small h19)
  have HGr := Aside0.mk h19
  clear h hn hR h13 h19
  go_enter Tryd.func3, Tryd.ntmps3
  have hd10 : decide ((x.ns.length : Int) > 10) = false := decide_eq_false h10
  clear h10
  go_wp2_with first
    | (go_at_call 9
       refine (HN.out _ HS.out.below).mono ?_
       rintro e w1 ⟨a, t, rfl, hT, hO, ha, hb⟩
       have H1 := Aside0.mk (HS.out.step hb)
       have HT := Aside0.mk hT
       have HO := Aside0.mk hO
       clear hb hT hO ha)
    | (go_at_call 10
       refine (HG13.out _ H1.out.below).mono ?_
       rintro e w2 ⟨rfl, hb⟩
       have H2 := Aside0.mk (H1.out.step hb)
       have HB2 := Aside0.mk hb
       clear hb)
    | (go_at_call 11
       refine (HG19.out _ H2.out.below).mono ?_
       rintro e w3 ⟨rfl, hb⟩
       have H3 := Aside0.mk (H2.out.step hb)
       have HT3 := Aside0.mk ((HT.out.below HB2.out).below hb)
       have c10 : w3.cell? ⟨w.heap.size, 10, none⟩ = some (.slice x.A x.ns.length x.c) := (blk_cell H3.out.act 10).trans rfl
       clear hb)
    | (go_at_call 13
       have HRR := RefRight_calls HO.out HNew.out HIn.out.ok HIn.out.wf HSm.out A c B _ _ (Kd.C_below HIn.out.fns H3.out.below) HIn.out.fnc (Kd.C_below HIn.out.row H3.out.below) HIn.out.rowc
       have hrb : (rightE t l == 0) = false := beq_eq_false_iff_ne.2 (HR.out t HO.out)
       rw [hrb] at HRR
       refine HRR.mono ?_
       clear HRR hrb
       rintro e w4 ⟨rfl, hb⟩
       have H4 := Aside0.mk (H3.out.step hb)
       have HT4 := Aside0.mk (HT3.out.below hb)
       clear hb c10
       have c0 : w4.cell? ⟨w.heap.size, 0, none⟩ = some (.int .i64 x.kind) := (blk_cell H4.out.act 0).trans rfl
       have c1 : w4.cell? ⟨w.heap.size, 1, none⟩ = some (.int .i64 x.f) := (blk_cell H4.out.act 1).trans rfl
       have c2 : w4.cell? ⟨w.heap.size, 2, none⟩ = some (.int .i64 x.d) := (blk_cell H4.out.act 2).trans rfl
       have c3 : w4.cell? ⟨w.heap.size, 3, none⟩ = some (.int .i64 x.s) := (blk_cell H4.out.act 3).trans rfl
       have c4 : w4.cell? ⟨w.heap.size, 4, none⟩ = some (.int .u8 x.v.k) := (blk_cell H4.out.act 4).trans rfl
       have c5 : w4.cell? ⟨w.heap.size, 5, none⟩ = some (.int .u64 x.v.b) := (blk_cell H4.out.act 5).trans rfl
       have c6 : w4.cell? ⟨w.heap.size, 6, none⟩ = some (.int .i64 x.v.d) := (blk_cell H4.out.act 6).trans rfl
       have c7 : w4.cell? ⟨w.heap.size, 7, none⟩ = some (.int .i64 x.v.s) := (blk_cell H4.out.act 7).trans rfl
       have c8 : w4.cell? ⟨w.heap.size, 8, none⟩ = some (.int .u64 x.bits) := (blk_cell H4.out.act 8).trans rfl
       have c9 : w4.cell? ⟨w.heap.size, 9, none⟩ = some (.int .u8 x.op) := (blk_cell H4.out.act 9).trans rfl
       have c10 : w4.cell? ⟨w.heap.size, 10, none⟩ = some (.slice x.A x.ns.length x.c) := (blk_cell H4.out.act 10).trans rfl)
    | (go_at_call 14
       refine (Does_calls a t B _ l x _ ⟨HT4.out, tab_all HO.out, Kd.C_below HIn.out.row H4.out.below, HIn.out.rowc⟩ HSm.out (tab_size HNew.out HO.out _) ⟨HIn.out.act.s, HIn.out.act.ns, Kd.C_below HIn.out.act.row H4.out.below⟩).mono ?_
       intro e w5 he
       have hre := HR.out t HO.out
       have e1 : chRow t l (actE t l x) (actRow t l x) = l := if_neg (fun hh => hre hh.1)
       have e2 : chErr t l (actE t l x) = 9 := if_neg hre
       have ev : ∀ y u, askVal t l y u = zVl := fun y u => if_neg (fun hh => hre hh.1)
       have e3 : actVal t l x = zVl := by
         unfold actVal
         rw [ev, ev]
         split
         · rfl
         split <;> rfl
       unfold DoesPost at he
       rw [e1, e2, e3] at he
       obtain ⟨A5, e5, rfl, g1, g2, g3⟩ := he
       have H5 := Aside0.mk (H4.out.step g3)
       have G1 := Aside0.mk g1
       have G2 := Aside0.mk g2
       have hk0 : zVl.k = 0 := rfl
       have hk1 : zVl.b = 0 := rfl
       have hk2 : zVl.d = 0 := rfl
       have hk3 : zVl.s = 0 := rfl
       clear g1 g2 g3 c0 c1 c2 c3 c4 c5 c6 c7 c8 c9 c10 hre e1 e2 ev e3)
    | (go_at_call 15
       have hb5 := below_alloc (Below.refl w5.heap.size w5) (.cells #[.int .u8 0, .int .u64 0, .int .i64 0, .int .i64 0] 26)
       have H6 := Aside0.mk (H5.out.step hb5)
       refine (Same_calls A5 e5 B _ l _ (Kd.C_below G1.out hb5) G2.out (Kd.C_below HIn.out.row H6.out.below) HIn.out.rowc HSm.out).mono ?_
       rintro e w7 ⟨rfl, hb⟩
       have H7 := Aside0.mk (H6.out.step hb)
       clear hb hb5)
    | (go_at_call 12
       refine (HAw.out _ H7.out.below).mono ?_
       rintro e w8 ⟨rfl, hb⟩
       have H8 := Aside0.mk (H7.out.step hb)
       clear hb)
  go_ret
  exact ⟨rfl, H8.out.below⟩
end Go.Proofs.YtfaghjadjpiaiaaDoor.Sh
namespace Go.Proofs.YtfaghjadjpiaiaaDoor.Sh
open Go.RowKit Go.Shelf Go.Proofs.YtfaghjadjpiaiaaDoorW.PrintWords Go.Proofs.YtfaghjadjpiaiaaDoorW.PrintLast Go.Proofs.YtfaghjadjpiaiaaDoorW.PrintMore
set_option linter.unusedVariables false
set_option linter.unusedSimpArgs false
set_option maxRecDepth 100000 in
set_option maxHeartbeats 4000000 in
theorem law_good (A : Option Addr) (c : Nat) (fn : List Fn0) (B : Option Addr) (e : Nat) (l : List Fr) (x : Ac) (w : World) (h : LawIn w A c fn B e l x) (hn : newB fn = true) (h13 : great13 fn = false) (h19 : great19 l = false) (h10 : ¬ (x.ns.length : Int) > 10) (hR : ∀ t, TabOk fn t → rightE t l = 0) (hA : ∀ t, TabOk fn t → actE t l x = 0) :
    Calls Tryd.prog 3 #[.slice A fn.length c, .slice B l.length e, .agg #[.int .i64 x.kind, .int .i64 x.f, .int .i64 x.d, .int .i64 x.s, .int .u8 x.v.k, .int .u64 x.v.b, .int .i64 x.v.d, .int .i64 x.v.s, .int .u64 x.bits, .int .u8 x.op, .slice x.A x.ns.length x.c]] w fun e w' => e = .returned (.bool true) ∧ Below w.heap.size w w' := by
  have HIn := Aside0.mk h
  have HNew := Aside0.mk hn
  have HS := Aside0.mk (LawW.start w x)
  have HN := Aside0.mk (fun (W : World) (hB : Below w.heap.size w W) => New_ok A c fn W h.ok (h.tab.below hB) (Kd.C_below h.fns hB) h.fnc hn)
  have HG13 := Aside0.mk (fun (W : World) (hB : Below w.heap.size w W) => Great13_calls A c fn W (Kd.C_below h.fns hB) h.fnc)
  have HG19 := Aside0.mk (fun (W : World) (hB : Below w.heap.size w W) => Great19_calls B e l W (Kd.C_below h.row hB) h.rowc)
  have HAw := Aside0.mk (fun (W : World) (hB : Below w.heap.size w W) => awake_calls W (h.tab.below hB))
  have hmax : (x.ns.length : Int) ≤ 9223372036854775807 := by have := h.act.row.2.1; omega
  have HR := Aside0.mk hR
  have HA := Aside0.mk hA
  rw [h13] at HG13
  rw [h19] at HG19
  have HSm := Aside0.mk (great_small h19)
  have HGr := Aside0.mk h19
  clear h hn hR hA h13 h19
  go_enter Tryd.func3, Tryd.ntmps3
  have hd10 : decide ((x.ns.length : Int) > 10) = false := decide_eq_false h10
  clear h10
  go_wp2_with first
    | (go_at_call 9
       refine (HN.out _ HS.out.below).mono ?_
       rintro e w1 ⟨a, t, rfl, hT, hO, ha, hb⟩
       have H1 := Aside0.mk (HS.out.step hb)
       have HT := Aside0.mk hT
       have HO := Aside0.mk hO
       clear hb hT hO ha)
    | (go_at_call 10
       refine (HG13.out _ H1.out.below).mono ?_
       rintro e w2 ⟨rfl, hb⟩
       have H2 := Aside0.mk (H1.out.step hb)
       have HB2 := Aside0.mk hb
       clear hb)
    | (go_at_call 11
       refine (HG19.out _ H2.out.below).mono ?_
       rintro e w3 ⟨rfl, hb⟩
       have H3 := Aside0.mk (H2.out.step hb)
       have HT3 := Aside0.mk ((HT.out.below HB2.out).below hb)
       have c10 : w3.cell? ⟨w.heap.size, 10, none⟩ = some (.slice x.A x.ns.length x.c) := (blk_cell H3.out.act 10).trans rfl
       clear hb)
    | (go_at_call 13
       have HGo := HRR2.out
       have hb5 := below_alloc (Below.refl w5.heap.size w5) (.cells #[.int .u8 val.k, .int .u64 val.b, .int .i64 val.d, .int .i64 val.s] 26)
       have H6 := Aside0.mk (H5.out.step hb5)
       refine (HRR2.out _ H6.out.below (Kd.C_below G1.out hb5)).mono ?_
       rintro e w7 ⟨rfl, hb⟩
       have H7 := Aside0.mk (H6.out.step hb)
       clear hb hb5 HGo)
    | (go_at_call 13
       have HRR := RefRight_calls HO.out HNew.out HIn.out.ok HIn.out.wf HSm.out A c B _ _ (Kd.C_below HIn.out.fns H3.out.below) HIn.out.fnc (Kd.C_below HIn.out.row H3.out.below) HIn.out.rowc
       have hrb : (rightE t l == 0) = true := by rw [HR.out t HO.out]; rfl
       rw [hrb] at HRR
       refine HRR.mono ?_
       clear HRR hrb
       rintro e w4 ⟨rfl, hb⟩
       have H4 := Aside0.mk (H3.out.step hb)
       have HT4 := Aside0.mk (HT3.out.below hb)
       clear hb c10
       have c0 : w4.cell? ⟨w.heap.size, 0, none⟩ = some (.int .i64 x.kind) := (blk_cell H4.out.act 0).trans rfl
       have c1 : w4.cell? ⟨w.heap.size, 1, none⟩ = some (.int .i64 x.f) := (blk_cell H4.out.act 1).trans rfl
       have c2 : w4.cell? ⟨w.heap.size, 2, none⟩ = some (.int .i64 x.d) := (blk_cell H4.out.act 2).trans rfl
       have c3 : w4.cell? ⟨w.heap.size, 3, none⟩ = some (.int .i64 x.s) := (blk_cell H4.out.act 3).trans rfl
       have c4 : w4.cell? ⟨w.heap.size, 4, none⟩ = some (.int .u8 x.v.k) := (blk_cell H4.out.act 4).trans rfl
       have c5 : w4.cell? ⟨w.heap.size, 5, none⟩ = some (.int .u64 x.v.b) := (blk_cell H4.out.act 5).trans rfl
       have c6 : w4.cell? ⟨w.heap.size, 6, none⟩ = some (.int .i64 x.v.d) := (blk_cell H4.out.act 6).trans rfl
       have c7 : w4.cell? ⟨w.heap.size, 7, none⟩ = some (.int .i64 x.v.s) := (blk_cell H4.out.act 7).trans rfl
       have c8 : w4.cell? ⟨w.heap.size, 8, none⟩ = some (.int .u64 x.bits) := (blk_cell H4.out.act 8).trans rfl
       have c9 : w4.cell? ⟨w.heap.size, 9, none⟩ = some (.int .u8 x.op) := (blk_cell H4.out.act 9).trans rfl
       have c10 : w4.cell? ⟨w.heap.size, 10, none⟩ = some (.slice x.A x.ns.length x.c) := (blk_cell H4.out.act 10).trans rfl)
    | (go_at_call 14
       refine (Does_calls a t B _ l x _ ⟨HT4.out, tab_all HO.out, Kd.C_below HIn.out.row H4.out.below, HIn.out.rowc⟩ HSm.out (tab_size HNew.out HO.out _) ⟨HIn.out.act.s, HIn.out.act.ns, Kd.C_below HIn.out.act.row H4.out.below⟩).mono ?_
       intro e w5 he
       have hre := HR.out t HO.out
       have hae := HA.out t HO.out
       have e1 : chRow t l (actE t l x) (actRow t l x) = actRow t l x := if_pos ⟨hre, hae⟩
       have e2 : chErr t l (actE t l x) = 0 := (if_pos hre).trans hae
       unfold DoesPost at he
       rw [e1, e2] at he
       obtain ⟨A5, e5, rfl, g1, g2, g3⟩ := he
       have H5 := Aside0.mk (H4.out.step g3)
       have G1 := Aside0.mk g1
       have G2 := Aside0.mk g2
       have HRR2 := Aside0.mk (fun (W : World) (hB : Below w.heap.size w W) (hC : kFr.C W A5 (actRow t l x).length (actRow t l x)) => RefRight_calls HO.out HNew.out HIn.out.ok (act_wf (t := t) x HIn.out.wf HIn.out.val) (act_small (t := t) x HGr.out (tab_size HNew.out HO.out _)) A c A5 e5 W (Kd.C_below HIn.out.fns hB) HIn.out.fnc hC g2)
       rw [show (rightE t (actRow t l x) == 0) = true by rw [act_right x hre hae]; rfl] at HRR2
       generalize actRow t l x = own at *
       generalize actVal t l x = val at *
       clear g1 g2 g3 c0 c1 c2 c3 c4 c5 c6 c7 c8 c9 c10 hre hae e1 e2)
    | (go_at_call 12
       refine (HAw.out _ H7.out.below).mono ?_
       rintro e w8 ⟨rfl, hb⟩
       have H8 := Aside0.mk (H7.out.step hb)
       clear hb)
  go_ret
  exact ⟨rfl, H8.out.below⟩
end Go.Proofs.YtfaghjadjpiaiaaDoor.Sh
namespace Go.Proofs.YtfaghjadjpiaiaaDoor.Sh
open Go.RowKit Go.Shelf Go.Proofs.YtfaghjadjpiaiaaDoorW.PrintWords Go.Proofs.YtfaghjadjpiaiaaDoorW.PrintLast Go.Proofs.YtfaghjadjpiaiaaDoorW.PrintMore
set_option linter.unusedVariables false
set_option linter.unusedSimpArgs false
set_option maxRecDepth 100000 in
set_option maxHeartbeats 4000000 in
theorem law_err (A : Option Addr) (c : Nat) (fn : List Fn0) (B : Option Addr) (e : Nat) (l : List Fr) (x : Ac) (w : World) (h : LawIn w A c fn B e l x) (hn : newB fn = true) (h13 : great13 fn = false) (h19 : great19 l = false) (h10 : ¬ (x.ns.length : Int) > 10) (hR : ∀ t, TabOk fn t → rightE t l = 0) (hA : ∀ t, TabOk fn t → actE t l x ≠ 0) :
    Calls Tryd.prog 3 #[.slice A fn.length c, .slice B l.length e, .agg #[.int .i64 x.kind, .int .i64 x.f, .int .i64 x.d, .int .i64 x.s, .int .u8 x.v.k, .int .u64 x.v.b, .int .i64 x.v.d, .int .i64 x.v.s, .int .u64 x.bits, .int .u8 x.op, .slice x.A x.ns.length x.c]] w fun e w' => e = .returned (.bool true) ∧ Below w.heap.size w w' := by
  have HIn := Aside0.mk h
  have HNew := Aside0.mk hn
  have HS := Aside0.mk (LawW.start w x)
  have HN := Aside0.mk (fun (W : World) (hB : Below w.heap.size w W) => New_ok A c fn W h.ok (h.tab.below hB) (Kd.C_below h.fns hB) h.fnc hn)
  have HG13 := Aside0.mk (fun (W : World) (hB : Below w.heap.size w W) => Great13_calls A c fn W (Kd.C_below h.fns hB) h.fnc)
  have HG19 := Aside0.mk (fun (W : World) (hB : Below w.heap.size w W) => Great19_calls B e l W (Kd.C_below h.row hB) h.rowc)
  have HAw := Aside0.mk (fun (W : World) (hB : Below w.heap.size w W) => awake_calls W (h.tab.below hB))
  have hmax : (x.ns.length : Int) ≤ 9223372036854775807 := by have := h.act.row.2.1; omega
  have HR := Aside0.mk hR
  have HA := Aside0.mk hA
  rw [h13] at HG13
  rw [h19] at HG19
  have HSm := Aside0.mk (great_small h19)
  have HGr := Aside0.mk h19
  clear h hn hR hA h13 h19
  go_enter Tryd.func3, Tryd.ntmps3
  have hd10 : decide ((x.ns.length : Int) > 10) = false := decide_eq_false h10
  clear h10
  go_wp2_with first
    | (go_at_call 9
       refine (HN.out _ HS.out.below).mono ?_
       rintro e w1 ⟨a, t, rfl, hT, hO, ha, hb⟩
       have H1 := Aside0.mk (HS.out.step hb)
       have HT := Aside0.mk hT
       have HO := Aside0.mk hO
       clear hb hT hO ha)
    | (go_at_call 10
       refine (HG13.out _ H1.out.below).mono ?_
       rintro e w2 ⟨rfl, hb⟩
       have H2 := Aside0.mk (H1.out.step hb)
       have HB2 := Aside0.mk hb
       clear hb)
    | (go_at_call 11
       refine (HG19.out _ H2.out.below).mono ?_
       rintro e w3 ⟨rfl, hb⟩
       have H3 := Aside0.mk (H2.out.step hb)
       have HT3 := Aside0.mk ((HT.out.below HB2.out).below hb)
       have c10 : w3.cell? ⟨w.heap.size, 10, none⟩ = some (.slice x.A x.ns.length x.c) := (blk_cell H3.out.act 10).trans rfl
       clear hb)
    | (go_at_call 13
       have HGo := HRR2.out
       have hb5 := below_alloc (Below.refl w5.heap.size w5) (.cells #[.int .u8 val.k, .int .u64 val.b, .int .i64 val.d, .int .i64 val.s] 26)
       have H6 := Aside0.mk (H5.out.step hb5)
       have G6 := Aside0.mk (Kd.C_below G1.out hb5)
       refine (HRR2.out _ H6.out.below G6.out).mono ?_
       rintro e w7 ⟨rfl, hb⟩
       have H7 := Aside0.mk (H6.out.step hb)
       have G7 := Aside0.mk (Kd.C_below G6.out hb)
       clear hb hb5 HGo)
    | (go_at_call 13
       have HRR := RefRight_calls HO.out HNew.out HIn.out.ok HIn.out.wf HSm.out A c B _ _ (Kd.C_below HIn.out.fns H3.out.below) HIn.out.fnc (Kd.C_below HIn.out.row H3.out.below) HIn.out.rowc
       have hrb : (rightE t l == 0) = true := by rw [HR.out t HO.out]; rfl
       rw [hrb] at HRR
       refine HRR.mono ?_
       clear HRR hrb
       rintro e w4 ⟨rfl, hb⟩
       have H4 := Aside0.mk (H3.out.step hb)
       have HT4 := Aside0.mk (HT3.out.below hb)
       clear hb c10
       have c0 : w4.cell? ⟨w.heap.size, 0, none⟩ = some (.int .i64 x.kind) := (blk_cell H4.out.act 0).trans rfl
       have c1 : w4.cell? ⟨w.heap.size, 1, none⟩ = some (.int .i64 x.f) := (blk_cell H4.out.act 1).trans rfl
       have c2 : w4.cell? ⟨w.heap.size, 2, none⟩ = some (.int .i64 x.d) := (blk_cell H4.out.act 2).trans rfl
       have c3 : w4.cell? ⟨w.heap.size, 3, none⟩ = some (.int .i64 x.s) := (blk_cell H4.out.act 3).trans rfl
       have c4 : w4.cell? ⟨w.heap.size, 4, none⟩ = some (.int .u8 x.v.k) := (blk_cell H4.out.act 4).trans rfl
       have c5 : w4.cell? ⟨w.heap.size, 5, none⟩ = some (.int .u64 x.v.b) := (blk_cell H4.out.act 5).trans rfl
       have c6 : w4.cell? ⟨w.heap.size, 6, none⟩ = some (.int .i64 x.v.d) := (blk_cell H4.out.act 6).trans rfl
       have c7 : w4.cell? ⟨w.heap.size, 7, none⟩ = some (.int .i64 x.v.s) := (blk_cell H4.out.act 7).trans rfl
       have c8 : w4.cell? ⟨w.heap.size, 8, none⟩ = some (.int .u64 x.bits) := (blk_cell H4.out.act 8).trans rfl
       have c9 : w4.cell? ⟨w.heap.size, 9, none⟩ = some (.int .u8 x.op) := (blk_cell H4.out.act 9).trans rfl
       have c10 : w4.cell? ⟨w.heap.size, 10, none⟩ = some (.slice x.A x.ns.length x.c) := (blk_cell H4.out.act 10).trans rfl)
    | (go_at_call 14
       refine (Does_calls a t B _ l x _ ⟨HT4.out, tab_all HO.out, Kd.C_below HIn.out.row H4.out.below, HIn.out.rowc⟩ HSm.out (tab_size HNew.out HO.out _) ⟨HIn.out.act.s, HIn.out.act.ns, Kd.C_below HIn.out.act.row H4.out.below⟩).mono ?_
       intro e w5 he
       have hre := HR.out t HO.out
       have hae := HA.out t HO.out
       have e1 : chRow t l (actE t l x) (actRow t l x) = l := if_neg (fun hh => hae hh.2)
       have e2 : chErr t l (actE t l x) = actE t l x := if_pos hre
       have hx9 : (actE t l x != 9) = true := bne_iff_ne.2 (act_ne t l x)
       have hx0 : (actE t l x == 0) = false := beq_eq_false_iff_ne.2 hae
       unfold DoesPost at he
       rw [e1, e2] at he
       obtain ⟨A5, e5, rfl, g1, g2, g3⟩ := he
       have H5 := Aside0.mk (H4.out.step g3)
       have G1 := Aside0.mk g1
       have G2 := Aside0.mk g2
       have HRR2 := Aside0.mk (fun (W : World) (hB : Below w.heap.size w W) (hC : kFr.C W A5 l.length l) => RefRight_calls HO.out HNew.out HIn.out.ok HIn.out.wf HSm.out A c A5 e5 W (Kd.C_below HIn.out.fns hB) HIn.out.fnc hC g2)
       rw [show (rightE t l == 0) = true by rw [hre]; rfl] at HRR2
       generalize actE t l x = X at *
       generalize actVal t l x = val at *
       clear g1 g2 g3 c0 c1 c2 c3 c4 c5 c6 c7 c8 c9 c10 hre hae e1 e2)
    | (go_at_call 15
       refine (Same_calls A5 e5 B _ l _ G7.out G2.out (Kd.C_below HIn.out.row H7.out.below) HIn.out.rowc HSm.out).mono ?_
       rintro e w9 ⟨rfl, hb⟩
       have H9 := Aside0.mk (H7.out.step hb)
       clear hb)
    | (go_at_call 12
       refine (HAw.out _ H9.out.below).mono ?_
       rintro e w8 ⟨rfl, hb⟩
       have H8 := Aside0.mk (H9.out.step hb)
       clear hb)
  go_ret
  exact ⟨rfl, H8.out.below⟩
end Go.Proofs.YtfaghjadjpiaiaaDoor.Sh
namespace Go.Proofs.YtfaghjadjpiaiaaDoor.Sh
open Go.RowKit Go.Shelf Go.Proofs.YtfaghjadjpiaiaaDoorW.PrintWords Go.Proofs.YtfaghjadjpiaiaaDoorW.PrintLast Go.Proofs.YtfaghjadjpiaiaaDoorW.PrintMore
set_option linter.unusedVariables false
set_option linter.unusedSimpArgs false
theorem law_calls (A : Option Addr) (c : Nat) (fn : List Fn0) (B : Option Addr) (e : Nat) (l : List Fr) (x : Ac) (w : World) (h : LawIn w A c fn B e l x) :
    Calls Tryd.prog 3 #[.slice A fn.length c, .slice B l.length e, .agg #[.int .i64 x.kind, .int .i64 x.f, .int .i64 x.d, .int .i64 x.s, .int .u8 x.v.k, .int .u64 x.v.b, .int .i64 x.v.d, .int .i64 x.v.s, .int .u64 x.bits, .int .u8 x.op, .slice x.A x.ns.length x.c]] w fun e w' => e = .returned (.bool true) ∧ Below w.heap.size w w' := by
  by_cases hn : newB fn = true
  rotate_left
  · exact law_no A c fn B e l x w h (by simpa using hn)
  by_cases h13 : great13 fn = true
  · exact law_early A c fn B e l x w h hn (Or.inl h13)
  by_cases h19 : great19 l = true
  · exact law_early A c fn B e l x w h hn (Or.inr (Or.inl h19))
  by_cases h10 : (x.ns.length : Int) > 10
  · exact law_early A c fn B e l x w h hn (Or.inr (Or.inr h10))
  have h13' : great13 fn = false := by simpa using h13
  have h19' : great19 l = false := by simpa using h19
  by_cases hR : ∀ t, TabOk fn t → rightE t l = 0
  · by_cases hA : ∀ t, TabOk fn t → actE t l x = 0
    · exact law_good A c fn B e l x w h hn h13' h19' h10 hR hA
    · refine law_err A c fn B e l x w h hn h13' h19' h10 hR (fun t ht h0 => hA (fun t' ht' => ?_))
      obtain ⟨e1, e2⟩ := tab_eq hn h.ok ht' ht
      rw [actE_eq e1 e2 l x]
      exact h0
  · refine law_wrong A c fn B e l x w h hn h13' h19' h10 (fun t ht h0 => hR (fun t' ht' => ?_))
    obtain ⟨e1, e2⟩ := tab_eq hn h.ok ht' ht
    rw [rightE_eq e1 e2 l]
    exact h0
end Go.Proofs.YtfaghjadjpiaiaaDoor.Sh
