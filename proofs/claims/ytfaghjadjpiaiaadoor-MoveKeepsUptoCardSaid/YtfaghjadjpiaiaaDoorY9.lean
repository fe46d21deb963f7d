/- A table that New has made, against the functions that it was made of: sizes, pointer slots. What a table that New has made is good for: its pointer slots, each once. What moving does to words: which word is raised. What was moved: its frames, its slots, its words. A moved picture: what walks and slots tell of it. The laws of moving, in plain words. MoveKeeps, in plain words. -/
import Derived.Test.YtfaghjadjpiaiaaDoorY2
import Derived.Test.YtfaghjadjpiaiaaDoorY8
namespace Go.Proofs.YtfaghjadjpiaiaaDoor.Sh
open Go.RowKit Go.Shelf Go.Proofs.YtfaghjadjpiaiaaDoorW.PrintWords Go.Proofs.YtfaghjadjpiaiaaDoorW.PrintLast Go.Proofs.YtfaghjadjpiaiaaDoorW.PrintMore
set_option linter.unusedVariables false
set_option linter.unusedSimpArgs false
theorem tab_ent {l : List Fn0} {t : List Ent} (h : TabOk l t) {f : Int} (hf : tHas t f = true) : ∃ g ∈ l, l[f.toNat]? = some g ∧ EntOk g (ent t f) := by
  have hf2 : 0 ≤ f ∧ f < t.length := by unfold tHas at hf; simpa using hf
  have ht : f.toNat < t.length := by omega
  have hl : f.toNat < l.length := by rw [← h.1]; exact ht
  refine ⟨l[f.toNat], List.getElem_mem hl, List.getElem?_eq_getElem hl, h.2 f.toNat _ _ (List.getElem?_eq_getElem hl) ?_⟩
  simp [ent, List.getElem?_eq_getElem ht]
theorem tab_size {l : List Fn0} {t : List Ent} (hn : newB l = true) (h : TabOk l t) (f : Int) : tSize t f ≤ 1000000 := by
  unfold tSize
  by_cases hf : tHas t f = true
  · rw [if_pos hf]
    obtain ⟨g, hg, _, he⟩ := tab_ent h hf
    rw [he.size]
    simp only [newB, Bool.and_eq_true, decide_eq_true_eq] at hn
    have h3 := hn.2.2
    have hm : mayB g = true := by
      have : (l.any fun f => !mayB f) = false := by simpa using h3
      have := List.any_eq_false.1 this g hg
      simpa using this
    simp only [mayB, Bool.and_eq_true, decide_eq_true_eq] at hm
    omega
  · rw [if_neg hf]
    omega
theorem tab_all {l : List Fn0} {t : List Ent} (h : TabOk l t) : AllE t := by
  intro e he
  obtain ⟨i, hi, rfl⟩ := List.getElem_of_mem he
  have hl : i < l.length := by rw [← h.1]; exact hi
  exact (h.2 i _ _ (List.getElem?_eq_getElem hl) (List.getElem?_eq_getElem hi)).all
/-- All bits of words, told by their places. -/
def rawFrom : Nat → List Int → List Int
  | _, [] => []
  | w, x :: r => ((ones x.toNat).map fun k => ((64 * w + k : Nat) : Int)) ++ rawFrom (w + 1) r
theorem bitsFrom_raw (n : Int) : ∀ (L : List Int) (w : Nat), bitsFrom n w L = (rawFrom w L).filter fun i => decide (i < n)
  | [], w => rfl
  | x :: r, w => by
    unfold bitsFrom rawFrom wordBits
    rw [List.filter_append, bitsFrom_raw n r (w + 1)]
theorem mem_raw : ∀ (L : List Int) (w : Nat) (j : Int), AllU L → (j ∈ rawFrom w L ↔ ∃ i : Nat, i < L.length ∧ ∃ k : Nat, (rd L i).toNat.testBit k = true ∧ j = ((64 * (w + i) + k : Nat) : Int))
  | [], w, j, h => by simp [rawFrom]
  | x :: r, w, j, h => by
    have hx := h x (by simp)
    have hr : AllU r := fun y hy => h y (by simp [hy])
    unfold rawFrom
    rw [List.mem_append, List.mem_map, mem_raw r (w + 1) j hr]
    have hx' : x.toNat < 18446744073709551616 := by have := hx.2; have := hx.1; omega
    constructor
    · rintro (⟨k, hk, rfl⟩ | ⟨i, hi, k, hk, rfl⟩)
      · exact ⟨0, by simp, k, by rw [mem_ones hx'] at hk; simpa [rd] using hk, by simp⟩
      · exact ⟨i + 1, by simp; omega, k, by simpa [rd] using hk, by congr 1; omega⟩
    · rintro ⟨i, hi, k, hk, rfl⟩
      cases i with
      | zero => exact Or.inl ⟨k, by rw [mem_ones hx']; simpa [rd] using hk, by simp⟩
      | succ i => exact Or.inr ⟨i, by simp at hi; omega, k, by simpa [rd] using hk, by congr 1; omega⟩
theorem test_lt {x k : Nat} (hx : x < 18446744073709551616) (h : x.testBit k = true) : k < 64 := by
  rcases Nat.lt_or_ge k 64 with h1 | h1
  · exact h1
  · have h2 : x < 2 ^ k := Nat.lt_of_lt_of_le hx (by
      have := Nat.pow_le_pow_right (show 0 < 2 by decide) h1
      simpa using this)
    rw [Nat.testBit_lt_two_pow h2] at h
    cases h
theorem raw_bit (b : List Int) (j : Int) (h : AllU b) : j ∈ rawFrom 0 b ↔ bitOf b j = true := by
  rw [mem_raw b 0 j h]
  unfold bitOf
  simp only [Bool.and_eq_true, decide_eq_true_eq]
  constructor
  · rintro ⟨i, hi, k, hk, rfl⟩
    have hu : U64 (rd b (i : Int)) := h _ (rd_mem (by omega) (by omega))
    have h64 := test_lt (show (rd b (i : Int)).toNat < 18446744073709551616 by have := hu.1; have := hu.2; omega) hk
    have e1 : ((64 * (0 + i) + k : Nat) : Int) / 64 = (i : Int) := by omega
    have e2 : ((64 * (0 + i) + k : Nat) : Int) % 64 = (k : Int) := by omega
    refine ⟨by omega, by rw [e1]; omega, ?_⟩
    rw [e1, e2]
    simpa using hk
  · rintro ⟨h0, h1, h2⟩
    refine ⟨(j / 64).toNat, by omega, (j % 64).toNat, ?_, by omega⟩
    have e : (((j / 64).toNat : Nat) : Int) = j / 64 := by omega
    rw [e]
    exact h2
theorem may_bits {f : Fn0} (hm : mayB f = true) (hu : AllU f.bits) (j : Int) : OfL (bitsOf f.bits f.size) j = bitOf f.bits j := by
  simp only [mayB, Bool.and_eq_true, decide_eq_true_eq] at hm
  obtain ⟨h0, h1, h2⟩ := hm
  have e : ∀ n, bitsOf f.bits n = (rawFrom 0 f.bits).filter fun i => decide (i < n) := fun n => bitsFrom_raw n f.bits 0
  rw [e, e] at h2
  have hall : (rawFrom 0 f.bits).filter (fun i : Int => decide (i < 64 * (f.bits.length : Int))) = rawFrom 0 f.bits := by
    rw [List.filter_eq_self]
    intro i hi
    rw [raw_bit f.bits i hu] at hi
    unfold bitOf at hi
    simp only [Bool.and_eq_true, decide_eq_true_eq] at hi
    simp; omega
  rw [hall] at h2
  have hsz : ∀ i ∈ rawFrom 0 f.bits, i < f.size := by
    have h3 := List.length_filter_eq_length_iff.1 h2.symm
    intro i hi
    simpa using h3 i hi
  rw [e, Bool.eq_iff_iff]
  unfold OfL
  simp only [Bool.and_eq_true, decide_eq_true_eq, List.mem_filter]
  constructor
  · rintro ⟨_, _, h, _⟩
    exact (raw_bit f.bits j hu).1 h
  · intro h
    have hr := (raw_bit f.bits j hu).2 h
    have hlt := hsz j hr
    have h5 : 0 ≤ j := by
      unfold bitOf at h
      simp only [Bool.and_eq_true, decide_eq_true_eq] at h
      exact h.1
    exact ⟨h5, by omega, hr, hlt⟩
/-- The document's table: its size and its pointer slots. -/
def fnAt (l : List Fn0) (f : Int) : Fn0 := l.getD f.toNat ⟨0, []⟩
theorem size_doc {l : List Fn0} {t : List Ent} (h : TabOk l t) (f : Int) : tSize t f = if 0 ≤ f ∧ f < l.length then (fnAt l f).size else -1 := by
  unfold tSize
  by_cases hh : tHas t f = true
  · obtain ⟨g, hg, hget, he⟩ := tab_ent h hh
    have hf2 : 0 ≤ f ∧ f < l.length := by
      unfold tHas at hh
      have h3 : 0 ≤ f ∧ f < t.length := by simpa using hh
      rw [← h.1]; exact h3
    rw [if_pos hh, if_pos hf2, he.size]
    unfold fnAt
    rw [List.getD_eq_getElem?_getD, hget]
    rfl
  · rw [if_neg hh, if_neg]
    rintro ⟨h0, h1⟩
    refine hh ?_
    unfold tHas
    rw [h.1]
    simp; omega
theorem ptr_doc {l : List Fn0} {t : List Ent} (h : TabOk l t) (hn : newB l = true) (hu : ∀ f ∈ l, FnOk f) (f j : Int) : tPtr t f j = (decide (0 ≤ f ∧ f < l.length) && bitOf (fnAt l f).bits j) := by
  unfold tPtr
  by_cases hh : tHas t f = true
  · obtain ⟨g, hg, hget, he⟩ := tab_ent h hh
    have hf2 : 0 ≤ f ∧ f < l.length := by
      unfold tHas at hh
      have h3 : 0 ≤ f ∧ f < t.length := by simpa using hh
      rw [← h.1]; exact h3
    have hfn : fnAt l f = g := by
      unfold fnAt
      rw [List.getD_eq_getElem?_getD, hget]
      rfl
    have hm : mayB g = true := by
      simp only [newB, Bool.and_eq_true, decide_eq_true_eq] at hn
      have h3 : (l.any fun f => !mayB f) = false := by simpa using hn.2.2
      have := List.any_eq_false.1 h3 g hg
      simpa using this
    rw [hh, hfn, he.bits, may_bits hm (hu g hg).bits, decide_eq_true hf2]
  · have hf2 : ¬ (0 ≤ f ∧ f < l.length) := by
      rintro ⟨h0, h1⟩
      refine hh ?_
      unfold tHas
      rw [h.1]
      simp; omega
    have hh' : tHas t f = false := by simpa using hh
    rw [hh', decide_eq_false hf2]
    simp
end Go.Proofs.YtfaghjadjpiaiaaDoor.Sh
namespace Go.Proofs.YtfaghjadjpiaiaaDoor.Sh
open Go.RowKit Go.Shelf Go.Proofs.YtfaghjadjpiaiaaDoorW.PrintWords Go.Proofs.YtfaghjadjpiaiaaDoorW.PrintLast Go.Proofs.YtfaghjadjpiaiaaDoorW.PrintMore
set_option linter.unusedVariables false
set_option linter.unusedSimpArgs false
theorem raw_ge : ∀ (L : List Int) (w : Nat) (j : Int), AllU L → j ∈ rawFrom w L → (64 * w : Int) ≤ j := by
  intro L w j h hj
  obtain ⟨i, _, k, _, rfl⟩ := (mem_raw L w j h).1 hj
  omega
theorem raw_sorted : ∀ (L : List Int) (w : Nat), AllU L → (rawFrom w L).Pairwise (· < ·)
  | [], w, h => List.Pairwise.nil
  | x :: r, w, h => by
    have hx := h x (by simp)
    have hr : AllU r := fun y hy => h y (by simp [hy])
    have hx' : x.toNat < 18446744073709551616 := by have := hx.2; have := hx.1; omega
    unfold rawFrom
    rw [List.pairwise_append]
    refine ⟨?_, raw_sorted r (w + 1) hr, ?_⟩
    · rw [List.pairwise_map]
      exact (ones_sorted hx').imp (fun h => by omega)
    · intro a ha b hb
      rw [List.mem_map] at ha
      obtain ⟨k, hk, rfl⟩ := ha
      have h64 := test_lt hx' ((mem_ones hx' k).1 hk)
      have := raw_ge r (w + 1) b hr hb
      omega
theorem bits_sorted (b : List Int) (n : Int) (h : AllU b) : (bitsOf b n).Pairwise (· < ·) := by
  unfold bitsOf
  rw [bitsFrom_raw]
  exact (raw_sorted b 0 h).filter _
/-- Pointer slots, each once. -/
structure PtrOk (t : List Ent) : Prop where
  once : ∀ f, (tPtrs t f).Nodup
  mem : ∀ f i, i ∈ tPtrs t f ↔ 0 ≤ i ∧ i < tSize t f ∧ tPtr t f i = true
theorem may_of {l : List Fn0} (hn : newB l = true) {g : Fn0} (hg : g ∈ l) : mayB g = true := by
  simp only [newB, Bool.and_eq_true, decide_eq_true_eq] at hn
  have h3 : (l.any fun f => !mayB f) = false := by simpa using hn.2.2
  have := List.any_eq_false.1 h3 g hg
  simpa using this
theorem bits_mem {b : List Int} {n i : Int} (h : AllU b) : i ∈ bitsOf b n ↔ bitOf b i = true ∧ i < n := by
  unfold bitsOf
  rw [bitsFrom_raw, List.mem_filter, raw_bit b i h]
  simp
theorem tab_ptrOk {l : List Fn0} {t : List Ent} (h : TabOk l t) (hn : newB l = true) (hu : ∀ f ∈ l, FnOk f) : PtrOk t := by
  refine ⟨fun f => ?_, fun f i => ?_⟩
  · unfold tPtrs
    split
    · rename_i hh
      obtain ⟨g, hg, _, he⟩ := tab_ent h hh
      rw [he.ptrs]
      exact (bits_sorted _ _ (hu g hg).bits).imp (fun h => by omega)
    · exact List.nodup_nil
  · unfold tPtrs tPtr tSize
    by_cases hh : tHas t f = true
    · rw [if_pos hh, if_pos hh, hh]
      obtain ⟨g, hg, _, he⟩ := tab_ent h hh
      rw [he.ptrs, he.bits, he.size, bits_mem (hu g hg).bits]
      have hm := may_of hn hg
      simp only [mayB, Bool.and_eq_true, decide_eq_true_eq] at hm
      unfold OfL
      simp only [Bool.true_and, Bool.and_eq_true, decide_eq_true_eq, bits_mem (hu g hg).bits]
      constructor
      · rintro ⟨h1, h2⟩
        have h0 : 0 ≤ i := by
          unfold bitOf at h1
          simp only [Bool.and_eq_true, decide_eq_true_eq] at h1
          exact h1.1
        exact ⟨h0, h2, h0, by omega, h1, h2⟩
      · rintro ⟨h0, h2, _, _, h1, _⟩
        exact ⟨h1, h2⟩
    · have hh' : tHas t f = false := by simpa using hh
      rw [if_neg hh, hh']
      simp
theorem tab_sizes {l : List Fn0} {t : List Ent} (h : TabOk l t) (hn : newB l = true) (f : Int) (hh : tHas t f = true) : 0 ≤ tSize t f ∧ tSize t f ≤ 1000 := by
  unfold tSize
  rw [if_pos hh]
  obtain ⟨g, hg, _, he⟩ := tab_ent h hh
  rw [he.size]
  have hm := may_of hn hg
  simp only [mayB, Bool.and_eq_true, decide_eq_true_eq] at hm
  exact ⟨hm.1, hm.2.1⟩
theorem tab_pos {l : List Fn0} {t : List Ent} (h : TabOk l t) (hn : newB l = true) : ∀ f, tHas t f = true → 0 ≤ tSize t f := fun f hh => (tab_sizes h hn f hh).1
theorem ptrs_I {t : List Ent} (hp : PtrOk t) (hs : ∀ f, tSize t f ≤ 1000) : ∀ f, AllI (tPtrs t f) := by
  intro f i hi
  obtain ⟨h0, h1, _⟩ := (hp.mem f i).1 hi
  have := hs f
  exact ⟨by omega, by omega⟩
theorem nodup_length {l : List Int} (h : l.Nodup) (n : Nat) (hb : ∀ i ∈ l, 0 ≤ i ∧ i < n) : l.length ≤ n := by
  have h1 : (l.map Int.toNat).Nodup := by
    rw [List.nodup_iff_pairwise_ne, List.pairwise_map]
    rw [List.nodup_iff_pairwise_ne] at h
    refine List.Pairwise.imp_of_mem (fun {a b} ha hb' hne => ?_) h
    have := hb a ha
    have := hb b hb'
    omega
  have h2 : l.map Int.toNat ⊆ List.range n := by
    intro k hk
    rw [List.mem_map] at hk
    obtain ⟨i, hi, rfl⟩ := hk
    have := hb i hi
    rw [List.mem_range]
    omega
  have := h1.length_le_of_subset h2
  simpa using this
theorem tab_fine {l : List Fn0} {t : List Ent} (h : TabOk l t) (hn : newB l = true) (hu : ∀ f ∈ l, FnOk f) : TabFine t := by
  have hs : ∀ f, -1 ≤ tSize t f ∧ tSize t f ≤ 1000 := by
    intro f
    by_cases hh : tHas t f = true
    · have := tab_sizes h hn f hh
      omega
    · unfold tSize
      rw [if_neg hh]
      omega
  refine ⟨?_, tab_all h, hs, fun f => ?_⟩
  · rw [h.1]
    simp only [newB, Bool.and_eq_true, decide_eq_true_eq] at hn
    exact hn.2.1
  · have hp := tab_ptrOk h hn hu
    have := nodup_length (hp.once f) 1000 (fun i hi => by
      obtain ⟨h0, h1, _⟩ := (hp.mem f i).1 hi
      have := (hs f).2
      omega)
    omega
end Go.Proofs.YtfaghjadjpiaiaaDoor.Sh
namespace Go.Proofs.YtfaghjadjpiaiaaDoor.Sh
open Go.RowKit Go.Shelf Go.Proofs.YtfaghjadjpiaiaaDoorW.PrintWords Go.Proofs.YtfaghjadjpiaiaaDoorW.PrintLast Go.Proofs.YtfaghjadjpiaiaaDoorW.PrintMore
set_option linter.unusedVariables false
set_option linter.unusedSimpArgs false
theorem rd_get (l : List Int) (i : Int) : rd l i = l[i.toNat]?.getD 0 := by simp [rd, List.getD_eq_getElem?_getD]
theorem rd_setI (l : List Int) (n : Nat) (v j : Int) (h0 : 0 ≤ j) (hn : n < l.length) : rd (l.set n v) j = if j = (n : Int) then v else rd l j := by
  rw [rd_get, rd_get, List.getElem?_set]
  by_cases h : n = j.toNat
  · rw [if_pos h, if_pos (by omega), if_pos (by omega)]
    rfl
  · rw [if_neg h, if_neg (by omega)]
theorem rd_splice (l cs : List Int) (o : Nat) (j : Int) (h0 : 0 ≤ j) (h : o + cs.length ≤ l.length) : rd (splice l o cs) j = if (o : Int) ≤ j ∧ j < o + cs.length then rd cs (j - o) else rd l j := by
  rw [rd_get, rd_get, rd_get, splice_get _ _ _ _ h]
  by_cases h1 : (o : Int) ≤ j ∧ j < o + cs.length
  · rw [if_pos (by omega), if_pos h1, show j.toNat - o = (j - o).toNat by omega]
  · rw [if_neg (by omega), if_neg h1]
theorem rd_cut (ws : List Int) (at_ n j : Int) (h0 : 0 ≤ at_) (hj : 0 ≤ j) (hn : j < n) : rd (cutW ws at_ n) j = rd ws (at_ + j) := by
  unfold cutW
  rw [rd_get, rd_get, List.getElem?_take_of_lt (by omega), List.getElem?_drop, show at_.toNat + j.toNat = (at_ + j).toNat by omega]
theorem rd_move (ws : List Int) (to_ from_ n j : Int) (hm : moveB ws to_ from_ n = true) (h0 : 0 ≤ j) : rd (moveW ws to_ from_ n) j = if to_ ≤ j ∧ j < to_ + n then rd ws (j - to_ + from_) else rd ws j := by
  have hm2 := hm
  unfold moveB at hm2
  rw [Bool.and_eq_true] at hm2
  obtain ⟨g0, g1, g2, g3⟩ := inB_iff.1 hm2.1
  obtain ⟨_, k1, k2, k3⟩ := inB_iff.1 hm2.2
  have hl := cutW_length hm2.1
  unfold moveW
  rw [if_pos hm, rd_splice _ _ _ _ h0 (by omega)]
  by_cases h1 : to_ ≤ j ∧ j < to_ + n
  · rw [if_pos (by omega), if_pos h1, rd_cut ws from_ n _ g1 (by omega) (by omega)]
    congr 1
    omega
  · rw [if_neg (by omega), if_neg h1]
theorem moveW_length (ws : List Int) (to_ from_ n : Int) : (moveW ws to_ from_ n).length = ws.length := by
  unfold moveW
  split
  · rename_i hm
    unfold moveB at hm
    rw [Bool.and_eq_true] at hm
    obtain ⟨g0, g1, g2, g3⟩ := inB_iff.1 hm.1
    obtain ⟨_, k1, k2, k3⟩ := inB_iff.1 hm.2
    have hl := cutW_length hm.1
    exact length_splice _ _ _ (by omega)
  · rfl
theorem rd_raise (ws : List Int) (by_ a j : Int) (h0 : 0 ≤ j) (hj : j < ws.length) : rd (raiseW ws by_ a) j = if j = a ∧ rd ws j ≠ 0 then upW (rd ws j) by_ else rd ws j := by
  unfold raiseW
  by_cases h : 0 ≤ a ∧ a < ws.length ∧ rd ws a ≠ 0
  · rw [if_pos h, rd_setI _ _ _ _ h0 (by omega)]
    by_cases h1 : j = a
    · subst h1
      rw [if_pos (by omega), if_pos ⟨rfl, h.2.2⟩]
    · rw [if_neg (by omega), if_neg (fun hh => h1 hh.1)]
  · rw [if_neg h, if_neg]
    rintro ⟨rfl, h2⟩
    exact h ⟨h0, hj, h2⟩
def raises (ws : List Int) (by_ : Int) (as_ : List Int) : List Int := as_.foldl (fun W a => raiseW W by_ a) ws
theorem raises_length (by_ : Int) : ∀ (as_ : List Int) (ws : List Int), (raises ws by_ as_).length = ws.length
  | [], ws => rfl
  | a :: r, ws => by
    show (raises (raiseW ws by_ a) by_ r).length = _
    rw [raises_length by_ r, raise_length]
theorem rd_raises (by_ : Int) : ∀ (as_ : List Int) (ws : List Int) (j : Int), as_.Nodup → 0 ≤ j → j < ws.length → rd (raises ws by_ as_) j = if j ∈ as_ ∧ rd ws j ≠ 0 then upW (rd ws j) by_ else rd ws j
  | [], ws, j, _, _, _ => by simp [raises]
  | a :: r, ws, j, hn, h0, hj => by
    have hn2 := List.nodup_cons.1 hn
    show rd (raises (raiseW ws by_ a) by_ r) j = _
    rw [rd_raises by_ r (raiseW ws by_ a) j hn2.2 h0 (by rw [raise_length]; exact hj), rd_raise ws by_ a j h0 hj]
    by_cases h1 : j = a
    · subst h1
      have e : ∀ x : Int, (if j ∈ r ∧ x ≠ 0 then upW x by_ else x) = x := fun x => if_neg (fun hh => hn2.1 hh.1)
      rw [e]
      by_cases h2 : rd ws j ≠ 0
      · rw [if_pos ⟨rfl, h2⟩, if_pos ⟨by simp, h2⟩]
      · rw [if_neg (fun hh => h2 hh.2), if_neg (fun hh => h2 hh.2)]
    · have e : (if j = a ∧ rd ws j ≠ 0 then upW (rd ws j) by_ else rd ws j) = rd ws j := if_neg (fun hh => h1 hh.1)
      rw [e]
      by_cases h2 : j ∈ r ∧ rd ws j ≠ 0
      · rw [if_pos h2, if_pos ⟨by simp [h2.1], h2.2⟩]
      · rw [if_neg h2, if_neg (fun hh => h2 ⟨by have := hh.1; simp [h1] at this; exact this, hh.2⟩)]
/-- Where words of a frame are raised, from its place on. -/
def spots (t : List Ent) (x : Fm) : List Int := x.at_ :: (tPtrs t x.fn).map fun i => x.at_ + 2 + i
def sh (by_ : Int) (x : Fm) : Fm := ⟨x.at_ + by_, x.fn, if x.link = -1 then -1 else x.link + by_⟩
theorem frameW_raises {t : List Ent} (hp : PtrOk t) (ws : List Int) (by_ : Int) (x : Fm) : frameW ws t by_ x (tPtrs t x.fn).length = raises ws by_ (spots t (sh by_ x)) := by
  unfold frameW raises spots sh
  rw [List.take_of_length_le (Nat.le_refl _), List.foldl_cons, List.foldl_map]
  have : ∀ (L : List Int) (W : List Int), (∀ i ∈ L, i ∈ tPtrs t x.fn) → L.foldl (fun W i => raiseW W by_ (slotA t ⟨x.at_ + by_, x.fn, x.link⟩ i)) W = L.foldl (fun W i => raiseW W by_ (x.at_ + by_ + 2 + i)) W := by
    intro L
    induction L with
    | nil => intro W _; rfl
    | cons i r ih =>
      intro W h
      obtain ⟨h0, h1, _⟩ := (hp.mem x.fn i).1 (h i (by simp))
      have e : slotA t ⟨x.at_ + by_, x.fn, x.link⟩ i = x.at_ + by_ + 2 + i := if_pos ⟨h0, h1⟩
      rw [List.foldl_cons, List.foldl_cons, e, ih _ (fun j hj => h j (by simp [hj]))]
  exact this _ _ (fun i hi => hi)
theorem upL_raises {t : List Ent} (hp : PtrOk t) (by_ : Int) : ∀ (L : List Fm) (ws : List Int), upL t by_ ws L = raises ws by_ (L.flatMap fun x => spots t (sh by_ x))
  | [], ws => rfl
  | x :: r, ws => by
    show upL t by_ (frameW ws t by_ x (tPtrs t x.fn).length) r = _
    rw [upL_raises hp by_ r, frameW_raises hp]
    unfold raises
    rw [List.flatMap_cons, List.foldl_append]
/-! ### Frames in a row -/
/-- Frames that stand one behind the other, from an address to an end. -/
def Chain (t : List Ent) (hi : Int) : Int → List Fm → Prop
  | a, [] => a = hi
  | a, x :: r => x.at_ = a ∧ tHas t x.fn = true ∧ x.link = (if a + tWords t x.fn = hi then -1 else a + tWords t x.fn) ∧ a + tWords t x.fn ≤ hi ∧ Chain t hi (a + tWords t x.fn) r
theorem words_of {t : List Ent} (hp : ∀ f, tHas t f = true → 0 ≤ tSize t f) {f : Int} (h : tHas t f = true) : tWords t f = tSize t f + 2 ∧ 2 ≤ tWords t f := by
  rw [words_size, if_pos h]
  have := hp f h
  exact ⟨rfl, by omega⟩
theorem Chain.lo {t : List Ent} (hp : ∀ f, tHas t f = true → 0 ≤ tSize t f) {hi : Int} : ∀ {l : List Fm} {a : Int}, Chain t hi a l → a ≤ hi ∧ ∀ x ∈ l, a ≤ x.at_ ∧ x.at_ + tWords t x.fn ≤ hi ∧ tHas t x.fn = true
  | [], a, h => ⟨by have : a = hi := h; omega, fun x hx => by cases hx⟩
  | x :: r, a, ⟨h1, h2, _, h4, h5⟩ => by
    obtain ⟨g1, g2⟩ := Chain.lo hp h5
    have := words_of hp h2
    refine ⟨by omega, fun y hy => ?_⟩
    rcases List.mem_cons.1 hy with rfl | hy
    · exact ⟨by omega, by omega, h2⟩
    · obtain ⟨q1, q2, q3⟩ := g2 y hy
      exact ⟨by omega, q2, q3⟩
theorem spots_in {t : List Ent} (hp : ∀ f, tHas t f = true → 0 ≤ tSize t f) (ho : PtrOk t) {x : Fm} (hh : tHas t x.fn = true) {j : Int} (hj : j ∈ spots t x) : x.at_ ≤ j ∧ j < x.at_ + tWords t x.fn := by
  have hw := words_of hp hh
  unfold spots at hj
  rcases List.mem_cons.1 hj with rfl | hj
  · omega
  · obtain ⟨i, hi, rfl⟩ := List.mem_map.1 hj
    obtain ⟨h0, h1, _⟩ := (ho.mem x.fn i).1 hi
    omega
theorem spots_once {t : List Ent} (ho : PtrOk t) (x : Fm) : (spots t x).Nodup := by
  unfold spots
  rw [List.nodup_cons]
  refine ⟨fun h => ?_, ?_⟩
  · obtain ⟨i, hi, he⟩ := List.mem_map.1 h
    obtain ⟨h0, _⟩ := (ho.mem x.fn i).1 hi
    omega
  · have := ho.once x.fn
    rw [List.nodup_iff_pairwise_ne] at this ⊢
    rw [List.pairwise_map]
    exact this.imp (fun h => by omega)
theorem Chain.once {t : List Ent} (hp : ∀ f, tHas t f = true → 0 ≤ tSize t f) (ho : PtrOk t) {hi : Int} : ∀ {l : List Fm} {a : Int}, Chain t hi a l → (l.flatMap (spots t)).Nodup
  | [], a, h => by simp
  | x :: r, a, ⟨h1, h2, _, h4, h5⟩ => by
    rw [List.flatMap_cons, List.nodup_append]
    refine ⟨spots_once ho x, Chain.once hp ho h5, fun j hj k hk he => ?_⟩
    subst he
    have := spots_in hp ho h2 hj
    obtain ⟨y, hy, hk⟩ := List.mem_flatMap.1 hk
    obtain ⟨q1, q2, q3⟩ := (Chain.lo hp h5).2 y hy
    have := spots_in hp ho q3 hk
    omega
theorem Chain.shift {t : List Ent} {hi : Int} (by_ : Int) (hp : ∀ f, tHas t f = true → 0 ≤ tSize t f) : ∀ {l : List Fm} {a : Int}, 0 ≤ a → Chain t hi a l → Chain t (hi + by_) (a + by_) (l.map (sh by_))
  | [], a, h0, h => by have : a = hi := h; show a + by_ = hi + by_; omega
  | x :: r, a, h0, ⟨h1, h2, h3, h4, h5⟩ => by
    have hw := words_of hp h2
    have h6 := Chain.shift by_ hp (by omega) h5
    refine ⟨by show x.at_ + by_ = _; omega, h2, ?_, by show a + by_ + tWords t x.fn ≤ _; omega, ?_⟩
    · show (if x.link = -1 then -1 else x.link + by_) = if a + by_ + tWords t x.fn = hi + by_ then -1 else a + by_ + tWords t x.fn
      by_cases h7 : a + tWords t x.fn = hi
      · rw [if_pos h7] at h3
        rw [if_pos h3, if_pos (by omega)]
      · rw [if_neg h7] at h3
        rw [if_neg (by omega), if_neg (by omega)]
        omega
    · show Chain t (hi + by_) (a + by_ + tWords t x.fn) _
      rw [show a + by_ + tWords t x.fn = a + tWords t x.fn + by_ by omega]
      exact h6
/-- A frame's two words tell it. -/
def Tells (ws : List Int) (x : Fm) : Prop := frL ws x.at_ = x.link + 1 ∧ frN ws x.at_ = x.fn + 1
theorem walk_chain {ws : List Int} {t : List Ent} {hi : Int} (hp : ∀ f, tHas t f = true → 0 ≤ tSize t f) (hN : hi ≤ ws.length) : ∀ (n : Nat) (a : Int) (l : List Fm), (hi - a).toNat ≤ n → 0 ≤ a → a ≤ hi → (walkL ws t hi a = some l ↔ Chain t hi a l ∧ ∀ x ∈ l, Tells ws x) := by
  intro n
  induction n with
  | zero =>
    intro a l hn h0 h1
    rw [walkL_end (by omega)]
    constructor
    · intro h
      injection h with h
      subst h
      exact ⟨(by omega : a = hi), fun x hx => by cases hx⟩
    · rintro ⟨hc, _⟩
      cases l with
      | nil => rfl
      | cons x r =>
        have := (Chain.lo hp hc).2 x (by simp)
        have := words_of hp this.2.2
        omega
  | succ n ih =>
    intro a l hn h0 h1
    by_cases hlt : a < hi
    · by_cases hx : nextB ws t hi a = true
      · have he := next_end hp hx
        have hx2 := hx
        unfold nextB at hx2
        simp only [Bool.and_eq_true, decide_eq_true_eq, beq_iff_eq] at hx2
        obtain ⟨r1, r2, r3⟩ := hx2
        obtain ⟨e, i1, i2⟩ := readF_at r1
        obtain ⟨o1, o2, o3, o4⟩ := frOk_iff.1 i2
        have hh : tHas t (frN ws a - 1) = true := by unfold tHas; simp; omega
        have hw := words_of hp hh
        have hen : endF t (readF ws t a) = a + tWords t (frN ws a - 1) := by
          rw [e]
          unfold endF
          rw [if_neg (by show ¬ tWords t (frN ws a - 1) < 0; omega)]
        rw [walkL_step hp hlt hx]
        constructor
        · intro h
          obtain ⟨r, hr, rfl⟩ := Option.map_eq_some_iff.1 h
          have h7 := (ih _ r (by omega) (by omega) he.2).1 hr
          rw [hen] at h7 r3
          rw [e] at r3 ⊢
          refine ⟨⟨rfl, hh, r3, by show a + tWords t (frN ws a - 1) ≤ hi; omega, h7.1⟩, fun y hy => ?_⟩
          rcases List.mem_cons.1 hy with rfl | hy
          · exact ⟨by show frL ws a = frL ws a - 1 + 1; omega, by show frN ws a = frN ws a - 1 + 1; omega⟩
          · exact h7.2 y hy
        · rintro ⟨hc, ht⟩
          cases l with
          | nil => exact absurd (show a = hi from hc) (by omega)
          | cons x r =>
            obtain ⟨c1, c2, c3, c4, c5⟩ := hc
            obtain ⟨t1, t2⟩ := ht x (by simp)
            rw [c1] at t1 t2
            have hxe : readF ws t a = x := by
              rw [e, t1, t2]
              show (⟨a, x.fn + 1 - 1, x.link + 1 - 1⟩ : Fm) = ⟨x.at_, x.fn, x.link⟩
              rw [c1]
              congr 1 <;> omega
            have hfx : frN ws a - 1 = x.fn := by omega
            have hwx := words_of hp c2
            rw [hfx] at hen
            rw [hxe] at hen ⊢
            rw [hen, (ih _ r (by omega) (by omega) c4).2 ⟨c5, fun y hy => ht y (by simp [hy])⟩]
            rfl
      · have hx' : nextB ws t hi a = false := by simpa using hx
        rw [walkL_no hlt hx']
        constructor
        · intro h; cases h
        · rintro ⟨hc, ht⟩
          exfalso
          cases l with
          | nil => exact absurd (show a = hi from hc) (by omega)
          | cons x r =>
            obtain ⟨c1, c2, c3, c4, c5⟩ := hc
            obtain ⟨t1, t2⟩ := ht x (by simp)
            rw [c1] at t1 t2
            have hw := words_of hp c2
            have hb : 0 ≤ x.fn ∧ x.fn < t.length := by unfold tHas at c2; simpa using c2
            have hfx : frN ws a - 1 = x.fn := by omega
            have i1 : inB ws.length a 2 = true := inB_iff.2 ⟨by omega, by omega, by omega, by omega⟩
            have i2 : frOk ws t a = true := frOk_iff.2 ⟨by omega, by omega, by
              rw [t1, c3]
              split
              · omega
              · have := c4; omega, by rw [hfx]; exact inB_iff.2 ⟨by omega, by omega, by omega, by omega⟩⟩
            have hre : readE ws t a = 0 := by unfold readE; rw [if_pos i1, if_pos i2]
            have hrf : readF ws t a = ⟨a, x.fn, x.link⟩ := by
              rw [(readF_at hre).1]
              congr 1
              omega
            apply hx
            unfold nextB
            have hen : endF t (readF ws t a) = a + tWords t x.fn := by
              rw [hrf]
              unfold endF
              rw [if_neg (by show ¬ tWords t x.fn < 0; omega)]
            rw [hre, hen, hrf]
            simp only [Bool.and_eq_true, decide_eq_true_eq, beq_iff_eq]
            exact ⟨trivial, c4, c3⟩
    · have ha : a = hi := by omega
      rw [walkL_end hlt]
      constructor
      · intro h
        injection h with h
        subst h
        exact ⟨ha, fun x hx => by cases hx⟩
      · rintro ⟨hc, _⟩
        cases l with
        | nil => rfl
        | cons x r =>
          have := (Chain.lo hp hc).2 x (by simp)
          have := words_of hp this.2.2
          omega
end Go.Proofs.YtfaghjadjpiaiaaDoor.Sh
namespace Go.Proofs.YtfaghjadjpiaiaaDoor.Sh
open Go.RowKit Go.Shelf Go.Proofs.YtfaghjadjpiaiaaDoorW.PrintWords Go.Proofs.YtfaghjadjpiaiaaDoorW.PrintLast Go.Proofs.YtfaghjadjpiaiaaDoorW.PrintMore
set_option linter.unusedVariables false
set_option linter.unusedSimpArgs false
/-- A table. -/
structure TabAll (t : List Ent) : Prop where
  fine : TabFine t
  pos : ∀ f, tHas t f = true → 0 ≤ tSize t f
  ptr : PtrOk t
theorem upW_in {x by_ : Int} (h : U64 x) (hb : -65536 ≤ by_ ∧ by_ ≤ 65536) (h0 : 0 ≤ x + by_) (h1 : x + by_ < 18446744073709551616) : upW x by_ = x + by_ := by
  unfold upW
  rw [IntKind.wrap_u64, IntKind.wrap_u64]
  omega
theorem Chain.sep {t : List Ent} (hp : ∀ f, tHas t f = true → 0 ≤ tSize t f) {hi : Int} : ∀ {l : List Fm} {a : Int}, Chain t hi a l → ∀ x ∈ l, ∀ y ∈ l, ∀ j, x.at_ ≤ j ∧ j < x.at_ + tWords t x.fn → y.at_ ≤ j ∧ j < y.at_ + tWords t y.fn → x = y
  | [], a, h => fun x hx => by cases hx
  | z :: r, a, ⟨h1, h2, _, h4, h5⟩ => fun x hx y hy j hj hk => by
    have hlo := (Chain.lo hp h5).2
    rcases List.mem_cons.1 hx with hx | hx'
    · rcases List.mem_cons.1 hy with hy | hy'
      · rw [hx, hy]
      · have := hlo y hy'
        rw [hx] at hj
        omega
    · rcases List.mem_cons.1 hy with hy | hy'
      · have := hlo x hx'
        rw [hy] at hk
        omega
      · exact Chain.sep hp h5 x hx' y hy' j hj hk
theorem link_of {t : List Ent} {hi : Int} : ∀ {l : List Fm} {a : Int}, Chain t hi a l → ∀ x ∈ l, x.link = if x.at_ + tWords t x.fn = hi then -1 else x.at_ + tWords t x.fn
  | [], a, h => fun x hx => by cases hx
  | z :: r, a, ⟨h1, h2, h3, h4, h5⟩ => fun x hx => by
    rcases List.mem_cons.1 hx with rfl | hx
    · rw [h1]; exact h3
    · exact link_of h5 x hx
theorem firstNZ_zero : ∀ {L : List Int}, firstNZ L = 0 → ∀ x ∈ L, x = 0
  | [], _ => fun x hx => by cases hx
  | y :: L, h => fun x hx => by
    unfold firstNZ at h
    by_cases hy : y = 0
    · rw [if_pos hy] at h
      rcases List.mem_cons.1 hx with rfl | hx
      · exact hy
      · exact firstNZ_zero h x hx
    · rw [if_neg hy] at h
      exact absurd h hy
theorem zero_firstNZ : ∀ {L : List Int}, (∀ x ∈ L, x = 0) → firstNZ L = 0
  | [], _ => rfl
  | y :: L, h => by
    unfold firstNZ
    rw [if_pos (h y (by simp))]
    exact zero_firstNZ (fun x hx => h x (by simp [hx]))
theorem allE_iff {ws : List Int} {t : List Ent} {L : List Fm} : allE ws t L = 0 ↔ ∀ d i : Nat, d < L.length → i < slotCt t L d → sGetE ws t L d i = 0 := by
  constructor
  · intro h d i hd hi
    refine firstNZ_zero h _ ?_
    unfold allErrsG
    rw [List.drop_zero, List.mem_flatMap]
    exact ⟨d, by simpa using hd, by unfold slotErrsG; rw [List.mem_map]; exact ⟨i, by simpa using hi, rfl⟩⟩
  · intro h
    refine zero_firstNZ (fun x hx => ?_)
    unfold allErrsG at hx
    rw [List.drop_zero, List.mem_flatMap] at hx
    obtain ⟨d, hd, hx⟩ := hx
    unfold slotErrsG at hx
    rw [List.mem_map] at hx
    obtain ⟨i, hi, rfl⟩ := hx
    exact h d i (by simpa using hd) (by simpa using hi)
theorem fm_map {by_ : Int} {L : List Fm} {d : Int} (h0 : 0 ≤ d) (h1 : d < L.length) : fm (L.map (sh by_)) d = sh by_ (fm L d) := by
  have hl : d.toNat < L.length := by omega
  simp [fm, List.getElem?_eq_getElem hl]
theorem hitB_sh (t : List Ent) (by_ a : Int) (x : Fm) : hitB t (a + by_) (sh by_ x) = hitB t a x := by
  rw [Bool.eq_iff_iff, hitB_iff, hitB_iff]
  have e : slotN t (sh by_ x) = slotN t x := rfl
  have e2 : (sh by_ x).at_ = x.at_ + by_ := rfl
  rw [e, e2]
  omega
theorem findL_sh (t : List Ent) (by_ a : Int) : ∀ (L : List Fm) (k : Nat), findL t (a + by_) k (L.map (sh by_)) = findL t a k L
  | [], k => rfl
  | x :: r, k => by
    rw [List.map_cons, findL, findL, hitB_sh, findL_sh t by_ a r (k + 1), show a + by_ - (sh by_ x).at_ - 2 = a - x.at_ - 2 from by show a + by_ - (x.at_ + by_) - 2 = _; omega]
theorem findL_hit {t : List Ent} {a : Int} : ∀ {L : List Fm} {k d : Nat} {i : Int}, findL t a k L = some (d, i) → k ≤ d ∧ d - k < L.length ∧ hitB t a (fm L ((d - k : Nat) : Int)) = true ∧ i = a - (fm L ((d - k : Nat) : Int)).at_ - 2
  | [], k, d, i, h => by cases h
  | x :: r, k, d, i, h => by
    rw [findL] at h
    by_cases hh : hitB t a x = true
    · rw [if_pos hh] at h
      injection h with h
      injection h with h1 h2
      subst h1
      have e : fm (x :: r) ((k - k : Nat) : Int) = x := by simp [fm]
      rw [e]
      exact ⟨Nat.le_refl _, by simp, hh, h2.symm⟩
    · rw [if_neg hh] at h
      obtain ⟨h1, h2, h3, h4⟩ := findL_hit h
      have e : fm (x :: r) ((d - k : Nat) : Int) = fm r ((d - (k + 1) : Nat) : Int) := by
        have : d - k = (d - (k + 1)) + 1 := by omega
        rw [this]
        simp [fm]
      rw [e]
      exact ⟨by omega, by simp; omega, h3, h4⟩
/-- What is given where a stack is moved. -/
structure Moves (ws : List Int) (t : List Ent) (s : St) (lo size : Int) (l : List Fm) : Prop where
  tab : TabAll t
  len : ws.length ≤ 65536
  may : mayS ws.length s = true
  mayT : mayS ws.length (endS lo size) = true
  walk : walkL ws t (s.lo + s.size) s.sp = some l
  vals : allE ws t l.reverse = 0
  fits : s.lo + s.size - s.sp ≤ size
  apart : apartB s (endS lo size) = true
theorem used_may {N : Nat} {s : St} (h : mayS N s = true) (hN : N ≤ 65536) : usedS s = s.lo + s.size - s.sp := by
  obtain ⟨⟨s0, s1, s2, s3, s4, s5⟩, s6⟩ := mayS_small h hN
  unfold usedS plainS
  rw [if_pos (by simp only [Bool.and_eq_true, plainB_iff]; omega)]
  omega
theorem moves_of {ws : List Int} {t : List Ent} {s : St} {lo size : Int} (ht : TabAll t) (hl : ws.length ≤ 65536) (h : toE ws t s lo size = 0) : ∃ l, Moves ws t s lo size l ∧ framesL ws t s = l.reverse := by
  unfold toE at h
  by_cases h1 : mayS ws.length s = true ∧ mayS ws.length (endS lo size) = true
  · rw [if_pos h1] at h
    by_cases h2 : framesE ws t s = 0
    · rw [if_pos h2] at h
      by_cases h3 : allE ws t (framesL ws t s) = 0
      · rw [if_pos h3] at h
        by_cases h4 : usedS s ≤ size ∧ apartB s (endS lo size) = true
        · obtain ⟨l, g1, g2⟩ := framesE_zero h1.1 h2
          rw [g2] at h3
          rw [used_may h1.1 hl] at h4
          exact ⟨l, ⟨ht, hl, h1.1, h1.2, g1, h3, h4.1, h4.2⟩, g2⟩
        · rw [if_neg h4] at h; cases h
      · rw [if_neg h3] at h; cases h
    · rw [if_neg h2] at h; cases h
  · rw [if_neg h1] at h; cases h
theorem spots_sh (t : List Ent) (x : Fm) (b j : Int) : j ∈ spots t (sh b x) ↔ j - b ∈ spots t x := by
  unfold spots sh
  simp only [List.mem_cons, List.mem_map]
  constructor
  · rintro (h1 | ⟨i, hi, h2⟩)
    · exact Or.inl (by omega)
    · exact Or.inr ⟨i, hi, by omega⟩
  · rintro (h1 | ⟨i, hi, h2⟩)
    · exact Or.inl (by omega)
    · exact Or.inr ⟨i, hi, by omega⟩
section
variable {ws : List Int} {t : List Ent} {s : St} {lo size : Int} {l : List Fm} (h : Moves ws t s lo size l)
include h
theorem Moves.toE : toE ws t s lo size = 0 := by
  unfold Sh.toE
  have e : framesL ws t s = l.reverse := by unfold framesL; rw [if_pos h.may, h.walk]; rfl
  rw [if_pos ⟨h.may, h.mayT⟩, if_pos (by unfold framesE; rw [if_pos h.may, h.walk]; rfl), if_pos (by rw [e]; exact h.vals), if_pos ⟨by rw [used_may h.may h.len]; exact h.fits, h.apart⟩]
theorem Moves.nums : 0 ≤ s.lo ∧ 0 ≤ s.size ∧ s.lo ≤ s.sp ∧ s.sp ≤ s.lo + s.size ∧ s.lo + s.size ≤ ws.length ∧ 0 ≤ lo ∧ 0 ≤ size ∧ lo + size ≤ ws.length ∧ (ws.length : Int) ≤ 65536 ∧ 16 ≤ s.size ∧ 16 ≤ size := by
  obtain ⟨a1, a2, a3, a4⟩ := mayS_iff.1 h.may
  obtain ⟨b1, b2, _, _⟩ := mayS_iff.1 h.mayT
  obtain ⟨g0, g1, g2, g3⟩ := inB_iff.1 a2
  obtain ⟨k0, k1, k2, k3⟩ := inB_iff.1 b2
  simp only [endS] at k0 k1 k2 k3 b1
  have := h.len
  have c1 : 16 ≤ s.size := by unfold sizeB at a1; simp at a1; exact a1.2
  have c2 : 16 ≤ size := by unfold sizeB at b1; simp at b1; exact b1.2
  omega
theorem Moves.far : lo + size ≤ s.lo ∨ s.lo + s.size ≤ lo := by
  have hn := h.nums
  have := h.apart
  simp [apartB, endS] at this
  rcases this with q | q | q | q
  · omega
  · have := of_decide_eq_false q; omega
  · have := of_decide_eq_false q; omega
  · have := of_decide_eq_false q; omega
theorem Moves.toS : toS ws t s lo size = ⟨lo, size, s.sp + toBy s lo size⟩ := by
  unfold Sh.toS
  rw [if_pos h.toE, used_may h.may h.len]
  unfold toBy
  congr 1
  omega
theorem Moves.by_ : -65536 ≤ toBy s lo size ∧ toBy s lo size ≤ 65536 ∧ s.lo + s.size + toBy s lo size = lo + size ∧ lo ≤ s.sp + toBy s lo size := by
  have hn := h.nums
  have := h.fits
  unfold toBy
  omega
theorem Moves.chain : Chain t (s.lo + s.size) s.sp l ∧ ∀ x ∈ l, Tells ws x := by
  have hn := h.nums
  exact (walk_chain h.tab.pos (by omega) _ s.sp l (Nat.le_refl _) (by omega) (by omega)).1 h.walk
/-- The words raised. -/
theorem Moves.toWs : toWs ws t s lo size = raises (moveW ws (s.sp + toBy s lo size) s.sp (s.lo + s.size - s.sp)) (toBy s lo size) (l.reverse.flatMap fun x => spots t (sh (toBy s lo size) x)) := by
  have e : framesL ws t s = l.reverse := by unfold framesL; rw [if_pos h.may, h.walk]; rfl
  unfold Sh.toWs
  rw [if_pos h.toE, upL_raises h.tab.ptr, e, used_may h.may h.len]
  congr 2
  unfold toBy
  omega
theorem Moves.length : (Sh.toWs ws t s lo size).length = ws.length := by
  rw [h.toWs, raises_length, moveW_length]
theorem Moves.once : (l.reverse.flatMap fun x => spots t (sh (toBy s lo size) x)).Nodup := by
  have hn := h.nums
  have hc := (h.chain.1.shift (toBy s lo size) h.tab.pos (by omega)).once h.tab.pos h.tab.ptr
  rw [List.flatMap_map] at hc
  exact ((List.reverse_perm l).flatMap_right _).nodup_iff.2 hc
/-- A word behind the move. -/
theorem Moves.word (j : Int) (h0 : 0 ≤ j) (hj : j < ws.length) : rd (Sh.toWs ws t s lo size) j =
    if s.sp + toBy s lo size ≤ j ∧ j < lo + size then (if j - toBy s lo size ∈ l.flatMap (spots t) ∧ rd ws (j - toBy s lo size) ≠ 0 then upW (rd ws (j - toBy s lo size)) (toBy s lo size) else rd ws (j - toBy s lo size)) else rd ws j := by
  have hn := h.nums
  have hb := h.by_
  have hf := h.fits
  have hmb : moveB ws (s.sp + toBy s lo size) s.sp (s.lo + s.size - s.sp) = true := by
    unfold moveB
    rw [Bool.and_eq_true, inB_iff, inB_iff]
    omega
  have hmem : j ∈ (l.reverse.flatMap fun x => spots t (sh (toBy s lo size) x)) ↔ j - toBy s lo size ∈ l.flatMap (spots t) := by
    simp only [List.mem_flatMap, List.mem_reverse, spots_sh]
  rw [h.toWs, rd_raises _ _ _ _ h.once h0 (by rw [moveW_length]; exact hj), rd_move _ _ _ _ _ hmb h0]
  simp only [hmem]
  generalize toBy s lo size = b at *
  by_cases hin : s.sp + b ≤ j ∧ j < lo + size
  · simp only [if_pos hin, if_pos (show s.sp + b ≤ j ∧ j < s.sp + b + (s.lo + s.size - s.sp) by omega), show j - (s.sp + b) + s.sp = j - b by omega]
  · have ho : ¬ (s.sp + b ≤ j ∧ j < s.sp + b + (s.lo + s.size - s.sp)) := by omega
    have hm : ¬ j - b ∈ l.flatMap (spots t) := by
      intro hm
      obtain ⟨x, hx, hs⟩ := List.mem_flatMap.1 hm
      obtain ⟨q1, q2, q3⟩ := (Chain.lo h.tab.pos h.chain.1).2 x hx
      have := spots_in h.tab.pos h.tab.ptr q3 hs
      omega
    simp only [if_neg hin, if_neg ho]
    rw [if_neg (fun hh => hm hh.1)]
theorem Moves.spot {x : Fm} (hx : x ∈ l) {j : Int} (hj : x.at_ ≤ j ∧ j < x.at_ + tWords t x.fn) : j ∈ l.flatMap (spots t) ↔ j ∈ spots t x := by
  rw [List.mem_flatMap]
  constructor
  · rintro ⟨y, hy, hs⟩
    have hy2 := spots_in h.tab.pos h.tab.ptr ((Chain.lo h.tab.pos h.chain.1).2 y hy).2.2 hs
    rw [Chain.sep h.tab.pos h.chain.1 x hx y hy j hj hy2]
    exact hs
  · exact fun hs => ⟨x, hx, hs⟩
theorem Moves.tells : ∀ x ∈ l.map (sh (toBy s lo size)), Tells (Sh.toWs ws t s lo size) x := by
  intro y hy
  obtain ⟨x, hx, rfl⟩ := List.mem_map.1 hy
  have hn := h.nums
  have hb := h.by_
  obtain ⟨hc, ht⟩ := h.chain
  obtain ⟨t1, t2⟩ := ht x hx
  obtain ⟨q1, q2, q3⟩ := (Chain.lo h.tab.pos hc).2 x hx
  have hw := words_of h.tab.pos q3
  unfold frL at t1
  unfold frN at t2
  have hxl : x.link = -1 ∨ (x.link = x.at_ + tWords t x.fn ∧ x.link ≤ s.lo + s.size) := by
    have := link_of hc x hx
    split at this
    · exact Or.inl this
    · exact Or.inr ⟨this, by omega⟩
  have m1 := (h.spot hx (j := x.at_) (by omega)).2 (by simp [spots])
  have m2 : ¬ x.at_ + 1 ∈ l.flatMap (spots t) := by
    rw [h.spot hx (by omega)]
    unfold spots
    intro hh
    rcases List.mem_cons.1 hh with hh | hh
    · omega
    · obtain ⟨i, hi, he⟩ := List.mem_map.1 hh
      have := (h.tab.ptr.mem x.fn i).1 hi
      omega
  have e1 := h.word (x.at_ + toBy s lo size) (by omega) (by omega)
  have e2 := h.word (x.at_ + 1 + toBy s lo size) (by omega) (by omega)
  generalize toBy s lo size = b at *
  rw [if_pos (by omega), show x.at_ + b - b = x.at_ by omega, t1] at e1
  rw [if_pos (by omega), show x.at_ + 1 + b - b = x.at_ + 1 by omega, if_neg (fun hh => m2 hh.1), t2] at e2
  refine ⟨?_, ?_⟩
  · show rd _ (x.at_ + b) = (if x.link = -1 then -1 else x.link + b) + 1
    rw [e1]
    by_cases hl : x.link = -1
    · rw [if_pos hl, if_neg (fun hh => hh.2 (by omega))]
      omega
    · rw [if_neg hl, if_pos ⟨m1, by omega⟩, upW_in ⟨by omega, by omega⟩ ⟨hb.1, hb.2.1⟩ (by omega) (by omega)]
      omega
  · show rd _ (x.at_ + b + 1) = x.fn + 1
    rw [show x.at_ + b + 1 = x.at_ + 1 + b by omega, e2]
end
end Go.Proofs.YtfaghjadjpiaiaaDoor.Sh
namespace Go.Proofs.YtfaghjadjpiaiaaDoor.Sh
open Go.RowKit Go.Shelf Go.Proofs.YtfaghjadjpiaiaaDoorW.PrintWords Go.Proofs.YtfaghjadjpiaiaaDoorW.PrintLast Go.Proofs.YtfaghjadjpiaiaaDoorW.PrintMore
set_option linter.unusedVariables false
set_option linter.unusedSimpArgs false
set_option linter.unusedSectionVars false
/-- A stack's words, moved by a number and raised. -/
def Pic (ws W : List Int) (t : List Ent) (s : St) (l : List Fm) (b : Int) : Prop :=
  ∀ j, s.sp ≤ j → j < s.lo + s.size → rd W (j + b) = if j ∈ l.flatMap (spots t) ∧ rd ws j ≠ 0 then rd ws j + b else rd ws j
theorem fm_nth {l : List Fm} {x : Fm} (h : x ∈ l) : ∃ d : Nat, d < l.length ∧ fm l d = x := by
  obtain ⟨d, hd, rfl⟩ := List.getElem_of_mem h
  exact ⟨d, hd, by simp [fm, List.getElem?_eq_getElem hd]⟩
theorem get_off {ws : List Int} {t : List Ent} {l : List Fm} {d i : Int} (hB : slotB ws t l d i = true) (hp : tPtr t (fm l d).fn i = false) : sGetE ws t l d i = 0 ∧ sGetV ws t l d i = ⟨1, slotW ws t l d i, 0, 0⟩ := by
  have hB' : ¬ slotB ws t l d i = false := by simp [hB]
  unfold sGetE sGetV
  rw [if_neg hB', if_neg hB', if_pos hp, if_pos hp]
  exact ⟨rfl, rfl⟩
theorem get_nil {ws : List Int} {t : List Ent} {l : List Fm} {d i : Int} (hB : slotB ws t l d i = true) (hp : tPtr t (fm l d).fn i = true) (hz : slotW ws t l d i = 0) : sGetE ws t l d i = 0 ∧ sGetV ws t l d i = zVl := by
  have hB' : ¬ slotB ws t l d i = false := by simp [hB]
  have hp' : ¬ tPtr t (fm l d).fn i = false := by simp [hp]
  unfold sGetE sGetV
  rw [if_neg hB', if_neg hB', if_neg hp', if_neg hp', if_pos hz, if_pos hz]
  exact ⟨rfl, rfl⟩
theorem get_at {ws : List Int} {t : List Ent} {l : List Fm} {d i : Int} {k : Nat} {j : Int} (hB : slotB ws t l d i = true) (hp : tPtr t (fm l d).fn i = true) (hz : slotW ws t l d i ≠ 0) (hbig : ¬ slotW ws t l d i > 4611686018427387904) (hf : findL t (slotW ws t l d i) 0 l = some (k, j)) (hk : ¬ d < (k : Int)) : sGetE ws t l d i = 0 ∧ sGetV ws t l d i = ⟨2, 0, k, j⟩ := by
  have hB' : ¬ slotB ws t l d i = false := by simp [hB]
  have hp' : ¬ tPtr t (fm l d).fn i = false := by simp [hp]
  unfold sGetE sGetV
  rw [if_neg hB', if_neg hB', if_neg hp', if_neg hp', if_neg hz, if_neg hz, if_neg hbig, if_neg hbig, hf]
  exact ⟨if_neg hk, if_neg hk⟩
section
variable {ws : List Int} {t : List Ent} {s : St} {lo size : Int} {l : List Fm} (h : Moves ws t s lo size l)
include h
theorem Moves.fmAt (d : Nat) (hd : d < l.length) : ∃ x, fm l.reverse d = x ∧ x ∈ l := by
  refine ⟨_, rfl, ?_⟩
  rw [← List.mem_reverse]
  exact fm_mem (by omega) (by simpa using hd)
/-- A pointer word's value. -/
theorem Moves.ptr {d : Nat} {i : Int} (hd : d < l.length) (hp : tPtr t (fm l.reverse d).fn i = true) (h0 : 0 ≤ i) (h1 : i < tSize t (fm l.reverse d).fn) :
    sGetE ws t l.reverse d i = 0 ∧ slotW ws t l.reverse d i = rd ws ((fm l.reverse d).at_ + 2 + i) ∧ (rd ws ((fm l.reverse d).at_ + 2 + i) ≠ 0 → ∃ k j, findL t (rd ws ((fm l.reverse d).at_ + 2 + i)) 0 l.reverse = some (k, j) ∧ k ≤ d ∧ s.sp < rd ws ((fm l.reverse d).at_ + 2 + i) ∧ rd ws ((fm l.reverse d).at_ + 2 + i) < s.lo + s.size) := by
  have hn := h.nums
  have hct : i.toNat < slotCt t l.reverse d := by unfold slotCt slotN; omega
  have hE := allE_iff.1 h.vals d i.toNat (by simpa using hd) hct
  rw [show ((i.toNat : Nat) : Int) = i by omega] at hE
  obtain ⟨x, hx, hxm⟩ := h.fmAt d hd
  obtain ⟨q1, q2, q3⟩ := (Chain.lo h.tab.pos h.chain.1).2 x hxm
  have hw := words_of h.tab.pos q3
  have hA : addrB t l.reverse d i = true := addrB_iff.2 ⟨by omega, by simp; omega, h0, h1⟩
  have hW : slotW ws t l.reverse d i = rd ws ((fm l.reverse d).at_ + 2 + i) := by
    unfold slotW addrA aLoadV
    rw [hx] at h1 ⊢
    rw [if_pos hA, if_pos (by omega)]
  have hB : slotB ws t l.reverse d i = true := by
    unfold slotB addrA aLoadE
    rw [hx] at h1 ⊢
    rw [if_pos hA, if_pos (by omega), hA]
    rfl
  refine ⟨hE, hW, fun h0 => ?_⟩
  unfold sGetE at hE
  rw [if_neg (by simp [hB]), if_neg (by simp [hp]), hW, if_neg h0] at hE
  by_cases hbig : rd ws ((fm l.reverse d).at_ + 2 + i) > 4611686018427387904
  · rw [if_pos hbig] at hE; cases hE
  rw [if_neg hbig] at hE
  cases ho : findL t (rd ws ((fm l.reverse d).at_ + 2 + i)) 0 l.reverse with
  | none => rw [ho] at hE; cases hE
  | some p =>
    obtain ⟨k, j⟩ := p
    rw [ho] at hE
    have hE : (if (d : Int) < (k : Int) then (9 : Int) else 0) = 0 := hE
    by_cases hk : (d : Int) < (k : Int)
    · rw [if_pos hk] at hE; cases hE
    obtain ⟨_, g2, g3, g4⟩ := findL_hit ho
    rw [Nat.sub_zero] at g2 g3 g4
    obtain ⟨y, hy, hym⟩ := h.fmAt k (by simpa using g2)
    rw [hy] at g3 g4
    obtain ⟨p1, p2, p3⟩ := (Chain.lo h.tab.pos h.chain.1).2 y hym
    obtain ⟨u1, u2, u3⟩ := hitB_iff.1 g3
    have hw2 := words_of h.tab.pos p3
    unfold slotN at u3
    exact ⟨k, j, rfl, by omega, by omega, by omega⟩
/-- A raised word's value. -/
theorem Moves.val {j : Int} (hj : j ∈ l.flatMap (spots t)) (h0 : rd ws j ≠ 0) : s.sp < rd ws j ∧ rd ws j ≤ s.lo + s.size := by
  have hn := h.nums
  obtain ⟨x, hx, hs⟩ := List.mem_flatMap.1 hj
  obtain ⟨hc, ht⟩ := h.chain
  obtain ⟨q1, q2, q3⟩ := (Chain.lo h.tab.pos hc).2 x hx
  have hw := words_of h.tab.pos q3
  unfold spots at hs
  rcases List.mem_cons.1 hs with hs | hs
  · have hl := link_of hc x hx
    have t1 := (ht x hx).1
    unfold frL at t1
    rw [hs] at h0 ⊢
    split at hl <;> omega
  · obtain ⟨i, hi, rfl⟩ := List.mem_map.1 hs
    obtain ⟨i0, i1, i2⟩ := (h.tab.ptr.mem x.fn i).1 hi
    obtain ⟨d, hd, hdx⟩ := fm_nth (List.mem_reverse.2 hx)
    rw [List.length_reverse] at hd
    have := (h.ptr hd (i := i) (by rw [hdx]; exact i2) i0 (by rw [hdx]; exact i1)).2.2
    rw [hdx] at this
    obtain ⟨_, _, _, _, v1, v2⟩ := this h0
    exact ⟨v1, by omega⟩
theorem Moves.pic : Pic ws (Sh.toWs ws t s lo size) t s l (toBy s lo size) := by
  intro j h0 h1
  have hn := h.nums
  have hb := h.by_
  have e := h.word (j + toBy s lo size) (by omega) (by omega)
  rw [if_pos (by omega), show j + toBy s lo size - toBy s lo size = j by omega] at e
  rw [e]
  by_cases hh : j ∈ l.flatMap (spots t) ∧ rd ws j ≠ 0
  · rw [if_pos hh, if_pos hh]
    have hv := h.val hh.1 hh.2
    exact upW_in ⟨by omega, by omega⟩ ⟨hb.1, hb.2.1⟩ (by omega) (by omega)
  · rw [if_neg hh, if_neg hh]
variable {W : List Int} {b : Int} (hP : Pic ws W t s l b) (hl : W.length = ws.length) (hb0 : 0 ≤ s.sp + b) (hb1 : s.lo + s.size + b ≤ ws.length)
include hP hl hb0 hb1
/-- The moved frames. -/
theorem Moves.walk_pic : walkL W t (s.lo + s.size + b) (s.sp + b) = some (l.map (sh b)) := by
  have hn := h.nums
  obtain ⟨hc, ht⟩ := h.chain
  refine (walk_chain h.tab.pos (by omega) _ _ _ (Nat.le_refl _) (by omega) (by omega)).2 ⟨hc.shift b h.tab.pos (by omega), ?_⟩
  intro y hy
  obtain ⟨x, hx, rfl⟩ := List.mem_map.1 hy
  obtain ⟨t1, t2⟩ := ht x hx
  obtain ⟨q1, q2, q3⟩ := (Chain.lo h.tab.pos hc).2 x hx
  have hw := words_of h.tab.pos q3
  unfold frL at t1
  unfold frN at t2
  have hxl : x.link = -1 ∨ (x.link = x.at_ + tWords t x.fn ∧ x.link ≤ s.lo + s.size) := by
    have := link_of hc x hx
    split at this
    · exact Or.inl this
    · exact Or.inr ⟨this, by omega⟩
  have m1 := (h.spot hx (j := x.at_) (by omega)).2 (by simp [spots])
  have m2 : ¬ x.at_ + 1 ∈ l.flatMap (spots t) := by
    rw [h.spot hx (by omega)]
    unfold spots
    intro hh
    rcases List.mem_cons.1 hh with hh | hh
    · omega
    · obtain ⟨i, hi, he⟩ := List.mem_map.1 hh
      have := (h.tab.ptr.mem x.fn i).1 hi
      omega
  have e1 := hP x.at_ (by omega) (by omega)
  have e2 := hP (x.at_ + 1) (by omega) (by omega)
  rw [t1] at e1
  rw [if_neg (fun hh => m2 hh.1), t2] at e2
  refine ⟨?_, ?_⟩
  · show rd _ (x.at_ + b) = (if x.link = -1 then -1 else x.link + b) + 1
    rw [e1]
    by_cases hl : x.link = -1
    · rw [if_pos hl, if_neg (fun hh => hh.2 (by omega))]
      omega
    · rw [if_neg hl, if_pos ⟨m1, by omega⟩]
      omega
  · show rd _ (x.at_ + b + 1) = x.fn + 1
    rw [show x.at_ + b + 1 = x.at_ + 1 + b by omega, e2]
theorem Moves.get_pic (d i : Nat) (hd : d < l.length) (hi : i < slotCt t l.reverse d) : sGetE W t (l.reverse.map (sh b)) d i = 0 ∧ sGetV W t (l.reverse.map (sh b)) d i = sGetV ws t l.reverse d i := by
  have hn := h.nums
  have hE := allE_iff.1 h.vals d i (by simpa using hd) hi
  obtain ⟨x, hx, hxm⟩ := h.fmAt d hd
  obtain ⟨q1, q2, q3⟩ := (Chain.lo h.tab.pos h.chain.1).2 x hxm
  have hw := words_of h.tab.pos q3
  have hfm : fm (l.reverse.map (sh b)) d = sh b x := by rw [fm_map (by omega) (by simp; omega), hx]
  have hfn : (sh b x).fn = x.fn := rfl
  have hat : (sh b x).at_ = x.at_ + b := rfl
  have h1 : (i : Int) < tSize t x.fn := by
    unfold slotCt slotN at hi
    rw [hx] at hi
    omega
  have hA : addrB t l.reverse d i = true := addrB_iff.2 ⟨by omega, by simp; omega, by omega, by rw [hx]; exact h1⟩
  have hA2 : addrB t (l.reverse.map (sh b)) d i = true := addrB_iff.2 ⟨by omega, by simp; omega, by omega, by rw [hfm]; exact h1⟩
  have hW : slotW ws t l.reverse d i = rd ws (x.at_ + 2 + i) := by
    unfold slotW addrA aLoadV
    rw [if_pos hA, hx, if_pos (by omega)]
  have hW2 : slotW W t (l.reverse.map (sh b)) d i = rd W (x.at_ + 2 + i + b) := by
    unfold slotW addrA aLoadV
    rw [if_pos hA2, hfm, hat, if_pos (by omega), show x.at_ + b + 2 + (i : Int) = x.at_ + 2 + i + b by omega]
  have hB : slotB ws t l.reverse d i = true := by
    unfold slotB addrA aLoadE
    rw [if_pos hA, hx, if_pos (by omega), hA]
    rfl
  have hB2 : slotB W t (l.reverse.map (sh b)) d i = true := by
    unfold slotB addrA aLoadE
    rw [if_pos hA2, hfm, hat, if_pos (by omega), hA2]
    rfl
  have hp := hP (x.at_ + 2 + i) (by omega) (by omega)
  have hsp : x.at_ + 2 + (i : Int) ∈ l.flatMap (spots t) ↔ tPtr t x.fn i = true := by
    rw [h.spot hxm (by omega)]
    unfold spots
    rw [List.mem_cons, List.mem_map]
    constructor
    · rintro (hh | ⟨k, hk, he⟩)
      · omega
      · have : k = (i : Int) := by omega
        subst this
        exact ((h.tab.ptr.mem x.fn _).1 hk).2.2
    · exact fun hh => Or.inr ⟨i, (h.tab.ptr.mem x.fn _).2 ⟨by omega, h1, hh⟩, rfl⟩
  have hfn2 : (fm (l.reverse.map (sh b)) d).fn = x.fn := by rw [hfm, hfn]
  have hfn1 : (fm l.reverse d).fn = x.fn := by rw [hx]
  by_cases hpt : tPtr t x.fn i = true
  · have hp1 : tPtr t (fm l.reverse d).fn i = true := by rw [hfn1]; exact hpt
    have hp2 : tPtr t (fm (l.reverse.map (sh b)) d).fn i = true := by rw [hfn2]; exact hpt
    by_cases hz : rd ws (x.at_ + 2 + i) = 0
    · rw [if_neg (fun hh => hh.2 hz), hz] at hp
      have e1 := get_nil hB hp1 (hW.trans hz)
      have e2 := get_nil hB2 hp2 (hW2.trans hp)
      exact ⟨e2.1, e2.2.trans e1.2.symm⟩
    · have h3 := (h.ptr hd (i := i) hp1 (by omega) (by rw [hx]; exact h1)).2.2
      rw [hx] at h3
      obtain ⟨k, j, g1, g2, g3, g4⟩ := h3 hz
      rw [if_pos ⟨hsp.2 hpt, hz⟩] at hp
      have hk : ¬ (d : Int) < (k : Int) := by omega
      have e1 := get_at hB hp1 (by rw [hW]; exact hz) (by rw [hW]; omega) (by rw [hW]; exact g1) hk
      have e2 := get_at hB2 hp2 (by rw [hW2, hp]; omega) (by rw [hW2, hp]; omega) (by rw [hW2, hp, findL_sh]; exact g1) hk
      exact ⟨e2.1, e2.2.trans e1.2.symm⟩
  · have hpt : tPtr t x.fn i = false := by simpa using hpt
    have hp1 : tPtr t (fm l.reverse d).fn i = false := by rw [hfn1]; exact hpt
    have hp2 : tPtr t (fm (l.reverse.map (sh b)) d).fn i = false := by rw [hfn2]; exact hpt
    rw [if_neg (fun hh => by have := hsp.1 hh.1; rw [hpt] at this; cases this)] at hp
    have e1 := get_off hB hp1
    have e2 := get_off hB2 hp2
    refine ⟨e2.1, ?_⟩
    rw [e2.2, e1.2, hW, hW2, hp]
theorem Moves.ct_pic (d : Nat) (hd : d < l.length) : slotCt t (l.reverse.map (sh b)) d = slotCt t l.reverse d := by
  unfold slotCt
  rw [fm_map (by omega) (by simp; omega)]
  rfl
theorem Moves.all_pic : allE W t (l.reverse.map (sh b)) = 0 ∧ rowsG W t (l.reverse.map (sh b)) = rowsG ws t l.reverse := by
  constructor
  · refine allE_iff.2 (fun d i hd hi => ?_)
    have hd2 : d < l.length := by simpa using hd
    rw [h.ct_pic hP hl hb0 hb1 d hd2] at hi
    exact (h.get_pic hP hl hb0 hb1 d i hd2 hi).1
  · unfold rowsG
    rw [List.length_map]
    refine List.map_congr_left (fun d hd => ?_)
    have hd2 : d < l.length := by simpa using hd
    unfold rowG
    rw [h.ct_pic hP hl hb0 hb1 d hd2]
    refine List.map_congr_left (fun i hi => ?_)
    exact (h.get_pic hP hl hb0 hb1 d i hd2 (by simpa using hi)).2
end
end Go.Proofs.YtfaghjadjpiaiaaDoor.Sh
namespace Go.Proofs.YtfaghjadjpiaiaaDoor.Sh
open Go.RowKit Go.Shelf Go.Proofs.YtfaghjadjpiaiaaDoorW.PrintWords Go.Proofs.YtfaghjadjpiaiaaDoorW.PrintLast Go.Proofs.YtfaghjadjpiaiaaDoorW.PrintMore
set_option linter.unusedVariables false
set_option linter.unusedSimpArgs false
set_option linter.unusedSectionVars false
theorem rd_ext {u v : List Int} (hl : u.length = v.length) (h : ∀ j : Int, 0 ≤ j → j < u.length → rd u j = rd v j) : u = v := by
  apply List.ext_getElem hl
  intro i h1 h2
  have := h i (by omega) (by omega)
  rw [rd_get, rd_get] at this
  simpa [List.getElem?_eq_getElem h1, List.getElem?_eq_getElem h2] using this
theorem row_ext {u v : List Int} (hl : u.length = v.length) (a n : Int) (h : ∀ j : Int, a ≤ j → j < a + n → rd u j = rd v j) : rowL u a n = rowL v a n := by
  unfold rowL
  rw [hl]
  by_cases hb : inB v.length a n = true
  · rw [if_pos hb, if_pos hb]
    have hbu : inB u.length a n = true := by rw [hl]; exact hb
    obtain ⟨g0, g1, g2, g3⟩ := inB_iff.1 hb
    have e1 := cutW_length hbu
    have e2 := cutW_length hb
    refine rd_ext (by omega) (fun j j0 j1 => ?_)
    rw [rd_cut _ _ _ _ g1 j0 (by omega), rd_cut _ _ _ _ g1 j0 (by omega)]
    exact h _ (by omega) (by omega)
  · rw [if_neg hb, if_neg hb]
theorem flat_sh (t : List Ent) (l : List Fm) (b j : Int) : j ∈ (l.map (sh b)).flatMap (spots t) ↔ j - b ∈ l.flatMap (spots t) := by
  rw [List.flatMap_map]
  simp only [List.mem_flatMap, spots_sh]
theorem rd_zero (ws : List Int) (a n j : Int) (h : inB ws.length a n = true) (h0 : 0 ≤ j) : rd (zeroW ws a n) j = if a ≤ j ∧ j < a + n then 0 else rd ws j := by
  obtain ⟨g0, g1, g2, g3⟩ := inB_iff.1 h
  unfold zeroW
  rw [if_pos h, rd_splice _ _ _ _ h0 (by simp; omega)]
  by_cases hh : a ≤ j ∧ j < a + n
  · rw [if_pos (by simp; omega), if_pos hh, rd_get]
    rw [List.getElem?_replicate]
    split <;> rfl
  · rw [if_neg (by simp; omega), if_neg hh]
theorem zeroW_length (ws : List Int) (a n : Int) : (zeroW ws a n).length = ws.length := by
  unfold zeroW
  split
  · rename_i h
    obtain ⟨g0, g1, g2, g3⟩ := inB_iff.1 h
    exact length_splice _ _ _ (by simp; omega)
  · rfl
theorem apart_far {s x : St} (h : x.lo + x.size ≤ s.lo ∨ s.lo + s.size ≤ x.lo) : apartB s x = true := by
  unfold apartB
  rcases h with q | q
  · rw [decide_eq_false (show ¬ s.lo < x.lo + x.size by omega)]
    simp
  · rw [decide_eq_false (show ¬ x.lo < s.lo + s.size by omega)]
    simp
section
variable {ws : List Int} {t : List Ent} {s : St} {lo size : Int} {l : List Fm} (h : Moves ws t s lo size l)
include h
theorem Moves.newMay {W : List Int} (hW : W.length = ws.length) : mayS W.length ⟨lo, size, s.sp + toBy s lo size⟩ = true := by
  obtain ⟨b1, b2, _, _⟩ := mayS_iff.1 h.mayT
  have hn := h.nums
  have hb := h.by_
  rw [hW]
  exact mayS_iff.2 ⟨b1, b2, hb.2.2.2, by show s.sp + _ ≤ lo + size; omega⟩
theorem Moves.oldEnd {W : List Int} (hW : W.length = ws.length) : mayS W.length (endS s.lo s.size) = true := by
  obtain ⟨b1, b2, b3, b4⟩ := mayS_iff.1 h.may
  have hn := h.nums
  rw [hW]
  exact mayS_iff.2 ⟨b1, b2, Int.le_refl _, by show s.lo ≤ s.lo + s.size; omega⟩
/-- The moved stack, walked again. -/
theorem Moves.again {W : List Int} (hP : Pic ws W t s l (toBy s lo size)) (hW : W.length = ws.length) : walkL W t (lo + size) (s.sp + toBy s lo size) = some (l.map (sh (toBy s lo size))) ∧ allE W t (l.map (sh (toBy s lo size))).reverse = 0 := by
  have hn := h.nums
  have hb := h.by_
  have h1 := h.walk_pic hP hW (by omega) (by omega)
  rw [hb.2.2.1] at h1
  refine ⟨h1, ?_⟩
  rw [← List.map_reverse]
  exact (h.all_pic hP hW (by omega) (by omega)).1
/-- A second move of a picture. -/
theorem Moves.second {W : List Int} (hP : Pic ws W t s l (toBy s lo size)) (hW : W.length = ws.length) {at_ most : Int} (hm : mayS ws.length (endS at_ most) = true) (hf : s.lo + s.size - s.sp ≤ most) (ha : apartB ⟨lo, size, s.sp + toBy s lo size⟩ (endS at_ most) = true) :
    Moves W t ⟨lo, size, s.sp + toBy s lo size⟩ at_ most (l.map (sh (toBy s lo size))) := by
  have hb := h.by_
  obtain ⟨a1, a2⟩ := h.again hP hW
  exact ⟨h.tab, by rw [hW]; exact h.len, h.newMay hW, by rw [hW]; exact hm, a1, a2, by show lo + size - (s.sp + _) ≤ most; omega, ha⟩
/-- A word of a picture that was moved once more. -/
theorem Moves.twice {W : List Int} (hP : Pic ws W t s l (toBy s lo size)) (hW : W.length = ws.length) {at_ most : Int} (h2 : Moves W t ⟨lo, size, s.sp + toBy s lo size⟩ at_ most (l.map (sh (toBy s lo size)))) :
    Pic ws (Sh.toWs W t ⟨lo, size, s.sp + toBy s lo size⟩ at_ most) t s l (toBy s at_ most) := by
  intro j j0 j1
  have hn := h.nums
  have hb := h.by_
  have hn2 := h2.nums
  have e1 := hP j j0 j1
  have e2 := h2.pic (j + toBy s lo size) (by show s.sp + _ ≤ _; omega) (by show _ < lo + size; omega)
  have hf : (j + toBy s lo size ∈ (l.map (sh (toBy s lo size))).flatMap (spots t)) ↔ j ∈ l.flatMap (spots t) := by rw [flat_sh, show j + toBy s lo size - toBy s lo size = j by omega]
  simp only [hf] at e2
  rw [show j + toBy s lo size + toBy ⟨lo, size, s.sp + toBy s lo size⟩ at_ most = j + toBy s at_ most by simp only [toBy]; omega, e1] at e2
  rw [e2]
  by_cases hh : j ∈ l.flatMap (spots t) ∧ rd ws j ≠ 0
  · have hv := h.val hh.1 hh.2
    rw [if_pos hh, if_pos hh, if_pos ⟨hh.1, by omega⟩]
    simp only [toBy]; omega
  · rw [if_neg hh, if_neg hh, if_neg hh]
end
/-- MoveTwice, in plain words. -/
theorem twice_law {ws : List Int} {t : List Ent} {s : St} {lo size at_ most : Int} (ht : TabAll t) (hl : ws.length ≤ 65536) (h1 : toE ws t s lo size = 0) (h2 : toE (toWs ws t s lo size) t (toS ws t s lo size) at_ most = 0) (h3 : toE ws t s at_ most = 0) :
    toS (toWs ws t s lo size) t (toS ws t s lo size) at_ most = toS ws t s at_ most ∧
    ∀ u v : Int, toS ws t s at_ most = ⟨at_, most, v⟩ → u = usedS (toS ws t s at_ most) → rowL (toWs (toWs ws t s lo size) t (toS ws t s lo size) at_ most) v u = rowL (toWs ws t s at_ most) v u := by
  obtain ⟨l, m1, _⟩ := moves_of ht hl h1
  obtain ⟨l3, m3, _⟩ := moves_of ht hl h3
  obtain ⟨l2, m2, _⟩ := moves_of ht (by rw [m1.length]; exact hl) h2
  have el3 : l3 = l := Option.some.inj (m3.walk.symm.trans m1.walk)
  subst el3
  rw [m1.toS] at m2 h2 ⊢
  have hw := (m1.again m1.pic m1.length).1
  have el2 : l2 = l3.map (sh (toBy s lo size)) := Option.some.inj (m2.walk.symm.trans hw)
  subst el2
  have e2 := m1.twice m1.pic m1.length m2
  have hb := m1.by_
  refine ⟨?_, fun u v hv hu => ?_⟩
  · rw [m2.toS, m3.toS]
    congr 1
    simp only [toBy]; omega
  · rw [m3.toS] at hv hu
    have hv2 : v = s.sp + toBy s at_ most := (congrArg St.sp hv).symm
    have hb3 := m3.by_
    have hn3 := m3.nums
    have hu2 : u = at_ + most - (s.sp + toBy s at_ most) := by
      have := m3.newMay (W := ws) rfl
      rw [hu, used_may this hl]
    refine row_ext (by rw [m2.length, m1.length, m3.length]) _ _ (fun j j0 j1 => ?_)
    have q1 := e2 (j - toBy s at_ most) (by omega) (by omega)
    have q2 := m3.pic (j - toBy s at_ most) (by omega) (by omega)
    rw [show j - toBy s at_ most + toBy s at_ most = j by omega] at q1 q2
    rw [q1, q2]
/-- MoveBack, in plain words. -/
theorem back_law {ws : List Int} {t : List Ent} {s : St} {lo size : Int} (ht : TabAll t) (hl : ws.length ≤ 65536) (h1 : toE ws t s lo size = 0) :
    toE (zeroW (toWs ws t s lo size) s.lo s.size) t (toS ws t s lo size) s.lo s.size = 0 ∧
    toS (zeroW (toWs ws t s lo size) s.lo s.size) t (toS ws t s lo size) s.lo s.size = s ∧
    rowL (toWs (zeroW (toWs ws t s lo size) s.lo s.size) t (toS ws t s lo size) s.lo s.size) s.sp (usedS s) = rowL ws s.sp (usedS s) := by
  obtain ⟨l, m1, _⟩ := moves_of ht hl h1
  have hn := m1.nums
  have hb := m1.by_
  have hfar := m1.far
  have hin : inB (toWs ws t s lo size).length s.lo s.size = true := by
    rw [m1.length]
    exact inB_iff.2 (by omega)
  have hW : (zeroW (toWs ws t s lo size) s.lo s.size).length = ws.length := by rw [zeroW_length, m1.length]
  have hP : Pic ws (zeroW (toWs ws t s lo size) s.lo s.size) t s l (toBy s lo size) := by
    intro j j0 j1
    rw [rd_zero _ _ _ _ hin (by omega), if_neg (by omega)]
    exact m1.pic j j0 j1
  have m2 := m1.second hP hW (at_ := s.lo) (most := s.size) (by have := m1.oldEnd (W := ws) rfl; exact this) (by omega) (apart_far (by show s.lo + s.size ≤ lo ∨ lo + size ≤ s.lo; omega))
  have e2 := m1.twice hP hW m2
  rw [m1.toS]
  refine ⟨m2.toE, ?_, ?_⟩
  · rw [m2.toS]
    cases s
    simp only [toBy, St.mk.injEq, true_and]
    omega
  · rw [used_may m1.may hl]
    refine row_ext (by rw [m2.length, hW]) _ _ (fun j j0 j1 => ?_)
    have q1 := e2 j (by omega) (by omega)
    have ez : toBy s s.lo s.size = 0 := by simp only [toBy]; omega
    rw [ez, Int.add_zero] at q1
    rw [q1]
    split <;> simp
end Go.Proofs.YtfaghjadjpiaiaaDoor.Sh
namespace Go.Proofs.YtfaghjadjpiaiaaDoor.Sh
open Go.RowKit Go.Shelf Go.Proofs.YtfaghjadjpiaiaaDoorW.PrintWords Go.Proofs.YtfaghjadjpiaiaaDoorW.PrintLast Go.Proofs.YtfaghjadjpiaiaaDoorW.PrintMore
set_option linter.unusedVariables false
set_option linter.unusedSimpArgs false
set_option linter.unusedSectionVars false
/-- Is a word an address of a stack's? -/
def inS (s : St) (v : Int) : Bool := decide (s.lo ≤ v) && decide (v < s.lo + s.size)
structure Keeps (ws W : List Int) (t : List Ent) (s to_ : St) (m : List Fm) : Prop where
  may : mayS W.length to_ = true
  fe : framesE W t to_ = 0
  fl : framesL W t to_ = m
  le : m.length = (framesL ws t s).length
  ae : allE W t m = 0
  av : allV W t m = allV ws t (framesL ws t s)
  was : allE ws t (framesL ws t s) = 0
  row : rowL W s.lo s.size = rowL ws s.lo s.size
  used : usedS to_ = usedS s
  fn : ∀ d : Nat, d < m.length → (fm m d).fn = (fm (framesL ws t s) d).fn
  link : ∀ d : Nat, d < m.length → 0 ≤ (fm m d).link → inS s (fm m d).link = false
  at_ : ∀ d : Nat, d < m.length → 0 ≤ (fm m d).at_ ∧ (fm m d).at_ + 2 + tSize t (fm m d).fn ≤ W.length ∧ (fm m d).link ≤ W.length
  ptr : ∀ d : Nat, d < m.length → ∀ i ∈ tPtrs t (fm m d).fn, rd W ((fm m d).at_ + 2 + i) ≠ 0 → inS s (rd W ((fm m d).at_ + 2 + i)) = false
theorem out_inS {s : St} {v lo size : Int} (hf : lo + size ≤ s.lo ∨ s.lo + s.size ≤ lo) (h0 : lo ≤ v) (h1 : v < lo + size) : inS s v = false := by
  unfold inS
  rcases hf with q | q
  · rw [decide_eq_false (show ¬ s.lo ≤ v by omega)]; rfl
  · rw [decide_eq_false (show ¬ v < s.lo + s.size by omega)]; simp
theorem keeps_law {ws : List Int} {t : List Ent} {s : St} {lo size : Int} (ht : TabAll t) (hl : ws.length ≤ 65536) (h1 : toE ws t s lo size = 0) :
    ∃ m, Keeps ws (toWs ws t s lo size) t s (toS ws t s lo size) m := by
  obtain ⟨l, m1, hfr⟩ := moves_of ht hl h1
  have hn := m1.nums
  have hb := m1.by_
  have hfar := m1.far
  have hlen := m1.length
  obtain ⟨a1, a2⟩ := m1.again m1.pic hlen
  have hmay := m1.newMay hlen
  have hall := m1.all_pic m1.pic hlen (by omega) (by omega)
  have hat : ∀ d : Nat, d < l.length → ∃ x ∈ l, fm l.reverse d = x ∧ fm (l.reverse.map (sh (toBy s lo size))) d = sh (toBy s lo size) x := by
    intro d hd
    obtain ⟨x, hx, hxm⟩ := m1.fmAt d hd
    exact ⟨x, hxm, hx, by rw [fm_map (by omega) (by simp; omega), hx]⟩
  have ew : walkL (toWs ws t s lo size) t ((⟨lo, size, s.sp + toBy s lo size⟩ : St).lo + (⟨lo, size, s.sp + toBy s lo size⟩ : St).size) (⟨lo, size, s.sp + toBy s lo size⟩ : St).sp = some (l.map (sh (toBy s lo size))) := a1
  rw [m1.toS]
  refine ⟨l.reverse.map (sh (toBy s lo size)), hmay, ?_, ?_, ?_, hall.1, ?_, ?_, ?_, ?_, ?_, ?_, ?_, ?_⟩
  · unfold framesE
    rw [if_pos hmay, ew]
    rfl
  · unfold framesL
    rw [if_pos hmay, ew, List.map_reverse]
    rfl
  · rw [hfr]; simp
  · unfold allV
    rw [if_pos hall.1, hfr, if_pos m1.vals, hall.2]
  · rw [hfr]; exact m1.vals
  · refine row_ext hlen _ _ (fun j j0 j1 => ?_)
    rw [m1.word j (by omega) (by omega), if_neg (by omega)]
  · rw [used_may (N := ws.length) (by rw [← hlen]; exact hmay) hl, used_may m1.may hl]
    show lo + size - (s.sp + _) = _
    omega
  · intro d hd
    obtain ⟨x, hx, e1, e2⟩ := hat d (by simpa using hd)
    rw [hfr, e1, e2]
    rfl
  · intro d hd h0
    obtain ⟨x, hx, e1, e2⟩ := hat d (by simpa using hd)
    rw [e2] at h0 ⊢
    obtain ⟨q1, q2, q3⟩ := (Chain.lo ht.pos m1.chain.1).2 x hx
    have hw := words_of ht.pos q3
    have hli := link_of m1.chain.1 x hx
    have e3 : (sh (toBy s lo size) x).link = if x.link = -1 then -1 else x.link + toBy s lo size := rfl
    rw [e3] at h0 ⊢
    by_cases hk : x.link = -1
    · rw [if_pos hk] at h0; omega
    · rw [if_neg hk]
      split at hli
      · exact absurd hli hk
      · exact out_inS hfar (by omega) (by omega)
  · intro d hd
    obtain ⟨x, hx, e1, e2⟩ := hat d (by simpa using hd)
    rw [e2]
    obtain ⟨q1, q2, q3⟩ := (Chain.lo ht.pos m1.chain.1).2 x hx
    have hw := words_of ht.pos q3
    have e3 : (sh (toBy s lo size) x).at_ = x.at_ + toBy s lo size := rfl
    have e4 : (sh (toBy s lo size) x).fn = x.fn := rfl
    have hli := link_of m1.chain.1 x hx
    have e5 : (sh (toBy s lo size) x).link = if x.link = -1 then -1 else x.link + toBy s lo size := rfl
    rw [e3, e4, e5]
    split at hli <;> split <;> omega
  · intro d hd i hi h0
    have hd2 : d < l.length := by simpa using hd
    obtain ⟨x, hx, e1, e2⟩ := hat d hd2
    rw [e2] at hi h0 ⊢
    obtain ⟨q1, q2, q3⟩ := (Chain.lo ht.pos m1.chain.1).2 x hx
    have hw := words_of ht.pos q3
    obtain ⟨i0, i1, i2⟩ := (ht.ptr.mem x.fn i).1 hi
    have e3 : (sh (toBy s lo size) x).at_ + 2 + i = x.at_ + 2 + i + toBy s lo size := by show x.at_ + toBy s lo size + 2 + i = _; omega
    rw [e3] at h0 ⊢
    have hp := m1.pic (x.at_ + 2 + i) (by omega) (by omega)
    by_cases hz : rd ws (x.at_ + 2 + i) = 0
    · rw [if_neg (fun hh => hh.2 hz), hz] at hp
      exact absurd hp h0
    · have hv := (m1.ptr hd2 (i := i) (by rw [e1]; exact i2) i0 (by rw [e1]; exact i1)).2.2
      rw [e1] at hv
      obtain ⟨_, _, _, _, v1, v2⟩ := hv hz
      rw [if_pos ⟨(m1.spot hx (by omega)).2 (by unfold spots; rw [List.mem_cons, List.mem_map]; exact Or.inr ⟨i, hi, rfl⟩), hz⟩] at hp
      rw [hp]
      exact out_inS hfar (by omega) (by omega)
end Go.Proofs.YtfaghjadjpiaiaaDoor.Sh
