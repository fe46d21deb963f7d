/- Contract of Row, with a row that is new. Contracts of the document's Same (values) and Slot, and of the law's inside; what stays where words move. The law MoveKeeps, walked. -/
import Derived.Test.YtfaghjadjpiaiaaDoorYA
import Derived.BigQuiet
namespace Go.Proofs.YtfaghjadjpiaiaaDoor.Sh
open Go.RowKit Go.Shelf Go.Proofs.YtfaghjadjpiaiaaDoorW.PrintWords Go.Proofs.YtfaghjadjpiaiaaDoorW.PrintLast Go.Proofs.YtfaghjadjpiaiaaDoorW.PrintMore
set_option linter.unusedVariables false
set_option linter.unusedSimpArgs false
def RowFPost (l : List Int) (x : Int) (w : World) (e : Ending) (w' : World) : Prop := ∃ A c, e = .returned (.tuple #[.slice A l.length c, .int .i64 x]) ∧ (Kd.int .u64).C w' A l.length l ∧ l.length ≤ c ∧ Below w.heap.size w w' ∧ ∀ ad, A = some ad → w.heap.size ≤ ad.block
theorem C_ownF {w : World} {base : Nat} {e : TypeId} {k : IntKind} {v : Value} {xs : List Int} (h : w.ownsRow base e 1 v xs.length (nums k xs)) : ∃ A c, v = .slice A xs.length c ∧ xs.length ≤ c ∧ (Kd.int k).C w A xs.length xs ∧ ∀ ad, A = some ad → base ≤ ad.block := by
  obtain ⟨A, c, rfl, hc, hC⟩ := C_own h
  refine ⟨A, c, rfl, hc, hC, fun ad had => ?_⟩
  subst had
  exact own_base h ad.block rfl
theorem C_moveW {k : IntKind} {W W' : World} {A : Option Addr} {n : Nat} {b : Nat} {xs : List Int} (hC : (Kd.int k).C W A n xs) (hg : W.grownBy W' (some b)) (hk : ∀ ad, A = some ad → ad.block ≠ b) : (Kd.int k).C W' A n xs := by
  refine ⟨hC.1, hC.2.1, fun hn => ?_⟩
  obtain ⟨ad, rfl, hr⟩ := hC.2.2 hn
  refine ⟨ad, rfl, fun j p hj => ?_⟩
  obtain ⟨cs, h1, h2, h3⟩ := hr j p hj
  refine ⟨cs, h1, h2, fun i u hu => ?_⟩
  have hu' := h3 i u hu
  exact World.grownBy.cell hg hu' (fun hh => hk _ rfl (by rw [add_block] at hh; injection hh))
set_option maxRecDepth 100000 in
set_option maxHeartbeats 2000000 in
theorem RowF_calls (a b : Nat) (ws : List Int) (at_ n : Int) (w : World) (h : IsArena w a b ws) (hat : I64 at_) (hn : I64 n) :
    Calls Tryd.prog 20 #[.pointer (some ⟨a, 0, none⟩), .int .i64 at_, .int .i64 n] w (RowFPost (rowL ws at_ n) (rowE ws at_ n) w) := by
  have HB := Aside0.mk (ABox.start w (.int .i64 0) 31)
  have q0 := (blk_cell HB.out.box 0).trans rfl
  have q1 := blk_frozen HB.out.box 0
  have hA := h.below HB.out.below
  have hl := h.len
  by_cases hi : inB ws.length at_ n = true
  · have e1 : rowL ws at_ n = cutW ws at_ n := if_pos hi
    have e2 : rowE ws at_ n = 0 := if_pos hi
    rw [e1, e2]
    obtain ⟨g0, g1, g2, g3⟩ := inB_iff.1 hi
    have hlc : (cutW ws at_ n).length = n.toNat := by
      have := cutW_length hi
      omega
    have HP : Aside0 (∃ A c, (Kd.int .u64).C (w.alloc (.cells #[.int .i64 0] 31)) A (cutW ws at_ n).length (cutW ws at_ n) ∧ (cutW ws at_ n).length ≤ c ∧ Calls Tryd.prog 60 #[.pointer (some ⟨a, 0, none⟩), .int .i64 at_, .int .i64 n] (w.alloc (.cells #[.int .i64 0] 31)) fun e w' => e = .returned (.slice A (cutW ws at_ n).length c) ∧ (w.alloc (.cells #[.int .i64 0] 31)) = w') := by
      refine ⟨?_⟩
      by_cases h0 : n = 0
      · subst h0
        have e : cutW ws at_ 0 = [] := by simp [cutW]
        rw [e]
        exact ⟨none, 0, Kd.C_nil _ _, Nat.le_refl _, part_nil a b ws at_ _ hA hat hi⟩
      · rw [hlc]
        exact ⟨some ⟨b, at_.toNat, none⟩, ws.length - at_.toNat, C_blk hA.row (by omega) at_.toNat n.toNat (by omega), by omega, part_ok a b ws at_ n _ hA hat hn (by omega) hi⟩
    obtain ⟨A, c, hC, hcl, hv⟩ := HP.out
    have HV := Aside0.mk hv
    have HCl := Aside0.mk (cloneU_calls A c (cutW ws at_ n) _ hC hcl (by omega))
    generalize cutW ws at_ n = L at *
    clear h hA hat e1 e2 hi HP hC hcl hv hlc
    go_enter_defers Tryd.func20, Tryd.ntmps20
    go_wp2_with first
      | (go_at_call 60; with_reducible refine HV.out.mono ?_; rintro e w1 ⟨rfl, rfl⟩)
      | (go_at_call 59
         refine HCl.out.mono ?_
         rintro e w2 ⟨v, rfl, ho, hb⟩
         have HB2 := Aside0.mk (HB.out.step hb)
         have q2 := (blk_cell HB2.out.box 0).trans rfl
         have q3 := blk_frozen HB2.out.box 0
         have HO := Aside0.mk ho
         clear hb ho q0 q1)
    have H1 := HB2.out.put (.int .i64 0)
    have ho2 := own_other HO.out (grown_setCell w2 w.heap.size 0 (.int .i64 0)) (Or.inr (fun hh => by have := own_base HO.out _ hh; simp at this; omega))
    obtain ⟨A2, c2, rfl, hc2, hC2, hf2⟩ := C_ownF ho2
    exact ar_ok _ _ 0 _ _ H1.box (fun W' hc' => Row_res _ _ 0 _ rfl rfl W' hc') ⟨A2, c2, rfl, hC2, hc2, H1.below, fun ad had => by have := hf2 ad had; have h5 := HB.out.below.size; simp at *; omega⟩
  · have e1 : rowL ws at_ n = [] := if_neg hi
    have e2 : rowE ws at_ n = 2 := if_neg hi
    rw [e1, e2]
    have HP := Aside0.mk (part_no a b ws at_ n _ hA hat hn (by simpa using hi))
    clear h hA hat hn e1 e2 hi
    go_enter_defers Tryd.func20, Tryd.ntmps20
    go_wp2_with (go_at_call 60; refine HP.out.mono ?_; rintro e w1 ⟨rfl, rfl⟩)
    exact ar_no _ _ 0 _ _ HB.out.box (fun W' hc' => Row_res _ _ 2 _ rfl rfl W' hc') ⟨none, 0, rfl, Kd.C_nil _ _, Nat.le_refl _, ((HB.out.below.alloc HB.out.below.size _).setCell (Nat.le_refl _) _), fun ad had => by cases had⟩
end Go.Proofs.YtfaghjadjpiaiaaDoor.Sh
namespace Go.Proofs.YtfaghjadjpiaiaaDoor.Sh
open Go.RowKit Go.Shelf Go.Proofs.YtfaghjadjpiaiaaDoorW.PrintWords Go.Proofs.YtfaghjadjpiaiaaDoorW.PrintLast Go.Proofs.YtfaghjadjpiaiaaDoorW.PrintMore
set_option linter.unusedVariables false
set_option linter.unusedSimpArgs false
attribute [local go_sem high] eqVl
theorem apart_u8 {W : World} {a b : Nat} {ws : List Int} (h : IsArena W a b ws) {p : Addr} {v : Int} (hc : W.cell? p = some (.int .u8 v)) : p.block ≠ b := by
  rintro rfl
  unfold World.cell? at hc
  rw [h.row] at hc
  simp only at hc
  split at hc
  · cases hc
  · simp [nums] at hc
theorem apart_slice {W : World} {a b : Nat} {ws : List Int} (h : IsArena W a b ws) {p : Addr} {A : Option Addr} {n c : Nat} (hc : W.cell? p = some (.slice A n c)) : p.block ≠ b := by
  rintro rfl
  unfold World.cell? at hc
  rw [h.row] at hc
  simp only at hc
  split at hc
  · cases hc
  · simp [nums] at hc
theorem C_far_Vl {W W' : World} {a b : Nat} {ws : List Int} (h : IsArena W a b ws) {A : Option Addr} {n : Nat} {xs : List Vl} (hC : kVl.C W A n xs) (hg : W.grownBy W' (some b)) : kVl.C W' A n xs := by
  refine ⟨hC.1, hC.2.1, fun hn => ?_⟩
  obtain ⟨ad, rfl, hr⟩ := hC.2.2 hn
  refine ⟨ad, rfl, fun j p hj => ?_⟩
  obtain ⟨cs, h1, h2, h3⟩ := hr j p hj
  have e := kVl_open h2
  have hne : ad.block ≠ b := by
    have h0 : W.cell? (ad.add (j * kVl.sz + 0)) = some (.int .u8 p.k) := h3 0 _ (by rw [e]; rfl)
    have := apart_u8 h h0
    rw [add_block] at this
    exact this
  refine ⟨cs, h1, by rw [e]; exact kVl_mk W' p, fun i u hu => ?_⟩
  exact World.grownBy.cell hg (h3 i u hu) (fun hh => hne (by rw [add_block] at hh; injection hh))
theorem C_far_Vls {W W' : World} {a b : Nat} {ws : List Int} (h : IsArena W a b ws) {A : Option Addr} {n : Nat} {xs : List (List Vl)} (hC : kVls.C W A n xs) (hg : W.grownBy W' (some b)) : kVls.C W' A n xs := by
  refine ⟨hC.1, hC.2.1, fun hn => ?_⟩
  obtain ⟨ad, rfl, hr⟩ := hC.2.2 hn
  refine ⟨ad, rfl, fun j p hj => ?_⟩
  obtain ⟨cs, h1, h2, h3⟩ := hr j p hj
  obtain ⟨A1, c1, rfl, hl1, hC1⟩ := h2
  have hne : ad.block ≠ b := by
    have := apart_slice h (h3 0 _ rfl)
    rw [add_block] at this
    exact this
  refine ⟨_, h1, ⟨A1, c1, rfl, hl1, C_far_Vl h hC1 hg⟩, fun i u hu => ?_⟩
  exact World.grownBy.cell hg (h3 i u hu) (fun hh => hne (by rw [add_block] at hh; injection hh))
def vls (l : List (List Vl)) (i : Int) : List Vl := l.getD i.toNat []
theorem at_Vls {w : World} {A : Option Addr} {n : Nat} {xs : List (List Vl)} (h : Kd.C kVls w A n xs) (i : Int) (h0 : 0 ≤ i) (h1 : i < n) : ∃ ad A1 c1, A = some ad ∧ w.cell? (ad.add i.toNat) = some (.slice A1 (vls xs i).length c1) ∧ (vls xs i).length ≤ c1 ∧ kVl.C w A1 (vls xs i).length (vls xs i) := by
  obtain ⟨ad, e, hc⟩ := h.2.2 (by omega)
  have hl : i.toNat < xs.length := by have := h.1; omega
  obtain ⟨c, hs, hr, hcell⟩ := hc i.toNat _ (List.getElem?_eq_getElem hl)
  have he : vls xs i = xs[i.toNat] := by simp [vls, List.getElem?_eq_getElem hl]
  obtain ⟨A1, c1, rfl, hl1, hC1⟩ := hr
  rw [he]
  refine ⟨ad, A1, c1, e, ?_, hl1, hC1⟩
  have := hcell 0 _ rfl
  have e1 : i.toNat * kVls.sz + 0 = i.toNat := by show i.toNat * 1 + 0 = _; omega
  rw [e1] at this
  exact this
set_option maxRecDepth 100000 in
set_option maxHeartbeats 4000000 in
theorem SameV_calls (A B : Option Addr) (c e : Nat) (l : List (List Vl)) (w : World) (hr : kVls.C w A l.length l) (hc : l.length ≤ c) (hs : kVls.C w B l.length l) (he : l.length ≤ e) :
    Calls Tryd.prog 22 #[.slice A l.length c, .slice B l.length e] w fun e w' => e = .returned (.bool true) ∧ Below w.heap.size w w' := by
  have hm : (l.length : Int) ≤ 9223372036854775807 := by have := hr.2.1; omega
  have HR := Aside0.mk hr
  have HS := Aside0.mk hs
  generalize hP : (fun (e : Ending) (w' : World) => e = .returned (.bool true) ∧ Below w.heap.size w w') = Post
  have HPost := Aside0.mk hP
  clear hP hr hs
  go_enter Tryd.func22, Tryd.ntmps22
  go_wp2
  go_loopw [14] (fun i wr => ∃ k : Nat, k ≤ l.length ∧ i = .int .i64 k ∧ Aside0 (Below w.heap.size w wr)) (fun i _ => l.length - (intOf i).toNat)
  case atStart => exact ⟨0, Nat.zero_le _, rfl, ⟨Below.refl _ _⟩⟩
  case round =>
    obtain ⟨k, hk, rfl, HB⟩ := hrel
    by_cases hlt : k < l.length
    · obtain ⟨ad, A1, c1, rfl, k0, hl1, hC1⟩ := at_Vls (Kd.C_below HR.out HB.out) (k : Int) (by omega) (by omega)
      obtain ⟨ad2, A2, c2, rfl, k1, hl2, hC2⟩ := at_Vls (Kd.C_below HS.out HB.out) (k : Int) (by omega) (by omega)
      simp only [Int.toNat_natCast] at k0 k1
      generalize vls l k = x at *
      have hmx : (x.length : Int) ≤ 9223372036854775807 := by have := hC1.2.1; omega
      have HC1 := Aside0.mk hC1
      have HC2 := Aside0.mk hC2
      clear hC1 hC2
      go_wp2_with fail
      go_region
      have HBd := Aside0.mk (below_drew HB.out)
      have k0' : wr.drew.cell? (ad.add k) = some (.slice A1 x.length c1) := by simpa using k0
      have k1' : wr.drew.cell? (ad2.add k) = some (.slice A2 x.length c2) := by simpa using k1
      go_wp2_with fail
      go_loopw [33] (fun i wq => ∃ q : Nat, q ≤ x.length ∧ i = .int .i64 q ∧ Aside0 (Below wr.heap.size wr wq)) (fun i _ => x.length - (intOf i).toNat)
      case atStart => exact ⟨0, Nat.zero_le _, rfl, ⟨below_drew (Below.refl _ _)⟩⟩
      case round =>
        obtain ⟨q, hq, rfl, HQ⟩ := hrel
        have k0q := pw_cell_below HQ.out k0
        have k1q := pw_cell_below HQ.out k1
        by_cases hqx : q < x.length
        · obtain ⟨ad3, rfl, u0, u1, u2, u3⟩ := at_Vl (Kd.C_below HC1.out HQ.out) (q : Int) (by omega) (by omega)
          obtain ⟨ad4, rfl, v0, v1, v2, v3⟩ := at_Vl (Kd.C_below HC2.out HQ.out) (q : Int) (by omega) (by omega)
          simp only [Int.toNat_natCast] at u0 u1 u2 u3 v0 v1 v2 v3
          generalize vl x q = y at *
          go_wp2_with fail
          go_region
          go_wp2_with fail
          go_roundw
          case rel => exact ⟨q + 1, by omega, by go_num, ⟨below_drew HQ.out⟩⟩
          case measure => simp [intOf]; omega
        · have HBq := Aside0.mk (below_then HB.out HB.out.size HQ.out)
          go_wp2_with fail
          go_roundw
          case rel => exact ⟨k + 1, by omega, by go_num, HBq⟩
          case measure => simp [intOf]; omega
    · go_wp2
      rw [← HPost.out]
      exact ⟨rfl, HB.out⟩
set_option maxRecDepth 100000 in
theorem Slot17_calls (x : Fm) (i : Int) (w : World) (hx : 0 ≤ x.at_ ∧ x.at_ ≤ 65536) (hi : 0 ≤ i ∧ i ≤ 1000000) :
    Calls Tryd.prog 28 #[.agg #[.int .i64 x.at_, .int .i64 x.fn, .int .i64 x.link], .int .i64 i] w fun e w' => e = .returned (.int .i64 (x.at_ + 2 + i)) ∧ Below w.heap.size w w' := by
  have HB := Aside0.mk (below_alloc (Below.refl w.heap.size w) (.cells #[.int .i64 x.at_, .int .i64 x.fn, .int .i64 x.link] 61))
  obtain ⟨x0, x1⟩ := hx
  obtain ⟨i0, i1⟩ := hi
  go_enter Tryd.func28, Tryd.ntmps28
  go_wp2
  go_ret
  exact ⟨rfl, HB.out⟩
theorem inS_u (s : St) (v : Int) (hs : 0 ≤ s.lo ∧ s.lo ≤ 65536 ∧ 0 ≤ s.size ∧ s.size ≤ 65536) : inS s v = (decide (s.lo ≤ v) && decide (v < s.lo + s.size)) := rfl
set_option maxRecDepth 100000 in
theorem inside_calls (s : St) (v : Int) (w : World) (hs : 0 ≤ s.lo ∧ s.lo ≤ 65536 ∧ 0 ≤ s.size ∧ s.size ≤ 65536) (hv : U64 v) (hno : inS s v = false) :
    Calls Tryd.prog 25 #[.agg #[.int .i64 s.lo, .int .i64 s.size, .int .i64 s.sp], .int .u64 v] w fun e w' => e = .returned (.bool false) ∧ Below w.heap.size w w' := by
  have HB := Aside0.mk (below_alloc (Below.refl w.heap.size w) (.cells #[.int .i64 s.lo, .int .i64 s.size, .int .i64 s.sp] 44))
  obtain ⟨a0, a1, b0, b1⟩ := hs
  obtain ⟨v0, v1⟩ := hv
  unfold inS at hno
  by_cases h : s.lo ≤ v
  · rw [decide_eq_true h, Bool.true_and, decide_eq_false_iff_not] at hno
    have w1 : IntKind.u64.wrap s.lo = s.lo := by rw [IntKind.wrap_u64]; omega
    have w2 : IntKind.u64.wrap (s.lo + s.size) = s.lo + s.size := by rw [IntKind.wrap_u64]; omega
    go_enter Tryd.func25, Tryd.ntmps25
    go_wp2
    go_ret
    exact ⟨by simp [w1, w2], HB.out⟩
  · have w1 : IntKind.u64.wrap s.lo = s.lo := by rw [IntKind.wrap_u64]; omega
    clear hno
    go_enter Tryd.func25, Tryd.ntmps25
    go_wp2
    go_ret
    exact ⟨by simp [w1], HB.out⟩
end Go.Proofs.YtfaghjadjpiaiaaDoor.Sh
namespace Go.Proofs.YtfaghjadjpiaiaaDoor.Sh
open Go.RowKit Go.Shelf Go.Proofs.YtfaghjadjpiaiaaDoorW.PrintWords Go.Proofs.YtfaghjadjpiaiaaDoorW.PrintLast Go.Proofs.YtfaghjadjpiaiaaDoorW.PrintMore
set_option linter.unusedVariables false
set_option linter.unusedSimpArgs false
theorem frames_fine {ws : List Int} {t : List Ent} {s : St} (hp : ∀ f, tHas t f = true → 0 ≤ tSize t f) (hl : ws.length ≤ 65536) : (∀ x ∈ framesL ws t s, FmAt x) ∧ (framesL ws t s).length ≤ 1000000 := by
  by_cases hm : mayS ws.length s = true
  · by_cases hf : framesE ws t s = 0
    · exact ⟨fun x hx => (frames_mem hp hm hl hf x hx).1, frames_len hp hm hl hf⟩
    · have e : framesL ws t s = [] := by
        unfold framesE at hf
        rw [if_pos hm] at hf
        unfold framesL
        rw [if_pos hm]
        cases ho : walkL ws t (s.lo + s.size) s.sp with
        | none => rfl
        | some l => rw [ho] at hf; exact absurd rfl hf
      rw [e]
      exact ⟨(fun x hx => by cases hx), by simp⟩
  · have e : framesL ws t s = [] := if_neg hm
    rw [e]
    exact ⟨(fun x hx => by cases hx), by simp⟩
/-- What stands while MoveKeeps runs. -/
structure KpW (w : World) (s : St) (wt : World) (a b : Nat) (U : List Int) (n : Nat) (o : St) (W : World) : Prop where
  mv : Mv w s wt W
  one : IsArena W a b U
  nb : W.heap[n]? = some (.cells #[.int .i64 o.lo, .int .i64 o.size, .int .i64 o.sp] 44 (0, 0))
theorem KpW.step {w : World} {s : St} {wt : World} {a b : Nat} {U : List Int} {n : Nat} {o : St} {W W1 : World} (h : KpW w s wt a b U n o W) (hb : Below W.heap.size W W1) : KpW w s wt a b U n o W1 := ⟨h.mv.step hb, h.one.below hb, blk_below h.nb hb⟩
set_option maxRecDepth 100000 in
set_option maxHeartbeats 4000000 in
theorem keeps_early (A : Option Addr) (c : Nat) (ws : List Int) (B : Option Addr) (e : Nat) (fn : List Fn0) (s : St) (lo size : Int) (w : World) (h : MvIn w A c ws B e fn) (hE : mvB ws fn = false) :
    Calls Tryd.prog 4 #[.slice A ws.length c, .slice B fn.length e, .agg #[.int .i64 s.lo, .int .i64 s.size, .int .i64 s.sp], .int .i64 lo, .int .i64 size] w fun e w' => e = .returned (.bool true) ∧ Below w.heap.size w w' := by
  have hm : (ws.length : Int) ≤ 9223372036854775807 := by have := h.row.2.1; omega
  have HS := Aside0.mk (BlkW.start w #[.int .i64 s.lo, .int .i64 s.size, .int .i64 s.sp] 44)
  have HN := Aside0.mk (New_mv (h.below HS.out.below))
  have HG := Aside0.mk (fun (W : World) (hB : Below w.heap.size w W) => GreatF_calls B e fn W (Kd.C_below h.fns hB) h.fnc)
  have HAw := Aside0.mk (fun (W : World) => awake_calls W)
  clear h
  generalize hP : (fun (e : Ending) (w' : World) => e = .returned (.bool true) ∧ Below w.heap.size w w') = Post
  have HPost := Aside0.mk hP
  clear hP
  go_enter Tryd.func4, Tryd.ntmps4
  by_cases h1 : (ws.length : Int) > 256
  · clear hE
    go_wp2_with first
      | (go_at_call 9; refine HN.out.mono ?_; rintro e w1 ⟨p, x, rfl, hx, hb⟩; have H1 := Aside0.mk (HS.out.step hb); clear hb hx)
      | (go_at_call 16; refine (HAw.out w1).mono ?_; rintro e w3 ⟨rfl, hb⟩; have H3 := Aside0.mk (H1.out.step hb); clear hb)
    rw [← HPost.out]
    exact ⟨rfl, H3.out.below⟩
  cases h2 : greatF fn with
  | true =>
    rw [h2] at HG
    clear hE
    go_wp2_with first
      | (go_at_call 9; refine HN.out.mono ?_; rintro e w1 ⟨p, x, rfl, hx, hb⟩; have H1 := Aside0.mk (HS.out.step hb); clear hb hx)
      | (go_at_call 10; refine (HG.out _ H1.out.below).mono ?_; rintro e w2 ⟨rfl, hb⟩; have H2 := Aside0.mk (H1.out.step hb); clear hb)
      | (go_at_call 16; refine (HAw.out w2).mono ?_; rintro e w3 ⟨rfl, hb⟩; have H3 := Aside0.mk (H2.out.step hb); clear hb)
    rw [← HPost.out]
    exact ⟨rfl, H3.out.below⟩
  | false =>
    rw [h2] at HG
    have hn : newB fn = false := by
      unfold mvB at hE
      rw [h2, decide_eq_true (by omega)] at hE
      simpa using hE
    clear hE h2
    go_wp2_with first
      | (go_at_call 9; refine HN.out.mono ?_; rintro e w1 ⟨p, x, rfl, hx, hb⟩; have H1 := Aside0.mk (HS.out.step hb); have hx0 : (x != 0) = true := (by simpa using hx hn); clear hb hx)
      | (go_at_call 10; refine (HG.out _ H1.out.below).mono ?_; rintro e w2 ⟨rfl, hb⟩; have H2 := Aside0.mk (H1.out.step hb); clear hb)
      | (go_at_call 16; refine (HAw.out w2).mono ?_; rintro e w3 ⟨rfl, hb⟩; have H3 := Aside0.mk (H2.out.step hb); clear hb)
    rw [← HPost.out]
    exact ⟨rfl, H3.out.below⟩
set_option maxRecDepth 100000 in
set_option maxHeartbeats 16000000 in
theorem keeps_walk (A : Option Addr) (c : Nat) (ws : List Int) (B : Option Addr) (e : Nat) (fn : List Fn0) (s : St) (lo size : Int) (w : World) (h : MvIn w A c ws B e fn) (hE : mvB ws fn = true) (hs : s.wf) (hlo : I64 lo) (hsz : I64 size) :
    Calls Tryd.prog 4 #[.slice A ws.length c, .slice B fn.length e, .agg #[.int .i64 s.lo, .int .i64 s.size, .int .i64 s.sp], .int .i64 lo, .int .i64 size] w fun e w' => e = .returned (.bool true) ∧ Below w.heap.size w w' := by
  obtain ⟨h1, h2, hn⟩ := mv_of hE
  have hm : (ws.length : Int) ≤ 9223372036854775807 := by omega
  have HS := Aside0.mk (BlkW.start w #[.int .i64 s.lo, .int .i64 s.size, .int .i64 s.sp] 44)
  have HN := Aside0.mk (New_mv1 (h.below HS.out.below) hn)
  have HG := Aside0.mk (fun (W : World) (hB : Below w.heap.size w W) => GreatF_calls B e fn W (Kd.C_below h.fns hB) h.fnc)
  rw [h2] at HG
  have HL := Aside0.mk (fun (W : World) (hB : Below w.heap.size w W) => laid_calls A c ws W (Kd.C_below h.row hB) h.rowc h.all (by omega))
  have HAw := Aside0.mk (fun (W : World) => awake_calls W)
  have HOk := Aside0.mk h.ok
  have HNb := Aside0.mk hn
  have HI := Aside0.mk (And.intro hs (And.intro hlo hsz))
  have hlen : (laidW ws).length ≤ 65536 := by rw [laidW_length]; omega
  generalize hU0 : laidW ws = U0 at hlen
  clear h hE h2 hn hlo hsz
  generalize hP : (fun (e : Ending) (w' : World) => e = .returned (.bool true) ∧ Below w.heap.size w w') = Post
  have HPost := Aside0.mk hP
  clear hP
  go_enter Tryd.func4, Tryd.ntmps4
  go_wp2_with first
    | (go_at_call 9; refine HN.out.mono ?_; rintro e w1 ⟨g, t, rfl, hT⟩; have HT := Aside0.mk hT; have H1 := Aside0.mk (Mv.start w s (by have := hT.below; simpa using this)); clear hT)
    | (go_at_call 10; refine (HG.out _ H1.out.below).mono ?_; rintro e w2 ⟨rfl, hb⟩; have H2 := Aside0.mk (H1.out.step hb); have hs12 := hb.size; clear hb)
    | (go_at_call 17; refine (HL.out w2 H2.out.below).mono ?_; rintro e w3 ⟨rfl, hA, hb⟩; rw [hU0] at hA; have HA3 := Aside0.mk hA; have H3 := Aside0.mk (H2.out.step hb); have hs23 := hb.size; have hlt3 := hA.lta; have z0 := (blk_cell H3.out.sb 0).trans rfl; have z1 := (blk_cell H3.out.sb 1).trans rfl; have z2 := (blk_cell H3.out.sb 2).trans rfl; clear hb hA)
  have hta := HT.out.all HNb.out HOk.out
  have HFF := Aside0.mk (fun (U : List Int) (o : St) (hl : U.length ≤ 65536) => frames_fine (s := o) hta.pos hl)
  go_at_call 18
  refine (Frames_calls _ _ U0 g t s w3 HA3.out (H3.out.base HT.out.tab hs12).now hta.fine hta.pos hs).mono ?_
  rintro e w4 ⟨A1, c1, rfl, hC1, hc1, hb, _⟩
  have HC1 := Aside0.mk hC1
  have H4 := Aside0.mk (H3.out.step hb)
  have HA4 := Aside0.mk (HA3.out.below hb)
  have h43 := hb.size
  clear hC1 hb z0 z1 z2
  go_wp2_with fail
  go_at_call 19
  refine (All_calls _ _ U0 g t A1 c1 _ w4 HA4.out (H4.out.base HT.out.tab hs12).now hta.fine HC1.out hc1 (HFF.out U0 s hlen).1 (HFF.out U0 s hlen).2).mono ?_
  rintro e w5 ⟨A2, c2, rfl, hC2, hc2, hb⟩
  have HC2 := Aside0.mk hC2
  have HC1' := Aside0.mk (Kd.C_below HC1.out hb)
  have H5 := Aside0.mk (H4.out.step hb)
  have HA5 := Aside0.mk (HA4.out.below hb)
  have h54 := hb.size
  clear hC2 hb HC1 H4 HA4
  have z0 := (blk_cell H5.out.sb 0).trans rfl
  have z1 := (blk_cell H5.out.sb 1).trans rfl
  go_wp2_with fail
  go_at_call 20
  refine (RowF_calls _ _ U0 s.lo s.size w5 HA5.out hs.1 hs.2.1).mono ?_
  rintro e w6 ⟨A3, c3, rfl, hC3, hc3, hb, hfr⟩
  have HC3 := Aside0.mk hC3
  have HF3 := Aside0.mk hfr
  have HC1 := Aside0.mk (Kd.C_below HC1'.out hb)
  have HC2' := Aside0.mk (Kd.C_below HC2.out hb)
  have H6 := Aside0.mk (H5.out.step hb)
  have HA6 := Aside0.mk (HA5.out.below hb)
  have h65 := hb.size
  clear hC3 hb hfr HC1' HC2 H5 HA5 z0 z1
  have z0 := (blk_cell H6.out.sb 0).trans rfl
  have z1 := (blk_cell H6.out.sb 1).trans rfl
  have z2 := (blk_cell H6.out.sb 2).trans rfl
  go_wp2_with fail
  go_at_call 21
  refine (To_mv HT.out HNb.out HOk.out H6.out HA6.out hs12 s hs lo size HI.out.2.1 HI.out.2.2).mono ?_
  rintro e w7 ⟨rfl, hA, hg⟩
  have HA7 := Aside0.mk hA
  have H7 := Aside0.mk (H6.out.grow hs12 hg)
  have HC1' := Aside0.mk (C_far_Fm HA6.out HC1.out hg)
  have HC2 := Aside0.mk (C_far_Vls HA6.out HC2'.out hg)
  have HC3' := Aside0.mk (C_moveW HC3.out hg (fun ad had => by have := HF3.out ad had; omega))
  clear hA hg HC1 HC2' HC3 H6 HA6 z0 z1 z2
  by_cases e1 : toE U0 t s lo size = 0
  rotate_left
  · have e2 : toS U0 t s lo size = zSt := if_neg e1
    rw [e2]
    have H7b := Aside0.mk (H7.out.step (below_alloc (Below.refl w7.heap.size _) (.cells #[.int .i64 zSt.lo, .int .i64 zSt.size, .int .i64 zSt.sp] 44)))
    generalize toE U0 t s lo size = x1 at *
    have e1' : (x1 != 0) = true := (by simpa using e1)
    clear e1 e2
    unfold zSt at H7b ⊢
    go_wp2_with (go_at_call 16; refine (HAw.out _).mono ?_; rintro e w8 ⟨rfl, hb⟩; have H8 := Aside0.mk (H7b.out.step hb); clear hb)
    rw [← HPost.out]
    exact ⟨rfl, H8.out.below⟩
  have hsm : 0 ≤ s.lo ∧ s.lo ≤ 65536 ∧ 0 ≤ s.size ∧ s.size ≤ 65536 := by
    obtain ⟨l0, m1, _⟩ := moves_of hta hlen e1
    have := m1.nums
    omega
  obtain ⟨m, hK⟩ := keeps_law hta hlen e1
  have ho1 := toS_wf hlen e1 hta
  have hlenU : (toWs U0 t s lo size).length ≤ 65536 := by rw [toWs_length hta hlen e1]; exact hlen
  rw [e1]
  have hb7 := below_alloc (Below.refl w7.heap.size w7) (.cells #[.int .i64 (toS U0 t s lo size).lo, .int .i64 (toS U0 t s lo size).size, .int .i64 (toS U0 t s lo size).sp] 44)
  have HN7 := Aside0.mk (heap_alloc_new w7 (.cells #[.int .i64 (toS U0 t s lo size).lo, .int .i64 (toS U0 t s lo size).size, .int .i64 (toS U0 t s lo size).sp] 44))
  have HKp := Aside0.mk hK
  clear e1 hK
  generalize toS U0 t s lo size = o1 at *
  generalize toWs U0 t s lo size = U1 at *
  have HW := Aside0.mk (KpW.mk (H7.out.step hb7) (HA7.out.below hb7) HN7.out)
  have HC1 := Aside0.mk (Kd.C_below HC1'.out hb7)
  have HC2' := Aside0.mk (Kd.C_below HC2.out hb7)
  have HC3 := Aside0.mk (Kd.C_below HC3'.out hb7)
  clear hb7 H7 HA7 HN7 HC1' HC2 HC3'
  go_wp2_with fail
  go_at_call 18
  refine (Frames_calls _ _ U1 g t o1 _ HW.out.one (HW.out.mv.base HT.out.tab hs12).now hta.fine hta.pos ho1).mono ?_
  rw [HKp.out.fl, HKp.out.fe]
  rintro e w8 ⟨A4, c4, rfl, hC4, hc4, hb, _⟩
  have HC4 := Aside0.mk hC4
  have HW8 := Aside0.mk (HW.out.step hb)
  have HC1' := Aside0.mk (Kd.C_below HC1.out hb)
  have HC2 := Aside0.mk (Kd.C_below HC2'.out hb)
  have HC3' := Aside0.mk (Kd.C_below HC3.out hb)
  clear hC4 hb HW HC1 HC2' HC3
  go_wp2_with fail
  have hmm := HFF.out U1 o1 hlenU
  rw [HKp.out.fl] at hmm
  go_at_call 19
  refine (All_calls _ _ U1 g t A4 c4 m w8 HW8.out.one (HW8.out.mv.base HT.out.tab hs12).now hta.fine HC4.out hc4 hmm.1 hmm.2).mono ?_
  rw [HKp.out.ae, HKp.out.av]
  rintro e w9 ⟨A5, c5, rfl, hC5, hc5, hb⟩
  have HC5 := Aside0.mk hC5
  have HW9 := Aside0.mk (HW8.out.step hb)
  have HC1 := Aside0.mk (Kd.C_below HC1'.out hb)
  have HC2' := Aside0.mk (Kd.C_below HC2.out hb)
  have HC3 := Aside0.mk (Kd.C_below HC3'.out hb)
  have HC4' := Aside0.mk (Kd.C_below HC4.out hb)
  clear hC5 hb HW8 HC1' HC2 HC3' HC4
  have z0 := (blk_cell HW9.out.mv.sb 0).trans rfl
  have z1 := (blk_cell HW9.out.mv.sb 1).trans rfl
  go_wp2_with fail
  go_at_call 20
  refine (Row_calls _ _ U1 s.lo s.size w9 HW9.out.one hs.1 hs.2.1).mono ?_
  rw [HKp.out.row]
  rintro e wb ⟨A6, c6, rfl, hC6, hc6, hb⟩
  have HC6 := Aside0.mk hC6
  have HWb := Aside0.mk (HW9.out.step hb)
  have HC1' := Aside0.mk (Kd.C_below HC1.out hb)
  have HC2 := Aside0.mk (Kd.C_below HC2'.out hb)
  have HC3' := Aside0.mk (Kd.C_below HC3.out hb)
  have HC4 := Aside0.mk (Kd.C_below HC4'.out hb)
  have HC5' := Aside0.mk (Kd.C_below HC5.out hb)
  clear hC6 hb HW9 HC1 HC2' HC3 HC4' HC5 z0 z1
  have hle : (framesL U0 t s).length = m.length := HKp.out.le.symm
  obtain ⟨u, hu2⟩ : ∃ u, usedS s = u := ⟨_, rfl⟩
  have hu1 : usedS o1 = u := HKp.out.used.trans hu2
  rw [hle] at hc1 HC1' ⊢
  generalize hL0 : framesL U0 t s = L0 at *
  generalize allV U0 t L0 = V0 at *
  generalize rowL U0 s.lo s.size = R0 at *
  generalize rowE U1 s.lo s.size = re1 at *
  generalize rowE U0 s.lo s.size = re0 at *
  generalize framesE U0 t s = fe0 at *
  generalize allE U0 t L0 = ae0 at *
  have hmI : (m.length : Int) ≤ 9223372036854775807 := by have := hmm.2; omega
  go_wp2_with fail
  go_region_held3 (fun W => W.cell? ⟨w.heap.size, 0, none⟩ = some (.int .i64 s.lo) ∧ W.cell? ⟨w.heap.size, 1, none⟩ = some (.int .i64 s.size) ∧ W.cell? ⟨w.heap.size, 2, none⟩ = some (.int .i64 s.sp) ∧ W.cell? ⟨w7.heap.size, 0, none⟩ = some (.int .i64 o1.lo) ∧ W.cell? ⟨w7.heap.size, 1, none⟩ = some (.int .i64 o1.size) ∧ W.cell? ⟨w7.heap.size, 2, none⟩ = some (.int .i64 o1.sp) ∧ Aside0 (KpW w s w1 (w2.heap.size + 1) w2.heap.size U1 w7.heap.size o1 W ∧ Below wb.heap.size wb W))
    (first | (have hbd := below_drew (Below.refl wb.heap.size wb); have hd := HWb.out.step hbd; refine ⟨(blk_cell hd.mv.sb 0).trans rfl, (blk_cell hd.mv.sb 1).trans rfl, (blk_cell hd.mv.sb 2).trans rfl, (blk_cell hd.nb 0).trans rfl, (blk_cell hd.nb 1).trans rfl, (blk_cell hd.nb 2).trans rfl, ⟨hd, hbd⟩⟩) | (refine ⟨?_, ?_, ?_, ?_, ?_, ?_, ?_⟩ <;> assumption))
    (first
      | (go_at_call 24; have hS : _ ∧ _ ∧ _ ∧ _ ∧ _ ∧ _ ∧ Aside0 (KpW w s w1 _ _ _ _ _ _ ∧ Below wb.heap.size wb _) := (by assumption); refine (Used_calls _ _).mono ?_; (first | rw [hu1] | rw [hu2]); rintro e w11 ⟨rfl, hb⟩; have q3 := Aside0.mk (And.intro (hS.2.2.2.2.2.2.out.1.step hb) (below_then hS.2.2.2.2.2.2.out.2 hS.2.2.2.2.2.2.out.2.size hb)); have q0 := (blk_cell q3.out.1.mv.sb 0).trans rfl; have q1 := (blk_cell q3.out.1.mv.sb 1).trans rfl; have q2 := (blk_cell q3.out.1.mv.sb 2).trans rfl; have q4 := (blk_cell q3.out.1.nb 0).trans rfl; have q5 := (blk_cell q3.out.1.nb 1).trans rfl; have q6 := (blk_cell q3.out.1.nb 2).trans rfl; clear hb hS)
      | (go_at_call 22; have hS : _ ∧ _ ∧ _ ∧ _ ∧ _ ∧ _ ∧ Aside0 (KpW w s w1 _ _ _ _ _ _ ∧ Below wb.heap.size wb _) := (by assumption); refine (SameV_calls _ _ _ _ V0 _ (Kd.C_below HC5'.out hS.2.2.2.2.2.2.out.2) hc5 (Kd.C_below HC2.out hS.2.2.2.2.2.2.out.2) hc2).mono ?_; rintro e w11 ⟨rfl, hb⟩; have q3 := Aside0.mk (And.intro (hS.2.2.2.2.2.2.out.1.step hb) (below_then hS.2.2.2.2.2.2.out.2 hS.2.2.2.2.2.2.out.2.size hb)); have q0 := (blk_cell q3.out.1.mv.sb 0).trans rfl; have q1 := (blk_cell q3.out.1.mv.sb 1).trans rfl; have q2 := (blk_cell q3.out.1.mv.sb 2).trans rfl; have q4 := (blk_cell q3.out.1.nb 0).trans rfl; have q5 := (blk_cell q3.out.1.nb 1).trans rfl; have q6 := (blk_cell q3.out.1.nb 2).trans rfl; clear hb hS)
      | (go_at_call 23; have hS : _ ∧ _ ∧ _ ∧ _ ∧ _ ∧ _ ∧ Aside0 (KpW w s w1 _ _ _ _ _ _ ∧ Below wb.heap.size wb _) := (by assumption); refine (SameW_calls _ _ _ _ R0 R0 _ (Kd.C_below HC6.out hS.2.2.2.2.2.2.out.2) hc6 (Kd.C_below HC3'.out hS.2.2.2.2.2.2.out.2) hc3).mono ?_; rw [decide_eq_true (rfl : R0 = R0)]; rintro e w11 ⟨rfl, hb⟩; have q3 := Aside0.mk (And.intro (hS.2.2.2.2.2.2.out.1.step hb) (below_then hS.2.2.2.2.2.2.out.2 hS.2.2.2.2.2.2.out.2.size hb)); have q0 := (blk_cell q3.out.1.mv.sb 0).trans rfl; have q1 := (blk_cell q3.out.1.mv.sb 1).trans rfl; have q2 := (blk_cell q3.out.1.mv.sb 2).trans rfl; have q4 := (blk_cell q3.out.1.nb 0).trans rfl; have q5 := (blk_cell q3.out.1.nb 1).trans rfl; have q6 := (blk_cell q3.out.1.nb 2).trans rfl; clear hb hS))
  have HQ := Aside0.mk q3.out.1
  have HCl := Aside0.mk (Kd.C_below HC1'.out q3.out.2)
  have HCm := Aside0.mk (Kd.C_below HC4.out q3.out.2)
  have HFn := Aside0.mk (fun (d : Nat) (hd : d < m.length) => (HKp.out.fn d hd).trans (by rw [hL0]))
  clear q0 q1 q2 q4 q5 q6 hU0 hlen
  go_wp2_with fail
  go_loopw [28] (fun i wr => ∃ k : Nat, k ≤ m.length ∧ i = .int .i64 k ∧ Aside0 (Below w11.heap.size w11 wr)) (fun i _ => m.length - (intOf i).toNat)
  case atStart => exact ⟨0, Nat.zero_le _, rfl, ⟨Below.refl _ _⟩⟩
  case round =>
    obtain ⟨k, hk, rfl, HB⟩ := hrel
    by_cases hlt : k < m.length
    · obtain ⟨ad, rfl, x0, x1, x2⟩ := at_Fm (Kd.C_below HCm.out HB.out) (k : Int) (by omega) (by omega)
      obtain ⟨ad2, rfl, y0, y1, y2⟩ := at_Fm (Kd.C_below HCl.out HB.out) (k : Int) (by omega) (by omega)
      have hfn := HFn.out k hlt
      have hli := HKp.out.link k hlt
      have hat2 := HKp.out.at_ k hlt
      have HPt := Aside0.mk (HKp.out.ptr k hlt)
      rw [← hfn] at y1
      simp only [Int.toNat_natCast] at x0 x1 x2 y1
      obtain ⟨x, hx⟩ : ∃ x, fm m k = x := ⟨_, rfl⟩
      rw [hx] at x0 x1 x2 y1 hli hat2 HPt
      have HX := Aside0.mk hx
      clear hx hfn y0 y2
      have hlb : x.link ≤ 65536 := by have := hat2.2.2; omega
      have hwl : 0 ≤ x.link → IntKind.u64.wrap x.link = x.link := by
        intro h0
        rw [IntKind.wrap_u64]
        omega
      have HKr := Aside0.mk (HQ.out.step HB.out)
      by_cases hl0 : 0 ≤ x.link
      case' pos =>
        have hno := hli hl0
        have hwl' := hwl hl0
        have hUl : U64 x.link := ⟨hl0, by omega⟩
        have hg : decide (0 ≤ x.link) = true := decide_eq_true hl0
        clear hli hwl hl0
        go_wp2_with fail
        go_region_held3 (fun W => W.cell? ⟨w.heap.size, 0, none⟩ = some (.int .i64 s.lo) ∧ W.cell? ⟨w.heap.size, 1, none⟩ = some (.int .i64 s.size) ∧ W.cell? ⟨w.heap.size, 2, none⟩ = some (.int .i64 s.sp) ∧ W.cell? ⟨(ad.add (k * 3)).block, (ad.add (k * 3)).off + 1, none⟩ = some (.int .i64 x.fn) ∧ W.cell? ⟨(ad.add (k * 3)).block, (ad.add (k * 3)).off + 2, none⟩ = some (.int .i64 x.link) ∧ W.cell? ⟨(ad2.add (k * 3)).block, (ad2.add (k * 3)).off + 1, none⟩ = some (.int .i64 x.fn) ∧ Aside0 (Below wr.heap.size wr W))
          (first | (have hbd := below_drew (Below.refl wr.heap.size wr); have hd := HKr.out.step hbd; refine ⟨(blk_cell hd.mv.sb 0).trans rfl, (blk_cell hd.mv.sb 1).trans rfl, (blk_cell hd.mv.sb 2).trans rfl, pw_cell_below hbd x1, pw_cell_below hbd x2, pw_cell_below hbd y1, ⟨hbd⟩⟩) | (refine ⟨?_, ?_, ?_, ?_, ?_, ?_, ?_⟩ <;> assumption))
          (first
            | (go_at_call 25; have hS : _ ∧ _ ∧ _ ∧ _ ∧ _ ∧ _ ∧ Aside0 (Below wr.heap.size wr _) := (by assumption); try rw [hwl']
               refine (inside_calls s x.link _ hsm hUl hno).mono ?_; rintro e w12 ⟨rfl, hb⟩; have HBz := Aside0.mk (below_then hS.2.2.2.2.2.2.out hS.2.2.2.2.2.2.out.size hb); have q0 := pw_cell_below hb hS.1; have q1 := pw_cell_below hb hS.2.1; have q2 := pw_cell_below hb hS.2.2.1; have q3 := pw_cell_below hb hS.2.2.2.1; have q4 := pw_cell_below hb hS.2.2.2.2.1; have q5 := pw_cell_below hb hS.2.2.2.2.2.1; clear hb hS))
      case' neg =>
        have hg : decide (0 ≤ x.link) = false := decide_eq_false hl0
        clear hli hwl
        have z0 := (blk_cell HKr.out.mv.sb 0).trans rfl
        go_wp2_with fail
        first | go_region | go_quiet (fail)
        have HBz := Aside0.mk (below_drew (Below.refl wr.heap.size wr))
      all_goals (
        have HB2 := Aside0.mk (below_then HB.out HB.out.size HBz.out)
        have HK2 := Aside0.mk (HQ.out.step HB2.out)
        have x1' := pw_cell_below HBz.out x1
        go_wp2_with fail
        go_at_call 26
        refine (ptrs_calls g t x.fn _ (HK2.out.mv.base HT.out.tab hs12).now (hta.fine.ptrs x.fn)).mono ?_
        rintro e wp ⟨A7, c7, rfl, hC7, hc7, hb⟩
        have HC7 := Aside0.mk hC7
        have HBp := Aside0.mk (below_then HB2.out HB2.out.size hb)
        have hpl : ((tPtrs t x.fn).length : Int) ≤ 1048576 := by have := hta.fine.ptrs x.fn; omega
        clear hC7 hb x0 x1 x2 y1 x1'
        go_wp2_with fail
        go_loopw [30] (fun i wq => ∃ q : Nat, q ≤ (tPtrs t x.fn).length ∧ i = .int .i64 q ∧ Aside0 (Below wp.heap.size wp wq)) (fun i _ => (tPtrs t x.fn).length - (intOf i).toNat)
        case atStart => exact ⟨0, Nat.zero_le _, rfl, ⟨Below.refl _ _⟩⟩
        case round =>
          obtain ⟨q, hq, rfl, HBq⟩ := hrel
          have HBw := Aside0.mk (below_then HBp.out HBp.out.size HBq.out)
          by_cases hqt : q < (tPtrs t x.fn).length
          · obtain ⟨ad3, rfl, v0⟩ := Kd.at_int (Kd.C_below HC7.out HBq.out) (q : Int) (by omega) (by omega)
            simp only [Int.toNat_natCast] at v0
            have hpi := rd_mem (l := tPtrs t x.fn) (i := (q : Int)) (by omega) (by omega)
            have hmem := (hta.ptr.mem x.fn _).1 hpi
            have hv := HPt.out _ hpi
            have HKq := Aside0.mk (HQ.out.step HBw.out)
            obtain ⟨ad4, he4, p0, p1, p2⟩ := at_Fm (Kd.C_below HCm.out HBw.out) (k : Int) (by omega) (by omega)
            injection he4 with he4
            rw [← he4] at p0 p1 p2
            rw [HX.out] at p0 p1 p2
            simp only [Int.toNat_natCast] at p0 p1 p2
            clear he4
            generalize rd (tPtrs t x.fn) q = i at *
            obtain ⟨i0, i1, i2⟩ := hmem
            have hsz1 := (hta.fine.size x.fn).2
            have eV : aLoadV U1 (x.at_ + 2 + i) = rd U1 (x.at_ + 2 + i) := if_pos (by omega)
            have eE : aLoadE U1 (x.at_ + 2 + i) = 0 := if_pos (by omega)
            have HSl := Aside0.mk (fun (W : World) => Slot17_calls x i W (by omega) (by omega))
            have HLd := Aside0.mk (fun (W : World) (hA : IsArena W (w2.heap.size + 1) w2.heap.size U1) => ALoad_calls _ _ U1 (x.at_ + 2 + i) W hA (by unfold I64; omega))
            rw [eV, eE] at HLd
            have hvu : U64 (rd U1 (x.at_ + 2 + i)) := HQ.out.one.all _ (rd_mem (by omega) (by omega))
            clear eV eE hpi
            generalize rd U1 (x.at_ + 2 + i) = v at *
            go_wp2_with fail
            go_region_held3 (fun W => W.cell? (ad.add (k * 3)) = some (.int .i64 x.at_) ∧ W.cell? ⟨(ad.add (k * 3)).block, (ad.add (k * 3)).off + 1, none⟩ = some (.int .i64 x.fn) ∧ W.cell? ⟨(ad.add (k * 3)).block, (ad.add (k * 3)).off + 2, none⟩ = some (.int .i64 x.link) ∧ W.cell? (ad3.add q) = some (.int .i64 i) ∧ Aside0 (Below wr.heap.size wr W))
              (first | (have hbd := below_drew (Below.refl wr.heap.size wr); refine ⟨pw_cell_below hbd p0, pw_cell_below hbd p1, pw_cell_below hbd p2, pw_cell_below hbd v0, ⟨hbd⟩⟩) | (refine ⟨?_, ?_, ?_, ?_, ?_⟩ <;> assumption))
              (first
                | (go_at_call 28; have hS : _ ∧ _ ∧ _ ∧ _ ∧ Aside0 (Below wr.heap.size wr _) := (by assumption); refine (HSl.out _).mono ?_; rintro e w13 ⟨rfl, hb⟩; have HBl := Aside0.mk (below_then hS.2.2.2.2.out hS.2.2.2.2.out.size hb); have r0 := pw_cell_below hb hS.1; have r1 := pw_cell_below hb hS.2.1; have r2 := pw_cell_below hb hS.2.2.1; have r3 := pw_cell_below hb hS.2.2.2.1; clear hb hS)
                | (go_at_call 27; have hS : _ ∧ _ ∧ _ ∧ _ ∧ Aside0 (Below wr.heap.size wr _) := (by assumption); refine (HLd.out _ (HKq.out.step hS.2.2.2.2.out).one).mono ?_; rintro e w14 ⟨rfl, hb⟩; have HBl := Aside0.mk (below_then hS.2.2.2.2.out hS.2.2.2.2.out.size hb); have r0 := pw_cell_below hb hS.1; have r1 := pw_cell_below hb hS.2.1; have r2 := pw_cell_below hb hS.2.2.1; have r3 := pw_cell_below hb hS.2.2.2.1; clear hb hS))
            have HKl := Aside0.mk (HKq.out.step HBl.out)
            have HBv := Aside0.mk (below_then HBq.out HBq.out.size HBl.out)
            by_cases hv0 : v = 0
            · have hg2 : (v != 0) = false := by simpa using hv0
              clear hv hvu
              go_wp2_with fail
              go_roundw
              case rel => exact ⟨q + 1, by omega, by go_num, HBv⟩
              case measure => simp [intOf]; omega
            · have hg2 : (v != 0) = true := by simpa using hv0
              have HIn := Aside0.mk (fun (W : World) => inside_calls s v W hsm hvu (hv hv0))
              have z0 := (blk_cell HKl.out.mv.sb 0).trans rfl
              have z1 := (blk_cell HKl.out.mv.sb 1).trans rfl
              have z2 := (blk_cell HKl.out.mv.sb 2).trans rfl
              go_wp2_with (go_at_call 25; refine (HIn.out _).mono ?_; rintro e w15 ⟨rfl, hb⟩; have HBi := Aside0.mk (below_then HBv.out HBv.out.size hb); clear hb)
              go_roundw
              case rel => exact ⟨q + 1, by omega, by go_num, HBi⟩
              case measure => simp [intOf]; omega
          · go_wp2_with fail
            go_roundw
            case rel => exact ⟨k + 1, by omega, by go_num, HBw⟩
            case measure => simp [intOf]; omega)
    · have HM := Aside0.mk (HQ.out.mv.step HB.out)
      go_wp2_with (go_at_call 16; refine (HAw.out _).mono ?_; rintro e w16 ⟨rfl, hb⟩; have HM2 := Aside0.mk (HM.out.step hb); clear hb)
      rw [← HPost.out]
      exact ⟨rfl, HM2.out.below⟩
theorem keeps_calls (A : Option Addr) (c : Nat) (ws : List Int) (B : Option Addr) (e : Nat) (fn : List Fn0) (s : St) (lo size : Int) (w : World) (h : MvIn w A c ws B e fn) (hs : s.wf) (hlo : I64 lo) (hsz : I64 size) :
    Calls Tryd.prog 4 #[.slice A ws.length c, .slice B fn.length e, .agg #[.int .i64 s.lo, .int .i64 s.size, .int .i64 s.sp], .int .i64 lo, .int .i64 size] w fun e w' => e = .returned (.bool true) ∧ Below w.heap.size w w' := by
  by_cases hE : mvB ws fn = true
  · exact keeps_walk A c ws B e fn s lo size w h hE hs hlo hsz
  · exact keeps_early A c ws B e fn s lo size w h (by simpa using hE)
end Go.Proofs.YtfaghjadjpiaiaaDoor.Sh
