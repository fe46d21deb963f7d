/- Contract of slots.Get. Contract of slots.All. Contracts of move's mover.raise, mover.frame. Contract of move's mover.frame. Words for move.To: what it throws, catches, answers. -/
import Derived.Test.YtfaghjadjpiaiaaDoorY6
namespace Go.Proofs.YtfaghjadjpiaiaaDoor.Sh
open Go.RowKit Go.Shelf Go.Proofs.YtfaghjadjpiaiaaDoorW.PrintWords Go.Proofs.YtfaghjadjpiaiaaDoorW.PrintLast Go.Proofs.YtfaghjadjpiaiaaDoorW.PrintMore
set_option linter.unusedVariables false
set_option linter.unusedSimpArgs false
/-- The word that stands in a slot. -/
def slotW (ws : List Int) (t : List Ent) (l : List Fm) (d s : Int) : Int := aLoadV ws (addrA t l d s)
def slotB (ws : List Int) (t : List Ent) (l : List Fm) (d s : Int) : Bool := addrB t l d s && (aLoadE ws (addrA t l d s) == 0)
def sGetE (ws : List Int) (t : List Ent) (l : List Fm) (d s : Int) : Int :=
  if slotB ws t l d s = false then 2 else if tPtr t (fm l d).fn s = false then 0 else if slotW ws t l d s = 0 then 0 else if slotW ws t l d s > 4611686018427387904 then 9 else
  match findL t (slotW ws t l d s) 0 l with
  | none => 9
  | some (k, i) => if d < (k : Int) then 9 else 0
def sGetV (ws : List Int) (t : List Ent) (l : List Fm) (d s : Int) : Vl :=
  if slotB ws t l d s = false then zVl else if tPtr t (fm l d).fn s = false then ⟨1, slotW ws t l d s, 0, 0⟩ else if slotW ws t l d s = 0 then zVl else if slotW ws t l d s > 4611686018427387904 then zVl else
  match findL t (slotW ws t l d s) 0 l with
  | none => zVl
  | some (k, i) => if d < (k : Int) then zVl else ⟨2, 0, k, i⟩
def SGetPost (v : Vl) (er : Int) (w : World) (e : Ending) (w' : World) : Prop := e = .returned (.tuple #[.agg #[.int .u8 v.k, .int .u64 v.b, .int .i64 v.d, .int .i64 v.s], .int .i64 er]) ∧ Below w.heap.size w w'
theorem get_ends (w W : World) (tmps : Array Value) (v : Vl) (er : Int) (a0 a1 a2 a3 : Value) (hb : Below w.heap.size w W) (hblk : W.heap[w.heap.size]? = some (.cells #[a0, a1, a2, a3] 26 (0, 0)))
    (h6 : tmps.getD 10 undef = .pointer (some ⟨w.heap.size, 0, none⟩)) (h7 : tmps.getD 11 undef = .int .i64 er) :
    ∃ u, (results Tryd.f57 tmps).run Tryd.prog ((((W.setCell ⟨w.heap.size, 0, none⟩ (.int .u8 v.k)).setCell ⟨w.heap.size, 1, none⟩ (.int .u64 v.b)).setCell ⟨w.heap.size, 2, none⟩ (.int .i64 v.d)).setCell ⟨w.heap.size, 3, none⟩ (.int .i64 v.s)) = .ok u ((((W.setCell ⟨w.heap.size, 0, none⟩ (.int .u8 v.k)).setCell ⟨w.heap.size, 1, none⟩ (.int .u64 v.b)).setCell ⟨w.heap.size, 2, none⟩ (.int .i64 v.d)).setCell ⟨w.heap.size, 3, none⟩ (.int .i64 v.s)) ∧
      SGetPost v er w (.returned u) ((((W.setCell ⟨w.heap.size, 0, none⟩ (.int .u8 v.k)).setCell ⟨w.heap.size, 1, none⟩ (.int .u64 v.b)).setCell ⟨w.heap.size, 2, none⟩ (.int .i64 v.d)).setCell ⟨w.heap.size, 3, none⟩ (.int .i64 v.s)) := by
  have h3 := blk_set4 (.int .u8 v.k) (.int .u64 v.b) (.int .i64 v.d) (.int .i64 v.s) hblk
  have hr := results_ct Tryd.results57 tmps _ w.heap.size 26 _ (0, 0) _ h6 h3 Tryd.underlying26 rfl (by kernel_rfl)
  rw [h7] at hr
  exact ⟨_, hr, rfl, below_set4 _ _ _ _ hb (Nat.le_refl _)⟩
set_option maxRecDepth 100000 in
set_option maxHeartbeats 8000000 in
theorem SGet_calls (a b : Nat) (ws : List Int) (g : Nat) (t : List Ent) (A : Option Addr) (c : Nat) (l : List Fm) (d s : Int) (w : World) (h : IsArena w a b ws) (hT : IsTab w g t) (ht : TabFine t) (hr : kFm.C w A l.length l) (hc : l.length ≤ c) (hl : ∀ x ∈ l, FmAt x) (hd : I64 d) (hs : I64 s) :
    Calls Tryd.prog 57 #[.pointer (some ⟨a, 0, none⟩), .pointer (some ⟨g, 0, none⟩), .slice A l.length c, .int .i64 d, .int .i64 s] w (SGetPost (sGetV ws t l d s) (sGetE ws t l d s) w) := by
  have HB := Aside0.mk (BlkW.start w #[.int .u8 0, .int .u64 0, .int .i64 0, .int .i64 0] 26)
  have HAd := Address_calls g t A c l d s _ (hT.below HB.out.below) ht (Kd.C_below hr HB.out.below) hc hl hd hs
  have hsz := ht.size (fm l d).fn
  have hab : -1 ≤ addrA t l d s ∧ addrA t l d s ≤ 70000 := by
    unfold addrA
    split
    · rename_i hh
      obtain ⟨g0, g1, g2, g3⟩ := addrB_iff.1 hh
      have := hl _ (fm_mem g0 g1)
      obtain ⟨y0, y1⟩ := this
      omega
    · omega
  have HLo := Aside0.mk (fun (W : World) (hb : Below w.heap.size w W) => ALoad_calls a b ws (addrA t l d s) W (h.below hb) (by constructor <;> omega))
  have HPt := Aside0.mk (fun (W : World) (hb : Below w.heap.size w W) => ptr_calls g t (fm l d).fn s W (hT.below hb) ht.all hs)
  have HFi := Aside0.mk (fun (W : World) (hb : Below w.heap.size w W) (x : Int) (hx : 0 ≤ x ∧ x ≤ 4611686018427387904) => Find_calls g t A c l x W (hT.below hb) ht (Kd.C_below hr hb) hc hl hx)
  have HRo := Aside0.mk hr
  have hlm : (l.length : Int) ≤ 9223372036854775807 := by have := hr.2.1; omega
  have hWu : U64 (slotW ws t l d s) := by
    unfold slotW aLoadV
    split
    · exact h.all _ (rd_mem (by omega) (by omega))
    · exact ⟨by decide, by decide⟩
  unfold U64 at hWu
  unfold I64 at hd hs
  have hgE : sGetE ws t l d s = sGetE ws t l d s := rfl
  by_cases c1 : addrB t l d s = true
  rotate_left
  · have hsb : slotB ws t l d s = false := by unfold slotB; simp [c1]
    rw [show sGetE ws t l d s = 2 from if_pos hsb, show sGetV ws t l d s = zVl from if_pos hsb]
    rw [show addrE t l d s = 2 from if_neg c1] at HAd
    have HAd := Aside0.mk HAd
    clear h hT ht hr hc hl hsb c1 hgE
    go_enter Tryd.func57, Tryd.ntmps57
    go_wp2_with first
      | (go_at_call 112; refine HAd.out.mono ?_; rintro e w1 ⟨rfl, hb⟩; have HB1 := Aside0.mk (HB.out.step hb); have z0 := (blk_cell HB1.out.blk 0).trans rfl; have z1 := (blk_cell HB1.out.blk 1).trans rfl; have z2 := (blk_cell HB1.out.blk 2).trans rfl; have z3 := (blk_cell HB1.out.blk 3).trans rfl; have y0 := blk_frozen HB1.out.blk 0; have y1 := blk_frozen HB1.out.blk 1; have y2 := blk_frozen HB1.out.blk 2; have y3 := blk_frozen HB1.out.blk 3; clear hb)
    exact ⟨rfl, get_ends w w1 _ zVl 2 _ _ _ _ HB1.out.below HB1.out.blk rfl rfl⟩
  rw [show addrE t l d s = 0 from if_pos c1] at HAd
  have HAd := Aside0.mk HAd
  obtain ⟨o0, o1, o2, o3⟩ := addrB_iff.1 c1
  by_cases c2 : aLoadE ws (addrA t l d s) = 0
  rotate_left
  · have hsb : slotB ws t l d s = false := by unfold slotB; simp [c2]
    rw [show sGetE ws t l d s = 2 from if_pos hsb, show sGetV ws t l d s = zVl from if_pos hsb]
    have hl2 : aLoadE ws (addrA t l d s) = 2 := by
      unfold aLoadE at c2 ⊢
      split at c2
      · exact absurd rfl c2
      · rename_i hh; exact if_neg hh
    rw [hl2] at HLo
    generalize addrA t l d s = AA at *
    clear h hT ht hr hc hl hsb c1 c2 hgE hl2 hWu
    go_enter Tryd.func57, Tryd.ntmps57
    go_wp2_with first
      | (go_at_call 112; refine HAd.out.mono ?_; rintro e w1 ⟨rfl, hb⟩; have HB1 := Aside0.mk (HB.out.step hb); clear hb)
      | (go_at_call 27; refine (HLo.out _ HB1.out.below).mono ?_; rintro e w2 ⟨rfl, hb⟩; have HB2 := Aside0.mk (HB1.out.step hb); have z0 := (blk_cell HB2.out.blk 0).trans rfl; have z1 := (blk_cell HB2.out.blk 1).trans rfl; have z2 := (blk_cell HB2.out.blk 2).trans rfl; have z3 := (blk_cell HB2.out.blk 3).trans rfl; have y0 := blk_frozen HB2.out.blk 0; have y1 := blk_frozen HB2.out.blk 1; have y2 := blk_frozen HB2.out.blk 2; have y3 := blk_frozen HB2.out.blk 3; clear hb)
    exact ⟨rfl, get_ends w w2 _ zVl 2 _ _ _ _ HB2.out.below HB2.out.blk rfl rfl⟩
  have hsb : ¬ slotB ws t l d s = false := by unfold slotB; simp [c1, c2]
  rw [c2] at HLo
  have hW : aLoadV ws (addrA t l d s) = slotW ws t l d s := rfl
  rw [hW] at HLo
  unfold sGetE sGetV
  rw [if_neg hsb, if_neg hsb]
  generalize slotW ws t l d s = W at *
  generalize addrA t l d s = AA at *
  clear h hT ht hr hc hl hsb c1 c2 hgE hW
  by_cases c3 : tPtr t (fm l d).fn s = true
  rotate_left
  · have c3' : tPtr t (fm l d).fn s = false := by simpa using c3
    rw [if_pos c3', if_pos c3']
    rw [c3'] at HPt
    clear c3 c3' 
    go_enter Tryd.func57, Tryd.ntmps57
    go_wp2_with first
      | (go_at_call 112; refine HAd.out.mono ?_; rintro e w1 ⟨rfl, hb⟩; have HB1 := Aside0.mk (HB.out.step hb); clear hb)
      | (go_at_call 27; refine (HLo.out _ HB1.out.below).mono ?_; rintro e w2 ⟨rfl, hb⟩; have HB2 := Aside0.mk (HB1.out.step hb); obtain ⟨ad, had, k0, k1, k2⟩ := at_Fm (Kd.C_below HRo.out HB2.out.below) d (by omega) (by omega); subst had; clear k0 k2; clear hb)
      | (go_at_call 89; refine (HPt.out _ HB2.out.below).mono ?_; rintro e w3 ⟨rfl, hb⟩; have HB3 := Aside0.mk (HB2.out.step hb); have z0 := (blk_cell HB3.out.blk 0).trans rfl; have z1 := (blk_cell HB3.out.blk 1).trans rfl; have z2 := (blk_cell HB3.out.blk 2).trans rfl; have z3 := (blk_cell HB3.out.blk 3).trans rfl; have y0 := blk_frozen HB3.out.blk 0; have y1 := blk_frozen HB3.out.blk 1; have y2 := blk_frozen HB3.out.blk 2; have y3 := blk_frozen HB3.out.blk 3; clear hb)
    exact ⟨rfl, get_ends w w3 _ ⟨1, W, 0, 0⟩ 0 _ _ _ _ HB3.out.below HB3.out.blk rfl rfl⟩
  rw [c3] at HPt
  rw [if_neg (show ¬ tPtr t (fm l d).fn s = false by rw [c3]; decide), if_neg (show ¬ tPtr t (fm l d).fn s = false by rw [c3]; decide)]
  clear c3
  by_cases c4 : W = 0
  · rw [if_pos c4, if_pos c4]
    have q4 : (W == 0) = true := beq_iff_eq.2 c4
    clear c4
    go_enter Tryd.func57, Tryd.ntmps57
    go_wp2_with first
      | (go_at_call 112; refine HAd.out.mono ?_; rintro e w1 ⟨rfl, hb⟩; have HB1 := Aside0.mk (HB.out.step hb); clear hb)
      | (go_at_call 27; refine (HLo.out _ HB1.out.below).mono ?_; rintro e w2 ⟨rfl, hb⟩; have HB2 := Aside0.mk (HB1.out.step hb); obtain ⟨ad, had, k0, k1, k2⟩ := at_Fm (Kd.C_below HRo.out HB2.out.below) d (by omega) (by omega); subst had; clear k0 k2; clear hb)
      | (go_at_call 89; refine (HPt.out _ HB2.out.below).mono ?_; rintro e w3 ⟨rfl, hb⟩; have HB3 := Aside0.mk (HB2.out.step hb); have z0 := (blk_cell HB3.out.blk 0).trans rfl; have z1 := (blk_cell HB3.out.blk 1).trans rfl; have z2 := (blk_cell HB3.out.blk 2).trans rfl; have z3 := (blk_cell HB3.out.blk 3).trans rfl; have y0 := blk_frozen HB3.out.blk 0; have y1 := blk_frozen HB3.out.blk 1; have y2 := blk_frozen HB3.out.blk 2; have y3 := blk_frozen HB3.out.blk 3; clear hb)
    exact ⟨rfl, get_ends w w3 _ zVl 0 _ _ _ _ HB3.out.below HB3.out.blk rfl rfl⟩
  rw [if_neg c4, if_neg c4]
  have q4 : (W == 0) = false := beq_eq_false_iff_ne.2 c4
  clear c4
  by_cases c5 : W > 4611686018427387904
  · rw [if_pos c5, if_pos c5]
    go_enter Tryd.func57, Tryd.ntmps57
    go_wp2_with first
      | (go_at_call 112; refine HAd.out.mono ?_; rintro e w1 ⟨rfl, hb⟩; have HB1 := Aside0.mk (HB.out.step hb); clear hb)
      | (go_at_call 27; refine (HLo.out _ HB1.out.below).mono ?_; rintro e w2 ⟨rfl, hb⟩; have HB2 := Aside0.mk (HB1.out.step hb); obtain ⟨ad, had, k0, k1, k2⟩ := at_Fm (Kd.C_below HRo.out HB2.out.below) d (by omega) (by omega); subst had; clear k0 k2; clear hb)
      | (go_at_call 89; refine (HPt.out _ HB2.out.below).mono ?_; rintro e w3 ⟨rfl, hb⟩; have HB3 := Aside0.mk (HB2.out.step hb); have z0 := (blk_cell HB3.out.blk 0).trans rfl; have z1 := (blk_cell HB3.out.blk 1).trans rfl; have z2 := (blk_cell HB3.out.blk 2).trans rfl; have z3 := (blk_cell HB3.out.blk 3).trans rfl; have y0 := blk_frozen HB3.out.blk 0; have y1 := blk_frozen HB3.out.blk 1; have y2 := blk_frozen HB3.out.blk 2; have y3 := blk_frozen HB3.out.blk 3; clear hb)
    exact ⟨rfl, get_ends w w3 _ zVl 9 _ _ _ _ HB3.out.below HB3.out.blk rfl rfl⟩
  rw [if_neg c5, if_neg c5]
  have hWs : W ≤ 4611686018427387904 := by omega
  clear c5
  have HF := HFi.out
  have HF := Aside0.mk (fun (W' : World) (hb : Below w.heap.size w W') => HF W' hb W ⟨hWu.1, hWs⟩)
  clear HFi
  cases hf : findL t W 0 l with
  | none =>
    rw [hf] at HF
    clear hf
    show Calls _ _ _ _ (SGetPost zVl 9 w)
    go_enter Tryd.func57, Tryd.ntmps57
    go_wp2_with first
      | (go_at_call 112; refine HAd.out.mono ?_; rintro e w1 ⟨rfl, hb⟩; have HB1 := Aside0.mk (HB.out.step hb); clear hb)
      | (go_at_call 27; refine (HLo.out _ HB1.out.below).mono ?_; rintro e w2 ⟨rfl, hb⟩; have HB2 := Aside0.mk (HB1.out.step hb); obtain ⟨ad, had, k0, k1, k2⟩ := at_Fm (Kd.C_below HRo.out HB2.out.below) d (by omega) (by omega); subst had; clear k0 k2; clear hb)
      | (go_at_call 89; refine (HPt.out _ HB2.out.below).mono ?_; rintro e w3 ⟨rfl, hb⟩; have HB3 := Aside0.mk (HB2.out.step hb); clear hb)
      | (go_at_call 113; refine (HF.out _ HB3.out.below).mono ?_; rintro e w4 ⟨rfl, hb⟩; have HB4 := Aside0.mk (HB3.out.step hb); have z0 := (blk_cell HB4.out.blk 0).trans rfl; have z1 := (blk_cell HB4.out.blk 1).trans rfl; have z2 := (blk_cell HB4.out.blk 2).trans rfl; have z3 := (blk_cell HB4.out.blk 3).trans rfl; have y0 := blk_frozen HB4.out.blk 0; have y1 := blk_frozen HB4.out.blk 1; have y2 := blk_frozen HB4.out.blk 2; have y3 := blk_frozen HB4.out.blk 3; clear hb)
    exact ⟨rfl, get_ends w w4 _ zVl 9 _ _ _ _ HB4.out.below HB4.out.blk rfl rfl⟩
  | some ki =>
    obtain ⟨k, i⟩ := ki
    rw [hf] at HF
    clear hf
    show Calls _ _ _ _ (SGetPost (if d < (k : Int) then zVl else ⟨2, 0, k, i⟩) (if d < (k : Int) then 9 else 0) w)
    by_cases c6 : d < (k : Int)
    · rw [if_pos c6, if_pos c6]
      go_enter Tryd.func57, Tryd.ntmps57
      go_wp2_with first
        | (go_at_call 112; refine HAd.out.mono ?_; rintro e w1 ⟨rfl, hb⟩; have HB1 := Aside0.mk (HB.out.step hb); clear hb)
        | (go_at_call 27; refine (HLo.out _ HB1.out.below).mono ?_; rintro e w2 ⟨rfl, hb⟩; have HB2 := Aside0.mk (HB1.out.step hb); obtain ⟨ad, had, k0, k1, k2⟩ := at_Fm (Kd.C_below HRo.out HB2.out.below) d (by omega) (by omega); subst had; clear k0 k2; clear hb)
        | (go_at_call 89; refine (HPt.out _ HB2.out.below).mono ?_; rintro e w3 ⟨rfl, hb⟩; have HB3 := Aside0.mk (HB2.out.step hb); clear hb)
        | (go_at_call 113; refine (HF.out _ HB3.out.below).mono ?_; rintro e w4 ⟨rfl, hb⟩; have HB4 := Aside0.mk (HB3.out.step hb); have z0 := (blk_cell HB4.out.blk 0).trans rfl; have z1 := (blk_cell HB4.out.blk 1).trans rfl; have z2 := (blk_cell HB4.out.blk 2).trans rfl; have z3 := (blk_cell HB4.out.blk 3).trans rfl; have y0 := blk_frozen HB4.out.blk 0; have y1 := blk_frozen HB4.out.blk 1; have y2 := blk_frozen HB4.out.blk 2; have y3 := blk_frozen HB4.out.blk 3; clear hb)
      exact ⟨rfl, get_ends w w4 _ zVl 9 _ _ _ _ HB4.out.below HB4.out.blk rfl rfl⟩
    · rw [if_neg c6, if_neg c6]
      go_enter Tryd.func57, Tryd.ntmps57
      go_wp2_with first
        | (go_at_call 112; refine HAd.out.mono ?_; rintro e w1 ⟨rfl, hb⟩; have HB1 := Aside0.mk (HB.out.step hb); clear hb)
        | (go_at_call 27; refine (HLo.out _ HB1.out.below).mono ?_; rintro e w2 ⟨rfl, hb⟩; have HB2 := Aside0.mk (HB1.out.step hb); obtain ⟨ad, had, k0, k1, k2⟩ := at_Fm (Kd.C_below HRo.out HB2.out.below) d (by omega) (by omega); subst had; clear k0 k2; clear hb)
        | (go_at_call 89; refine (HPt.out _ HB2.out.below).mono ?_; rintro e w3 ⟨rfl, hb⟩; have HB3 := Aside0.mk (HB2.out.step hb); clear hb)
        | (go_at_call 113; refine (HF.out _ HB3.out.below).mono ?_; rintro e w4 ⟨rfl, hb⟩; have HB4 := Aside0.mk (HB3.out.step hb); have z0 := (blk_cell HB4.out.blk 0).trans rfl; have z1 := (blk_cell HB4.out.blk 1).trans rfl; have z2 := (blk_cell HB4.out.blk 2).trans rfl; have z3 := (blk_cell HB4.out.blk 3).trans rfl; have y0 := blk_frozen HB4.out.blk 0; have y1 := blk_frozen HB4.out.blk 1; have y2 := blk_frozen HB4.out.blk 2; have y3 := blk_frozen HB4.out.blk 3; clear hb)
      exact ⟨rfl, get_ends w w4 _ ⟨2, 0, k, i⟩ 0 _ _ _ _ HB4.out.below HB4.out.blk rfl rfl⟩
end Go.Proofs.YtfaghjadjpiaiaaDoor.Sh
namespace Go.Proofs.YtfaghjadjpiaiaaDoor.Sh
open Go.RowKit Go.Shelf Go.Proofs.YtfaghjadjpiaiaaDoorW.PrintWords Go.Proofs.YtfaghjadjpiaiaaDoorW.PrintLast Go.Proofs.YtfaghjadjpiaiaaDoorW.PrintMore
set_option linter.unusedVariables false
set_option linter.unusedSimpArgs false
def kVls : Kd (List Vl) := Kd.slice 26 kVl
def slotCt (t : List Ent) (l : List Fm) (d : Int) : Nat := (slotN t (fm l d)).toNat
def slotErrsG (ws : List Int) (t : List Ent) (l : List Fm) (d : Nat) : List Int := (List.range (slotCt t l d)).map fun (i : Nat) => sGetE ws t l d i
def allErrsG (ws : List Int) (t : List Ent) (l : List Fm) (k : Nat) : List Int := ((List.range l.length).drop k).flatMap (slotErrsG ws t l)
def rowG (ws : List Int) (t : List Ent) (l : List Fm) (d : Nat) : List Vl := (List.range (slotCt t l d)).map fun (i : Nat) => sGetV ws t l d i
def rowsG (ws : List Int) (t : List Ent) (l : List Fm) : List (List Vl) := (List.range l.length).map (rowG ws t l)
def allE (ws : List Int) (t : List Ent) (l : List Fm) : Int := firstNZ (allErrsG ws t l 0)
def allV (ws : List Int) (t : List Ent) (l : List Fm) : List (List Vl) := if allE ws t l = 0 then rowsG ws t l else []
theorem allErrsG_step {ws : List Int} {t : List Ent} {l : List Fm} {k : Nat} (h : k < l.length) : allErrsG ws t l k = slotErrsG ws t l k ++ allErrsG ws t l (k + 1) := by
  unfold allErrsG
  rw [List.drop_eq_getElem_cons (by simpa using h), List.flatMap_cons]
  simp
theorem slotErrsG_step {ws : List Int} {t : List Ent} {l : List Fm} {d i : Nat} (h : i < slotCt t l d) : (slotErrsG ws t l d).drop i = sGetE ws t l d i :: (slotErrsG ws t l d).drop (i + 1) := by
  rw [List.drop_eq_getElem_cons (by simpa [slotErrsG] using h)]
  simp [slotErrsG]
theorem rowG_step {ws : List Int} {t : List Ent} {l : List Fm} {d i : Nat} (h : i < slotCt t l d) : (rowG ws t l d).take (i + 1) = (rowG ws t l d).take i ++ [sGetV ws t l d i] :=
  take_get (by simp [rowG, h])
theorem rowsG_step {ws : List Int} {t : List Ent} {l : List Fm} {k : Nat} (h : k < l.length) : (rowsG ws t l).take (k + 1) = (rowsG ws t l).take k ++ [rowG ws t l k] :=
  take_get (by simp [rowsG, h])
theorem info78 : (Tryd.prog.info? 78).map (fun i => (i.zero, i.size, i.bytes)) = some (some (.slice none 0 0), 1, 24) := by kernel_rfl
def AllPost (L : List (List Vl)) (E : Int) (w : World) (e : Ending) (w' : World) : Prop := ∃ A c, e = .returned (.tuple #[.slice A L.length c, .int .i64 E]) ∧ kVls.C w' A L.length L ∧ L.length ≤ c ∧ Below w.heap.size w w'
theorem kVl_KM' {w : World} {base : Nat} {ok : Nat → Prop} (x : Vl) : kVl.M w base ok x [.int .u8 x.k, .int .u64 x.b, .int .i64 x.d, .int .i64 x.s] := kVl_mkM w base ok x
set_option maxRecDepth 100000 in
set_option maxHeartbeats 8000000 in
theorem All_calls (a b : Nat) (ws : List Int) (g : Nat) (t : List Ent) (A : Option Addr) (c : Nat) (l : List Fm) (w : World) (h : IsArena w a b ws) (hT : IsTab w g t) (ht : TabFine t) (hr : kFm.C w A l.length l) (hc : l.length ≤ c) (hl : ∀ x ∈ l, FmAt x) (hn : l.length ≤ 1000000) :
    Calls Tryd.prog 19 #[.pointer (some ⟨a, 0, none⟩), .pointer (some ⟨g, 0, none⟩), .slice A l.length c] w (AllPost (allV ws t l) (allE ws t l) w) := by
  have HR := Aside0.mk hr
  have HSz := Aside0.mk (fun (W : World) (hb : Below w.heap.size w W) (x : Fm) (hx : FmAt x) => ssize_calls g t x W (hT.below hb) ht hx)
  have HGet := Aside0.mk (fun (W : World) (hb : Below w.heap.size w W) (d s : Int) (hd : I64 d) (hs : I64 s) => SGet_calls a b ws g t A c l d s W (h.below hb) (hT.below hb) ht (Kd.C_below hr hb) hc hl hd hs)
  have HL := Aside0.mk hl
  have hsz : ∀ d : Int, slotCt t l d ≤ 1000 := by
    intro d
    unfold slotCt slotN
    have := ht.size (fm l d).fn
    omega
  have HCt := Aside0.mk hsz
  generalize hP : AllPost (allV ws t l) (allE ws t l) w = Post
  have HPost := Aside0.mk hP
  clear hP h hT hr hl hsz
  go_enter Tryd.func19, Tryd.ntmps19
  go_wp2
  go_loopw [8, 17] (fun v i wr => ∃ k : Nat, k ≤ l.length ∧ i = .int .i64 k ∧ Aside0 (Below w.heap.size w wr) ∧ Aside0 (kVls.R 78 wr w.heap.size (fun _ => True) v ((rowsG ws t l).take k)) ∧ Aside0 (allE ws t l = firstNZ (allErrsG ws t l k))) (fun _ i _ => l.length - (intOf i).toNat)
  case atStart => exact ⟨0, Nat.zero_le _, rfl, ⟨Below.refl _ _⟩, ⟨by rw [List.take_zero]; exact Kd.R_nil _ _ _ _ _⟩, ⟨rfl⟩⟩
  case round =>
    obtain ⟨d, hd, rfl, HB, HO, HE⟩ := hrel
    by_cases hlt : d < l.length
    · obtain ⟨ad, rfl, k0, k1, k2⟩ := at_Fm (Kd.C_below HR.out HB.out) (d : Int) (by omega) (by omega)
      simp only [Int.toNat_natCast] at k0 k1 k2
      have hx := HL.out _ (fm_mem (l := l) (i := (d : Int)) (by omega) (by omega))
      have hb1 := below_alloc (Below.refl _ wr) (.cells #[.int .i64 (fm l d).at_, .int .i64 (fm l d).fn, .int .i64 (fm l d).link] 61)
      have HB1 := Aside0.mk (below_then HB.out HB.out.size hb1)
      have HO1 := Aside0.mk (Kd.R_below HO.out hb1)
      have HS := Aside0.mk (HSz.out _ HB1.out (fm l d) hx)
      have hct : slotN t (fm l d) = (slotCt t l d : Int) := by unfold slotCt slotN; omega
      rw [hct] at HS
      have hcl := HCt.out d
      have HE1 : Aside0 (allE ws t l = firstNZ ((slotErrsG ws t l d).drop 0 ++ allErrsG ws t l (d + 1))) := ⟨by rw [HE.out, allErrsG_step hlt]; rfl⟩
      have HSt := Aside0.mk (rowsG_step (ws := ws) (t := t) hlt)
      have hlr : ((rowsG ws t l).take d).length ≤ 1000000 := by rw [List.length_take]; omega
      generalize fm l d = x at *
      generalize hacc : (rowsG ws t l).take d = acc at *
      have HAcc := Aside0.mk hacc
      obtain ⟨wo, rfl⟩ : ∃ wo : World, wo = wr := ⟨_, rfl⟩
      clear hx hct hb1 HO HE hacc
      go_wp2_with (go_at_call 56; refine HS.out.mono ?_; rintro e w1 ⟨rfl, hb⟩; have HB2 := Aside0.mk (below_then HB1.out HB1.out.size hb); have HO2 := Aside0.mk (Kd.R_below HO1.out hb); clear hb k0 k1 k2)
      have HO3 := Aside0.mk (Kd.R_mono (Kd.R_bound HO2.out) (ok' := fun k => k < w1.heap.size) (fun k hk => hk.2.2.1))
      obtain ⟨N0, hN0⟩ : ∃ N0, N0 = w1.heap.size := ⟨_, rfl⟩
      have HN0 := Aside0.mk hN0
      rw [← hN0] at HO3
      have hwn : w.heap.size ≤ N0 := by rw [hN0]; exact HB2.out.size
      clear hN0
      go_loopw [11, 25] (fun v i wi => ∃ k : Nat, k ≤ slotCt t l d ∧ i = .int .i64 k ∧ Aside0 (Below w.heap.size w wi) ∧ Aside0 (N0 ≤ wi.heap.size) ∧ Aside0 (kVls.R 78 wi w.heap.size (fun k => k < N0) u8 acc) ∧ Aside0 (kVl.R 26 wi N0 (fun _ => True) v ((rowG ws t l d).take k)) ∧ Aside0 (allE ws t l = firstNZ ((slotErrsG ws t l d).drop k ++ allErrsG ws t l (d + 1)))) (fun _ i _ => slotCt t l d - (intOf i).toNat)
      case atStart => exact ⟨0, Nat.zero_le _, rfl, HB2, ⟨by rw [HN0.out]; exact Nat.le_refl _⟩, HO3, ⟨by rw [List.take_zero]; exact Kd.R_nil _ _ _ _ _⟩, HE1⟩
      case round =>
        obtain ⟨i, hi, rfl, HB3, HN3, HO4, HI, HE3⟩ := hrel
        by_cases hil : i < slotCt t l d
        · have HG := HGet.out wr HB3.out d i (by constructor <;> omega) (by constructor <;> omega)
          have HSt1 := Aside0.mk (slotErrsG_step (ws := ws) hil)
          have HSt2 := Aside0.mk (rowG_step (ws := ws) hil)
          have hrl : ((rowG ws t l d).take i).length ≤ 1000000 := by rw [List.length_take]; omega
          generalize hra : (rowG ws t l d).take i = ra at *
          generalize sGetV ws t l d i = vv at *
          by_cases hx0 : sGetE ws t l d i = 0
          · rw [hx0] at HG
            have HX := Aside0.mk hx0
            have HG := Aside0.mk HG
            clear hx0 hra
            go_wp2_with first
              | (go_at_call 57
                 refine HG.out.mono ?_
                 rintro e w4 ⟨rfl, hb⟩
                 have hb5 := below_alloc hb (.cells #[.int .u8 vv.k, .int .u64 vv.b, .int .i64 vv.d, .int .i64 vv.s] 26)
                 have HB5 := Aside0.mk (below_then HB3.out HB3.out.size hb5)
                 have HI5 := Aside0.mk (Kd.R_below HI.out hb5)
                 have HO5 := Aside0.mk (Kd.R_below HO4.out hb5)
                 have HN5 := Aside0.mk (Nat.le_trans HN3.out hb5.size)
                 clear hb hb5)
              | (at_builtin
                 refine Kd.R_append kVl (w0 := w4.alloc (.cells #[.int .u8 vv.k, .int .u64 vv.b, .int .i64 vv.d, .int .i64 vv.s] 26)) N0 rfl (.tmp 40) (.tmp 42) 78 26 (.agg #[.int .u8 0, .int .u64 0, .int .i64 0, .int .i64 0]) 32 rfl Tryd.underlying78 info26 rfl (by decide) (by decide) u11 ra vv _ (fun _ => True) (fun _ => False) rfl (by simp [Act.eval]) (kVl_KM' vv) (fun _ h => h.elim) (fun _ _ => trivial) HI5.out (Below.refl _ _) HN5.out (by omega) ?_
                 intro v6 w6 hR hB _ _
                 have HI6 := Aside0.mk hR
                 have HO6 := Aside0.mk (Kd.R_step HO5.out (fun k hk _ => hB.block k hk))
                 have HB6 := Aside0.mk (HB5.out.trans (hB.mono hwn))
                 have HN6 := Aside0.mk (Nat.le_trans HN5.out hB.size)
                 clear hR hB)
            go_roundw
            case rel => exact ⟨i + 1, by omega, by go_num, HB6, HN6, HO6, ⟨by rw [HSt2.out]; exact HI6.out⟩, ⟨by rw [HE3.out, HSt1.out, HX.out]; rfl⟩⟩
            case measure => simp [intOf]; omega
          · generalize sGetE ws t l d i = er at *
            have hne : (er != 0) = true := bne_iff_ne.2 hx0
            have HEr : Aside0 (allE ws t l = er) := ⟨by rw [HE3.out, HSt1.out]; show firstNZ (er :: (_ ++ _)) = er; rw [firstNZ, if_neg hx0]⟩
            have HX := Aside0.mk hx0
            have HG := Aside0.mk HG
            clear hx0 hra
            go_wp2_with (go_at_call 57; refine HG.out.mono ?_; rintro e w4 ⟨rfl, hb⟩; have HB5 := Aside0.mk (below_then HB3.out HB3.out.size (below_alloc hb (.cells #[.int .u8 vv.k, .int .u64 vv.b, .int .i64 vv.d, .int .i64 vv.s] 26))); clear hb)
            rw [← HPost.out, show allV ws t l = [] from if_neg (by rw [HEr.out]; exact HX.out), HEr.out]
            exact ⟨none, 0, rfl, Kd.C_nil _ _, Nat.le_refl _, HB5.out⟩
        · have HI7 : Aside0 (kVl.R 26 wr N0 (fun _ => True) u11 (rowG ws t l d)) := ⟨by have := HI.out; rwa [List.take_of_length_le (by simp [rowG]; omega)] at this⟩
          have HE7 : Aside0 (allE ws t l = firstNZ (allErrsG ws t l (d + 1))) := ⟨by rw [HE3.out, List.drop_eq_nil_of_le (by simp [slotErrsG]; omega)]; rfl⟩
          obtain ⟨A3, c3, rfl⟩ := Kd.R_slice HI7.out
          have HM7 : Aside0 (kVls.M wr w.heap.size (fun k => N0 ≤ k) (rowG ws t l d) [.slice A3 (rowG ws t l d).length c3]) := ⟨⟨_, rfl, Kd.R_lower (Kd.R_mono (Kd.R_bound HI7.out) (fun k hk => hk.2.1)) hwn⟩⟩
          go_wp2_with (at_builtin
                       refine Kd.R_append kVls (w0 := wr) w.heap.size rfl (.tmp 45) (.tmp 47) 50 78 (.slice none 0 0) 24 rfl Tryd.underlying50 info78 rfl (by decide) (by decide) u8 acc (rowG ws t l d) _ (fun _ => True) (fun k => N0 ≤ k) rfl (by simp [Act.eval]) HM7.out (fun k hk => ⟨trivial, fun hh => by have := HO4.out.1 k hh.symm; omega⟩) (fun _ _ => trivial) (Kd.R_mono HO4.out (fun _ _ => trivial)) (Below.refl _ _) HB3.out.size (by omega) ?_
                       intro v8 w8 hR hB _ _
                       have HO8 := Aside0.mk hR
                       have HB8 := Aside0.mk (HB3.out.trans hB)
                       clear hR hB)
          go_roundw
          case rel => exact ⟨d + 1, by omega, by go_num, HB8, ⟨by rw [HSt.out]; exact HO8.out⟩, HE7⟩
          case measure => simp [intOf]; omega
    · have HE7 : Aside0 (allE ws t l = 0) := ⟨by rw [HE.out]; unfold allErrsG; rw [List.drop_eq_nil_of_le (by simp; omega)]; rfl⟩
      have HO7 : Aside0 (kVls.R 78 wr w.heap.size (fun _ => True) u8 (rowsG ws t l)) := ⟨by have := HO.out; rwa [List.take_of_length_le (by simp [rowsG]; omega)] at this⟩
      go_wp2
      rw [← HPost.out, show allV ws t l = rowsG ws t l from if_pos HE7.out, HE7.out]
      obtain ⟨A3, c3, rfl, hl3, hC⟩ := Kd.R_reads HO7.out
      exact ⟨A3, c3, rfl, hC, hl3, HB.out⟩
end Go.Proofs.YtfaghjadjpiaiaaDoor.Sh
namespace Go.Proofs.YtfaghjadjpiaiaaDoor.Sh
open Go.RowKit Go.Shelf Go.Proofs.YtfaghjadjpiaiaaDoorW.PrintWords Go.Proofs.YtfaghjadjpiaiaaDoorW.PrintLast Go.Proofs.YtfaghjadjpiaiaaDoorW.PrintMore
set_option linter.unusedVariables false
set_option linter.unusedSimpArgs false
/-- A word raised. -/
def upW (x by_ : Int) : Int := IntKind.u64.wrap (x + IntKind.u64.wrap by_)
theorem upW_u (x by_ : Int) : U64 (upW x by_) := by
  unfold upW
  rw [IntKind.wrap_u64]
  exact ⟨by omega, by omega⟩
def raiseW (ws : List Int) (by_ at_ : Int) : List Int := if 0 ≤ at_ ∧ at_ < ws.length ∧ rd ws at_ ≠ 0 then ws.set at_.toNat (upW (rd ws at_) by_) else ws
theorem raise_length (ws : List Int) (by_ at_ : Int) : (raiseW ws by_ at_).length = ws.length := by
  unfold raiseW
  split
  · simp
  · rfl
theorem splice_one (ws : List Int) (n : Nat) (x : Int) (h : n < ws.length) : splice ws n [x] = ws.set n x := by
  apply List.ext_getElem?
  intro i
  rw [splice_get _ _ _ _ (by simp; omega), List.getElem?_set]
  simp only [List.length_singleton]
  by_cases h1 : n = i
  · subst h1
    rw [if_pos (by omega), if_pos rfl, if_pos (by omega)]
    simp
  · rw [if_neg (by omega), if_neg h1]
/-- What a call that writes words, and answers nothing, comes to. -/
def RaisePost (a b : Nat) (ws' : List Int) (w : World) (e : Ending) (w' : World) : Prop := e = .returned (.tuple #[]) ∧ IsArena w' a b ws' ∧ w.grownBy w' (some b)
set_option maxRecDepth 100000 in
set_option maxHeartbeats 2000000 in
theorem raise_calls (a b : Nat) (ws : List Int) (g : Nat) (by_ at_ : Int) (w : World) (h : IsArena w a b ws) (hat : I64 at_) :
    Calls Tryd.prog 115 #[.agg #[.pointer (some ⟨a, 0, none⟩), .pointer (some ⟨g, 0, none⟩), .int .i64 by_], .int .i64 at_] w (RaisePost a b (raiseW ws by_ at_) w) := by
  have HB := Aside0.mk (BlkW.start w #[.pointer (some ⟨a, 0, none⟩), .pointer (some ⟨g, 0, none⟩), .int .i64 by_] 125)
  have HLo := ALoad_calls a b ws at_ _ (h.below HB.out.below) hat
  have HA := Aside0.mk h
  have hlen := h.len
  have hlta := h.lta
  have hltb := h.ltb
  by_cases hx : 0 ≤ at_ ∧ at_ < ws.length ∧ rd ws at_ ≠ 0
  · have e1 : raiseW ws by_ at_ = ws.set at_.toNat (upW (rd ws at_) by_) := if_pos hx
    rw [e1]
    obtain ⟨x0, x1, x2⟩ := hx
    rw [show aLoadV ws at_ = rd ws at_ from if_pos ⟨x0, x1⟩, show aLoadE ws at_ = 0 from if_pos ⟨x0, x1⟩] at HLo
    have HLo := Aside0.mk HLo
    have es : storeW ws at_ [upW (rd ws at_) by_] = ws.set at_.toNat (upW (rd ws at_) by_) := by
      unfold storeW
      rw [if_pos (inB_iff.2 ⟨by simp, x0, by omega, by simp; omega⟩), splice_one ws at_.toNat _ (by omega)]
    have HSt := Aside0.mk (fun (W : World) (hb : Below w.heap.size w W) => Store_calls a b ws at_ (some ⟨W.heap.size, 0, none⟩) 1 [upW (rd ws at_) by_] (W.alloc (.cells #[.int .u64 (upW (rd ws at_) by_)] 24)) ((h.below hb).below (below_alloc (Below.refl _ _) _)) hat (C_one .u64 W (upW (rd ws at_) by_) 24) (Nat.le_refl _) (fun y hy => by rw [List.mem_singleton.1 hy]; exact upW_u _ _))
    rw [es] at HSt
    have hne : (rd ws at_ != 0) = true := bne_iff_ne.2 x2
    have hu := h.all _ (rd_mem (i := at_) x0 (by omega))
    unfold U64 at hu
    generalize ws.set at_.toNat (upW (rd ws at_) by_) = ws' at *
    unfold upW at HSt
    generalize rd ws at_ = x at *
    clear h hat e1 es x2
    go_enter Tryd.func115, Tryd.ntmps115
    go_wp2_with first
      | (go_at_call 27; refine HLo.out.mono ?_; rintro e w1 ⟨rfl, hb⟩; have HB1 := Aside0.mk (HB.out.step hb); have z0 := (blk_cell HB1.out.blk 0).trans rfl; have z1 := (blk_cell HB1.out.blk 1).trans rfl; have z2 := (blk_cell HB1.out.blk 2).trans rfl; clear hb)
      | (go_at_call 52; refine (HSt.out _ HB1.out.below).mono ?_; rintro e w2 ⟨rfl, hA, hg⟩; have HA2 := Aside0.mk hA; have HG2 := Aside0.mk ((grown_of_below (below_then HB1.out.below HB1.out.below.size (below_alloc (Below.refl _ w1) _)) (some b)).trans hg); clear hA hg)
    go_end0
    exact ⟨rfl, HA2.out, HG2.out⟩
  · have e1 : raiseW ws by_ at_ = ws := if_neg hx
    rw [e1]
    have hz : aLoadV ws at_ = 0 := by
      unfold aLoadV
      split
      · rename_i hh
        by_cases h0 : rd ws at_ = 0
        · exact h0
        · exact absurd ⟨hh.1, hh.2, h0⟩ hx
      · rfl
    rw [hz] at HLo
    have HLo := Aside0.mk HLo
    clear h hat e1 hz hx
    go_enter Tryd.func115, Tryd.ntmps115
    go_wp2_with (go_at_call 27; refine HLo.out.mono ?_; rintro e w1 ⟨rfl, hb⟩; have HB1 := Aside0.mk (HB.out.step hb); clear hb)
    go_end0
    exact ⟨rfl, HA.out.below HB1.out.below, grown_of_below HB1.out.below _⟩
end Go.Proofs.YtfaghjadjpiaiaaDoor.Sh
namespace Go.Proofs.YtfaghjadjpiaiaaDoor.Sh
open Go.RowKit Go.Shelf Go.Proofs.YtfaghjadjpiaiaaDoorW.PrintWords Go.Proofs.YtfaghjadjpiaiaaDoorW.PrintLast Go.Proofs.YtfaghjadjpiaiaaDoorW.PrintMore
set_option linter.unusedVariables false
set_option linter.unusedSimpArgs false
theorem apart_i64 {W : World} {a b : Nat} {ws : List Int} (h : IsArena W a b ws) {p : Addr} {v : Int} (hc : W.cell? p = some (.int .i64 v)) : p.block ≠ b := by
  rintro rfl
  unfold World.cell? at hc
  rw [h.row] at hc
  simp only at hc
  split at hc
  · cases hc
  · simp [nums] at hc
theorem add_block (p : Addr) (n : Nat) : (p.add n).block = p.block := by
  unfold Addr.add
  split <;> rfl
theorem C_far_i64 {W W' : World} {a b : Nat} {ws : List Int} (h : IsArena W a b ws) {A : Option Addr} {n : Nat} {xs : List Int} (hC : (Kd.int .i64).C W A n xs) (hg : W.grownBy W' (some b)) : (Kd.int .i64).C W' A n xs := by
  refine ⟨hC.1, hC.2.1, fun hn => ?_⟩
  obtain ⟨ad, rfl, hr⟩ := hC.2.2 hn
  refine ⟨ad, rfl, fun j p hj => ?_⟩
  obtain ⟨cs, h1, h2, h3⟩ := hr j p hj
  refine ⟨cs, h1, h2, fun i u hu => ?_⟩
  obtain rfl : cs = [.int .i64 p] := h2
  have hu' := h3 i u hu
  match i, hu with
  | 0, hu =>
    simp at hu
    subst hu
    exact World.grownBy.cell hg hu' (fun hh => apart_i64 h hu' (by injection hh))
theorem C_move_Fm {W W' : World} {A : Option Addr} {n k : Nat} {xs : List Fm} (hC : kFm.C W A n xs) (hg : W.grownBy W' (some k)) (hk : xs = [] ∨ ∃ gg, A = some ⟨gg, 0, none⟩ ∧ gg ≠ k) : kFm.C W' A n xs := by
  refine ⟨hC.1, hC.2.1, fun hn => ?_⟩
  obtain ⟨ad, rfl, hr⟩ := hC.2.2 hn
  refine ⟨ad, rfl, fun j p hj => ?_⟩
  rcases hk with rfl | ⟨gg, he, hne⟩
  · cases hj
  injection he with he
  subst he
  obtain ⟨cs, h1, h2, h3⟩ := hr j p hj
  refine ⟨cs, h1, h2, fun i u hu => ?_⟩
  have hu' := h3 i u hu
  refine World.grownBy.cell hg hu' (fun hh => hne ?_)
  rw [add_block] at hh
  injection hh
theorem C_far_Fm {W W' : World} {a b : Nat} {ws : List Int} (h : IsArena W a b ws) {A : Option Addr} {n : Nat} {xs : List Fm} (hC : kFm.C W A n xs) (hg : W.grownBy W' (some b)) : kFm.C W' A n xs := by
  refine ⟨hC.1, hC.2.1, fun hn => ?_⟩
  obtain ⟨ad, rfl, hr⟩ := hC.2.2 hn
  refine ⟨ad, rfl, fun j p hj => ?_⟩
  obtain ⟨cs, h1, h2, h3⟩ := hr j p hj
  refine ⟨cs, h1, h2, fun i u hu => ?_⟩
  obtain rfl := kFm_open h2
  have hu' := h3 i u hu
  match i, hu with
  | 0, hu => simp at hu; subst hu; exact World.grownBy.cell hg hu' (fun hh => apart_i64 h hu' (by injection hh))
  | 1, hu => simp at hu; subst hu; exact World.grownBy.cell hg hu' (fun hh => apart_i64 h hu' (by injection hh))
  | 2, hu => simp at hu; subst hu; exact World.grownBy.cell hg hu' (fun hh => apart_i64 h hu' (by injection hh))
/-- A table made ahead of an arena. -/
structure TabBase (wt : World) (g : Nat) (t : List Ent) (b : Nat) (w : World) : Prop where
  tab : IsTab wt g t
  below : Below wt.heap.size wt w
  base : wt.heap.size ≤ b
theorem TabBase.now {wt : World} {g : Nat} {t : List Ent} {b : Nat} {w : World} (h : TabBase wt g t b w) : IsTab w g t := h.tab.below h.below
theorem TabBase.step {wt : World} {g : Nat} {t : List Ent} {b : Nat} {w w' : World} (h : TabBase wt g t b w) (hg : w.grownBy w' (some b)) : TabBase wt g t b w' :=
  ⟨h.tab, pw_below_grown h.below (some b) h.below.size hg (fun k hk => by injection hk with hk; rw [← hk]; exact h.base), h.base⟩
theorem TabBase.put {wt : World} {g : Nat} {t : List Ent} {b : Nat} {w : World} (h : TabBase wt g t b w) (p : Addr) (hp : wt.heap.size ≤ p.block) (v : Value) : TabBase wt g t b (w.setCell p v) :=
  ⟨h.tab, h.below.setCell hp _, h.base⟩
/-- A block that the call has made, and all that was there but for one row. -/
structure BlkG (w : World) (b n : Nat) (cs : Array Value) (t : TypeId) (W : World) : Prop where
  grown : w.grownBy W (some b)
  blk : W.heap[n]? = some (.cells cs t (0, 0))
theorem BlkW.grown {w : World} {n : Nat} {cs : Array Value} {t : TypeId} {W : World} (h : BlkW w n cs t W) (b : Nat) : BlkG w b n cs t W := ⟨grown_of_below h.below _, h.blk⟩
theorem BlkG.step {w : World} {b n : Nat} {cs : Array Value} {t : TypeId} {W W1 : World} (h : BlkG w b n cs t W) (hn : n ≠ b) (hg : W.grownBy W1 (some b)) : BlkG w b n cs t W1 :=
  ⟨h.grown.trans hg, blk_grown h.blk hg (fun hh => hn (by injection hh))⟩
/-- The words behind a frame's raising, as far as its first k pointer slots. -/
def frameW (ws : List Int) (t : List Ent) (by_ : Int) (x : Fm) (k : Nat) : List Int := ((tPtrs t x.fn).take k).foldl (fun W i => raiseW W by_ (slotA t ⟨x.at_ + by_, x.fn, x.link⟩ i)) (raiseW ws by_ (x.at_ + by_))
theorem frameW_step {ws : List Int} {t : List Ent} {by_ : Int} {x : Fm} {k : Nat} (h : k < (tPtrs t x.fn).length) : frameW ws t by_ x (k + 1) = raiseW (frameW ws t by_ x k) by_ (slotA t ⟨x.at_ + by_, x.fn, x.link⟩ (rd (tPtrs t x.fn) k)) := by
  unfold frameW
  have e : (tPtrs t x.fn)[k]? = some (rd (tPtrs t x.fn) k) := by simp [rd, List.getElem?_eq_getElem h]
  rw [take_get e, List.foldl_append]
  rfl
theorem raise_all {ws : List Int} (h : AllU ws) (by_ at_ : Int) : AllU (raiseW ws by_ at_) := by
  unfold raiseW
  split
  · intro y hy
    rcases List.mem_or_eq_of_mem_set hy with hy | rfl
    · exact h y hy
    · exact upW_u _ _
  · exact h
set_option maxRecDepth 100000 in
set_option maxHeartbeats 4000000 in
theorem frame_calls (a b : Nat) (ws : List Int) (wt : World) (g : Nat) (t : List Ent) (by_ : Int) (x : Fm) (w : World) (h : IsArena w a b ws) (hT : TabBase wt g t b w) (ht : TabFine t) (hpi : ∀ f, AllI (tPtrs t f)) (hb : -65536 ≤ by_ ∧ by_ ≤ 65536) (hx : FmAt x) (hx2 : 0 ≤ x.at_ + by_ ∧ x.at_ + by_ ≤ 65536) :
    Calls Tryd.prog 65 #[.agg #[.pointer (some ⟨a, 0, none⟩), .pointer (some ⟨g, 0, none⟩), .int .i64 by_], .agg #[.int .i64 x.at_, .int .i64 x.fn, .int .i64 x.link]] w (RaisePost a b (frameW ws t by_ x (tPtrs t x.fn).length) w) := by
  have HB := Aside0.mk (BlkW.start w #[.pointer (some ⟨a, 0, none⟩), .pointer (some ⟨g, 0, none⟩), .int .i64 by_] 125)
  have hbx := BlkW.then HB.out.below #[.int .i64 (x.at_ + by_), .int .i64 x.fn, .int .i64 x.link] 61
  rw [show (w.alloc (.cells #[.pointer (some ⟨a, 0, none⟩), .pointer (some ⟨g, 0, none⟩), .int .i64 by_] 125)).heap.size = w.heap.size + 1 by simp] at hbx
  have HBX := Aside0.mk hbx
  have HB1 := Aside0.mk (HB.out.step (below_alloc (Below.refl _ _) (.cells #[.int .i64 (x.at_ + by_), .int .i64 x.fn, .int .i64 x.link] 61)))
  have hlen := h.len
  have hltb := h.ltb
  have HA0 := Aside0.mk (h.below HBX.out.below)
  have HRz := Aside0.mk (fun (W : World) (ws' : List Int) (at' : Int) (h' : IsArena W a b ws') (hat : I64 at') => raise_calls a b ws' g by_ at' W h' hat)
  have HT0 := Aside0.mk (hT.step (grown_of_below HBX.out.below (some b)))
  have HPt := Aside0.mk (fun (W : World) (h' : TabBase wt g t b W) => ptrs_calls g t x.fn W h'.now (ht.ptrs x.fn))
  have HPI := Aside0.mk (hpi x.fn)
  have HSl := Aside0.mk (fun (W : World) (h' : TabBase wt g t b W) (i : Int) (hi : I64 i) => Slot_calls g t ⟨x.at_ + by_, x.fn, x.link⟩ i W h'.now ht ⟨hx2.1, by have := hx2.2; show x.at_ + by_ ≤ _; omega⟩ hi)
  have hpl := ht.ptrs x.fn
  obtain ⟨b0, b1⟩ := hb
  obtain ⟨x0, x1⟩ := hx
  obtain ⟨y0, y1⟩ := hx2
  have hsA : ∀ i, I64 i → 0 ≤ slotA t ⟨x.at_ + by_, x.fn, x.link⟩ i ∧ slotA t ⟨x.at_ + by_, x.fn, x.link⟩ i ≤ 70000 := by
    intro i hi
    unfold slotA
    have := ht.size x.fn
    split
    · rename_i hh
      show 0 ≤ x.at_ + by_ + 2 + i ∧ x.at_ + by_ + 2 + i ≤ 70000
      have := hh.2
      simp only at this
      omega
    · omega
  have HSA := Aside0.mk hsA
  clear h hT ht hpi hbx hsA
  go_enter Tryd.func65, Tryd.ntmps65
  go_wp2_with first
    | (go_at_call 115
       refine (HRz.out _ ws (x.at_ + by_) HA0.out (by constructor <;> omega)).mono ?_
       rintro e w1 ⟨rfl, hA, hg⟩
       have HA1 := Aside0.mk hA
       have HBG := Aside0.mk ((HB1.out.grown b).step (by omega) hg)
       have HXG := Aside0.mk ((HBX.out.grown b).step (by omega) hg)
       have HT1 := Aside0.mk (HT0.out.step hg)
       have z0 := (blk_cell HBG.out.blk 1).trans rfl
       have z1 := (blk_cell HXG.out.blk 1).trans rfl
       clear hA hg)
    | (go_at_call 26
       refine (HPt.out _ HT1.out).mono ?_
       rintro e w2 ⟨A2, c2, rfl, hC, hc2, hb2⟩
       have hg := grown_of_below hb2 (some b)
       have HA2 := Aside0.mk (HA1.out.below hb2)
       have HBG2 := Aside0.mk (HBG.out.step (by omega) hg)
       have HXG2 := Aside0.mk (HXG.out.step (by omega) hg)
       have HT2 := Aside0.mk (HT1.out.step hg)
       have HC2 := Aside0.mk hC
       clear hC hb2 hg z0 z1)
  go_loopw [24] (fun i wr => ∃ k : Nat, k ≤ (tPtrs t x.fn).length ∧ i = .int .i64 k ∧ Aside0 (IsArena wr a b (frameW ws t by_ x k)) ∧ Aside0 (BlkG w b w.heap.size #[.pointer (some ⟨a, 0, none⟩), .pointer (some ⟨g, 0, none⟩), .int .i64 by_] 125 wr) ∧ Aside0 (BlkG w b (w.heap.size + 1) #[.int .i64 (x.at_ + by_), .int .i64 x.fn, .int .i64 x.link] 61 wr) ∧ Aside0 (TabBase wt g t b wr) ∧ Aside0 ((Kd.int .i64).C wr A2 (tPtrs t x.fn).length (tPtrs t x.fn))) (fun i _ => (tPtrs t x.fn).length - (intOf i).toNat)
  case atStart => exact ⟨0, Nat.zero_le _, rfl, HA2, HBG2, HXG2, HT2, HC2⟩
  case round =>
    obtain ⟨k, hk, rfl, HA3, HB3, HX3, HT3, HC3⟩ := hrel
    by_cases hlt : k < (tPtrs t x.fn).length
    · obtain ⟨ad, rfl, hcell⟩ := Kd.at_int HC3.out (k : Int) (by omega) (by omega)
      simp only [Int.toNat_natCast] at hcell
      have hpi := HPI.out _ (rd_mem (l := tPtrs t x.fn) (i := (k : Int)) (by omega) (by omega))
      have HStep := Aside0.mk (frameW_step (ws := ws) (t := t) (by_ := by_) (x := x) hlt)
      have hsa := HSA.out _ hpi
      have HS := Aside0.mk (HSl.out wr HT3.out _ hpi)
      generalize rd (tPtrs t x.fn) k = i at *
      generalize slotA t ⟨x.at_ + by_, x.fn, x.link⟩ i = sa at *
      generalize slotE t (Fm.mk (x.at_ + by_) x.fn x.link).fn i = se at *
      generalize frameW ws t by_ x k = ws1 at *
      have m1 := (blk_cell HB3.out.blk 1).trans rfl
      have c0 := (blk_cell HX3.out.blk 0).trans rfl
      have c1 := (blk_cell HX3.out.blk 1).trans rfl
      have c2 := (blk_cell HX3.out.blk 2).trans rfl
      clear hpi
      go_wp2_with first
        | (go_at_call 116
           refine HS.out.mono ?_
           rintro e w4 ⟨rfl, hb4⟩
           have hg := grown_of_below hb4 (some b)
           have HA4 := Aside0.mk (HA3.out.below hb4)
           have HB4 := Aside0.mk (HB3.out.step (by omega) hg)
           have HX4 := Aside0.mk (HX3.out.step (by omega) hg)
           have HT4 := Aside0.mk (HT3.out.step hg)
           have HC4 := Aside0.mk (Kd.C_below HC3.out hb4)
           have n0 := (blk_cell HB4.out.blk 0).trans rfl
           have n1 := (blk_cell HB4.out.blk 1).trans rfl
           have n2 := (blk_cell HB4.out.blk 2).trans rfl
           clear hb4 hg m1 c0 c1 c2 hcell)
        | (go_at_call 115
           refine (HRz.out w4 ws1 sa HA4.out (by constructor <;> omega)).mono ?_
           rintro e w5 ⟨rfl, hA, hg⟩
           have HA5 := Aside0.mk hA
           have HB5 := Aside0.mk (HB4.out.step (by omega) hg)
           have HX5 := Aside0.mk (HX4.out.step (by omega) hg)
           have HT5 := Aside0.mk (HT4.out.step hg)
           have HC5 := Aside0.mk (C_far_i64 HA4.out HC4.out hg)
           clear hA hg n0 n1 n2)
      go_roundw
      case rel => exact ⟨k + 1, by omega, by go_num, ⟨by rw [HStep.out]; exact HA5.out⟩, HB5, HX5, HT5, HC5⟩
      case measure => simp [intOf]; omega
    · have hk2 : k = (tPtrs t x.fn).length := by omega
      subst hk2
      go_wp2
      go_end0
      exact ⟨rfl, HA3.out, HB3.out.grown⟩
end Go.Proofs.YtfaghjadjpiaiaaDoor.Sh
namespace Go.Proofs.YtfaghjadjpiaiaaDoor.Sh
open Go.RowKit Go.Shelf Go.Proofs.YtfaghjadjpiaiaaDoorW.PrintWords Go.Proofs.YtfaghjadjpiaiaaDoorW.PrintLast Go.Proofs.YtfaghjadjpiaiaaDoorW.PrintMore
set_option linter.unusedVariables false
set_option linter.unusedSimpArgs false
def MWrong (x : Int) : List PanicEntry := [{ v := .iface 120 (.agg #[.int .i64 x]), recovered := false }]
theorem mmust_ok (x : Int) (w : World) :
    Calls Tryd.prog 62 #[.bool true, .int .i64 x] w fun e w' => e = .returned (.tuple #[]) ∧ w = w' := by
  go_enter Tryd.func62, Tryd.ntmps62
  go_wp2
  go_end0
  exact ⟨rfl, rfl⟩
theorem mmust_no (x : Int) (w : World) :
    Calls Tryd.prog 62 #[.bool false, .int .i64 x] w fun e w' => e = .panicked (MWrong x) ∧ w = w' := by
  go_enter Tryd.func62, Tryd.ntmps62
  go_wp2
  exact ⟨rfl, rfl, rfl⟩
theorem grown_new {w W : World} {row : Option Nat} (h : w.grownBy W row) {p : Addr} (hp : w.heap.size ≤ p.block) (v : Value) : w.grownBy (W.setCell p v) row :=
  ⟨h.os, h.tape, h.output, by simpa using h.size, fun i hi hne => by
    rw [← h.block i hi hne]
    have : i ≠ p.block := by omega
    simp [World.setCell, Array.getElem?_modify, Ne.symm this]⟩
theorem setCell_id {w : World} {g i t : Nat} {cs : Array Value} {u : Value} (h : w.heap[g]? = some (.cells cs t (0, 0))) (hu : cs[i]? = some u) : w.setCell ⟨g, i, none⟩ u = w := by
  have hs : cs.setIfInBounds i u = cs := by
    apply Array.ext_getElem?
    intro j
    by_cases hj : i = j
    · subst hj
      rw [hu]
      have hl := (Array.getElem?_eq_some_iff.1 hu).1
      simp [Array.getElem?_setIfInBounds_self, hl]
    · rw [Array.getElem?_setIfInBounds_ne hj]
  have hh : (w.setCell ⟨g, i, none⟩ u).heap = w.heap := by
    apply Array.ext_getElem?
    intro k
    by_cases hk : k = g
    · subst hk
      rw [blk_set h, hs, h]
    · exact Below.heap_setCell w ⟨g, i, none⟩ u k hk
  have e : w.setCell ⟨g, i, none⟩ u = { w with heap := (w.setCell ⟨g, i, none⟩ u).heap } := rfl
  rw [e, hh]
/-- The boxes of To: the stack, the one answered, the error. -/
structure ToW (w : World) (b : Nat) (s o : St) (x : Int) (W : World) : Prop where
  grown : w.grownBy W (some b)
  sb : W.heap[w.heap.size]? = some (.cells #[.int .i64 s.lo, .int .i64 s.size, .int .i64 s.sp] 44 (0, 0))
  ob : W.heap[w.heap.size + 1]? = some (.cells #[.int .i64 o.lo, .int .i64 o.size, .int .i64 o.sp] 44 (0, 0))
  eb : W.heap[w.heap.size + 2]? = some (.cells #[.int .i64 x] 31 (0, 0))
theorem ToW.step {w : World} {b : Nat} {s o : St} {x : Int} {W W1 : World} (h : ToW w b s o x W) (hb : b < w.heap.size) (hg : W.grownBy W1 (some b)) : ToW w b s o x W1 :=
  ⟨h.grown.trans hg, blk_grown h.sb hg (fun hh => by injection hh; omega), blk_grown h.ob hg (fun hh => by injection hh; omega), blk_grown h.eb hg (fun hh => by injection hh; omega)⟩
theorem ToW.stepB {w : World} {b : Nat} {s o : St} {x : Int} {W W1 : World} (h : ToW w b s o x W) (hb : b < w.heap.size) (hg : Below W.heap.size W W1) : ToW w b s o x W1 := h.step hb (grown_of_below hg _)
theorem ToW.start (w : World) (b : Nat) (s : St) : ToW w b s zSt 0 (((w.alloc (.cells #[.int .i64 s.lo, .int .i64 s.size, .int .i64 s.sp] 44)).alloc (.cells #[.int .i64 0, .int .i64 0, .int .i64 0] 44)).alloc (.cells #[.int .i64 0] 31)) where
  grown := grown_of_below (below_alloc (below_alloc (below_alloc (Below.refl _ _) _) _) _) _
  sb := (Below.heap_alloc _ _ _ (by simp; omega)).trans ((Below.heap_alloc _ _ _ (by simp)).trans (heap_alloc_new w _))
  ob := by
    show _ = some (Obj.cells #[.int .i64 0, .int .i64 0, .int .i64 0] 44 (0, 0))
    exact (Below.heap_alloc _ _ _ (by simp)).trans (by have := heap_alloc_new (w.alloc (.cells #[.int .i64 s.lo, .int .i64 s.size, .int .i64 s.sp] 44)) (.cells #[.int .i64 0, .int .i64 0, .int .i64 0] 44); simpa using this)
  eb := by have := heap_alloc_new ((w.alloc (.cells #[.int .i64 s.lo, .int .i64 s.size, .int .i64 s.sp] 44)).alloc (.cells #[.int .i64 0, .int .i64 0, .int .i64 0] 44)) (.cells #[.int .i64 0] 31); simpa using this
theorem ToW.putE {w : World} {b : Nat} {s o : St} {x : Int} {W : World} (h : ToW w b s o x W) (y : Int) : ToW w b s o y (W.setCell ⟨w.heap.size + 2, 0, none⟩ (.int .i64 y)) :=
  ⟨grown_new h.grown (Nat.le_add_right _ 2) _, blk_far h.sb (by simp) _, blk_far h.ob (by simp) _, by simpa using blk_set h.eb 0 (.int .i64 y)⟩
theorem ToW.putO {w : World} {b : Nat} {s o : St} {x : Int} {W : World} (h : ToW w b s o x W) (u : St) : ToW w b s u x (((W.setCell ⟨w.heap.size + 1, 0, none⟩ (.int .i64 u.lo)).setCell ⟨w.heap.size + 1, 1, none⟩ (.int .i64 u.size)).setCell ⟨w.heap.size + 1, 2, none⟩ (.int .i64 u.sp)) :=
  ⟨grown_new (grown_new (grown_new h.grown (Nat.le_succ _) _) (Nat.le_succ _) _) (Nat.le_succ _) _, blk_far (blk_far (blk_far h.sb (by simp) _) (by simp) _) (by simp) _, blk_set3 _ _ _ h.ob, blk_far (blk_far (blk_far h.eb (by simp) _) (by simp) _) (by simp) _⟩
theorem ToW.drew {w : World} {b : Nat} {s o : St} {x : Int} {W : World} (h : ToW w b s o x W) : ToW w b s o x W.drew := ⟨grown_drew h.grown, h.sb, h.ob, h.eb⟩
theorem ToW.far {w : World} {b : Nat} {s o : St} {x : Int} {W : World} (h : ToW w b s o x W) {p : Addr} (hp : w.heap.size + 3 ≤ p.block) (v : Value) : ToW w b s o x (W.setCell p v) :=
  ⟨grown_new h.grown (by omega) v, blk_far h.sb (by omega) _, blk_far h.ob (by omega) _, blk_far h.eb (by omega) _⟩
theorem BlkG.put {w : World} {b n : Nat} {cs : Array Value} {t : TypeId} {W : World} (h : BlkG w b n cs t W) (hn : w.heap.size ≤ n) (i : Nat) (u : Value) : BlkG w b n (cs.setIfInBounds i u) t (W.setCell ⟨n, i, none⟩ u) :=
  ⟨grown_new h.grown hn _, blk_set h.blk i u⟩
def toDefers (n : Nat) : List Deferred := [{ target := Target.fn (Fn.func 61) #[.pointer (some ⟨n + 1, 0, none⟩), .pointer (some ⟨n + 2, 0, none⟩)], args := #[] }]
theorem to1_idle (p q : Addr) (w : World) :
    CallsD Tryd.prog 61 #[.pointer (some p), .pointer (some q)] .returning w fun e u' w' => e = .returned (.tuple #[]) ∧ u' = .returning ∧ w = w' := by
  refine callsD_of_wpS Tryd.func61 rfl fun c₀ cs hu => ?_
  simp only [Tryd.ntmps61, List.size_toArray, List.length_cons, List.length_nil, Nat.reduceAdd, Nat.reduceSub, Array.replicate_succ, Array.replicate_zero, List.push_toArray, List.append_toArray, List.nil_append, List.cons_append]
  apply wpS_seq
  apply wpS_region
  simp [wpOpsS, go_sem, recoverD, hu, Exit.thenS]
  have HU := Aside0.mk hu
  clear hu
  refine wpS_of_wp ?_
  go_wp2
  cases c₀
  have h := HU.out
  simp only at h
  subst h
  simp [bodyPostS, results, Tryd.results61]
theorem assert_mwrong (x : Int) : ∀ (w : World), (Instr.typeAssert (.iface 120 (.agg #[.int .i64 x])) 20 120 true).run Tryd.prog w = .ok (.tuple #[.agg #[.int .i64 x], .bool true]) w := fun _ => by kernel_rfl
set_option maxRecDepth 100000 in
set_option maxHeartbeats 1000000 in
theorem to1_wrong (w : World) (b : Nat) (s o : St) (y x : Int) (W : World) (h : ToW w b s o y W) (hb : b < w.heap.size) :
    CallsD Tryd.prog 61 #[.pointer (some ⟨w.heap.size + 1, 0, none⟩), .pointer (some ⟨w.heap.size + 2, 0, none⟩)] (.panicking (MWrong x)) W fun e u' W' => e = .returned (.tuple #[]) ∧ u' = .panicking [{ v := .iface 120 (.agg #[.int .i64 x]), recovered := true }] ∧ ToW w b s zSt x W' ∧ ∀ i, i < w.heap.size → W'.heap[i]? = W.heap[i]? := by
  have hta := assert_mwrong x
  have hb1 := below_alloc (Below.refl _ W) (.cells #[.int .i64 x] 120)
  have h2 := h.stepB hb hb1
  have hW : w.heap.size + 2 < W.heap.size := blk_lt h.eb
  have c0 := (blk_cell h2.ob 0).trans rfl
  have c1 := (blk_cell h2.ob 1).trans rfl
  have c2 := (blk_cell h2.ob 2).trans rfl
  have c3 := (blk_cell h2.eb 0).trans rfl
  have f0 := blk_frozen h2.ob 0
  have f1 := blk_frozen h2.ob 1
  have f2 := blk_frozen h2.ob 2
  have f3 := blk_frozen h2.eb 0
  have H2 := Aside0.mk ((h2.putO zSt).putE x)
  have HI : Aside0 (∀ i, i < w.heap.size → ((((W.alloc (.cells #[.int .i64 x] 120)).setCell ⟨w.heap.size + 1, 0, none⟩ (.int .i64 zSt.lo)).setCell ⟨w.heap.size + 1, 1, none⟩ (.int .i64 zSt.size)).setCell ⟨w.heap.size + 1, 2, none⟩ (.int .i64 zSt.sp) |>.setCell ⟨w.heap.size + 2, 0, none⟩ (.int .i64 x)).heap[i]? = W.heap[i]?) := ⟨fun i hi => by
    rw [Below.heap_setCell _ _ _ _ (by simp; omega), Below.heap_setCell _ _ _ _ (by simp; omega), Below.heap_setCell _ _ _ _ (by simp; omega), Below.heap_setCell _ _ _ _ (by simp; omega)]
    exact hb1.block i (by omega)⟩
  clear h h2 hb1
  refine callsD_of_wpS Tryd.func61 rfl fun c₀ cs hu => ?_
  simp only [Tryd.ntmps61, List.size_toArray, List.length_cons, List.length_nil, Nat.reduceAdd, Nat.reduceSub, Array.replicate_succ, Array.replicate_zero, List.push_toArray, List.append_toArray, List.nil_append, List.cons_append]
  simp only [MWrong] at hu
  apply wpS_seq
  apply wpS_region
  simp [wpOpsS, go_sem, recoverD, hu, Exit.thenS]
  clear hu
  refine wpS_of_wp ?_
  generalize hcss : ({ c₀ with mode := _ } :: cs : List Frame) = css
  have HCS := Aside0.mk hcss
  clear hcss
  go_wp2
  go_region
  go_wp2
  have h := HCS.out
  subst h
  simp [bodyPostS, results, Tryd.results61]
  exact ⟨H2.out.drew, HI.out⟩
/-- What To comes to. -/
def ToPost (a b : Nat) (ws' : List Int) (o : St) (x : Int) (w : World) (e : Ending) (w' : World) : Prop := e = .returned (.tuple #[.agg #[.int .i64 o.lo, .int .i64 o.size, .int .i64 o.sp], .int .i64 x]) ∧ IsArena w' a b ws' ∧ w.grownBy w' (some b)
theorem to_results (w : World) (b : Nat) (s o : St) (x : Int) (W : World) (h : ToW w b s o x W) (tmps : Array Value) (h10 : tmps[10]?.getD undef = .pointer (some ⟨w.heap.size + 1, 0, none⟩)) (h11 : tmps[11]?.getD undef = .pointer (some ⟨w.heap.size + 2, 0, none⟩)) :
    (results Tryd.f21 tmps).run Tryd.prog W = .ok (.tuple #[.agg #[.int .i64 o.lo, .int .i64 o.size, .int .i64 o.sp], .int .i64 x]) W := by
  have hv := run_loadVar_row (P := Tryd.prog) W (w.heap.size + 1) 44 44 _ _ _ h.ob Tryd.underlying44 rfl (by kernel_rfl)
  have hc : W.cell? ⟨w.heap.size + 2, 0, none⟩ = some (.int .i64 x) := (blk_cell h.eb 0).trans rfl
  unfold results
  rw [Tryd.results21]
  have hv2 : (loadVar 31 ⟨w.heap.size + 2, 0, none⟩).run Tryd.prog W = .ok (.int .i64 x) W := by simp [go_sem, hc]
  simp [h10, h11, asAddr, hv, hv2]
theorem to_wrong (w : World) (a b : Nat) (ws : List Int) (s o : St) (y x : Int) (W : World) (h : ToW w b s o y W) (hA : IsArena W a b ws) (ha : a < w.heap.size) (hb : b < w.heap.size) (tmps : Array Value) (h10 : tmps[10]?.getD undef = .pointer (some ⟨w.heap.size + 1, 0, none⟩)) (h11 : tmps[11]?.getD undef = .pointer (some ⟨w.heap.size + 2, 0, none⟩)) :
    Leaves Tryd.prog Tryd.f21 tmps (ToPost a b ws zSt x w) (toDefers w.heap.size) (.panicking (MWrong x)) W := by
  unfold toDefers
  refine leaves_cons (f := 61) (args := #[.pointer (some ⟨w.heap.size + 1, 0, none⟩), .pointer (some ⟨w.heap.size + 2, 0, none⟩)]) (by simp) (by simp [go_sem]) ?_
  refine (to1_wrong w b s o y x W h hb).mono ?_
  rintro e u' w2 ⟨rfl, rfl, h2, hi⟩
  show Leaves _ _ _ _ _ .returning _
  exact ⟨_, to_results w b s zSt x w2 h2 tmps h10 h11, rfl, ⟨by rw [hi a ha]; exact hA.ptr, by rw [hi b hb]; exact hA.row, hA.len, hA.all⟩, h2.grown⟩
theorem to_fine (w : World) (a b : Nat) (ws : List Int) (s o : St) (W : World) (h : ToW w b s o 0 W) (hA : IsArena W a b ws) (tmps : Array Value) (h10 : tmps[10]?.getD undef = .pointer (some ⟨w.heap.size + 1, 0, none⟩)) (h11 : tmps[11]?.getD undef = .pointer (some ⟨w.heap.size + 2, 0, none⟩)) :
    Leaves Tryd.prog Tryd.f21 tmps (ToPost a b ws o 0 w) (toDefers w.heap.size) .returning W := by
  unfold toDefers
  refine leaves_cons (f := 61) (args := #[.pointer (some ⟨w.heap.size + 1, 0, none⟩), .pointer (some ⟨w.heap.size + 2, 0, none⟩)]) (by simp) (by simp [go_sem]) ?_
  refine (to1_idle _ _ W).mono ?_
  rintro e u' w2 ⟨rfl, rfl, rfl⟩
  show Leaves _ _ _ _ _ .returning _
  exact ⟨_, to_results w b s o 0 W h tmps h10 h11, rfl, hA, h.grown⟩
/-! ### What To comes to, in plain words -/
def endS (lo size : Int) : St := ⟨lo, size, lo⟩
def toE (ws : List Int) (t : List Ent) (s : St) (lo size : Int) : Int :=
  if mayS ws.length s = true ∧ mayS ws.length (endS lo size) = true then
    if framesE ws t s = 0 then
      if allE ws t (framesL ws t s) = 0 then
        if usedS s ≤ size ∧ apartB s (endS lo size) = true then 0 else 2
      else 9
    else 9
  else 1
def toBy (s : St) (lo size : Int) : Int := lo + size - s.lo - s.size
def toS (ws : List Int) (t : List Ent) (s : St) (lo size : Int) : St := if toE ws t s lo size = 0 then ⟨lo, size, lo + size - usedS s⟩ else zSt
/-- The words behind the raising of frames. -/
def upL (t : List Ent) (by_ : Int) (ws : List Int) (l : List Fm) : List Int := l.foldl (fun W x => frameW W t by_ x (tPtrs t x.fn).length) ws
def toWs (ws : List Int) (t : List Ent) (s : St) (lo size : Int) : List Int :=
  if toE ws t s lo size = 0 then upL t (toBy s lo size) (moveW ws (lo + size - usedS s) s.sp (usedS s)) (framesL ws t s) else ws
theorem walkL_mem {ws : List Int} {t : List Ent} {hi : Int} (ht : ∀ f, tHas t f = true → 0 ≤ tSize t f) : ∀ (n : Nat) (at_ : Int) (l : List Fm), (hi - at_).toNat ≤ n → walkL ws t hi at_ = some l → ∀ x ∈ l, at_ ≤ x.at_ ∧ x.at_ + 2 ≤ hi ∧ x.at_ + tWords t x.fn ≤ hi ∧ tHas t x.fn = true := by
  intro n
  induction n with
  | zero =>
    intro at_ l hn h
    rw [walkL_end (by omega)] at h
    injection h with h
    subst h
    intro x hx
    cases hx
  | succ n ih =>
    intro at_ l hn h
    by_cases hlt : at_ < hi
    · by_cases hx : nextB ws t hi at_ = true
      · have he := next_end ht hx
        rw [walkL_step ht hlt hx] at h
        obtain ⟨r, hr, rfl⟩ := Option.map_eq_some_iff.1 h
        have hi2 := ih _ r (by omega) hr
        have hr0 : readE ws t at_ = 0 := by
          unfold nextB at hx
          simp only [Bool.and_eq_true, decide_eq_true_eq] at hx
          exact hx.1
        obtain ⟨e, _, h2⟩ := readF_at hr0
        obtain ⟨o1, o2, _, _⟩ := frOk_iff.1 h2
        have hh : tHas t (readF ws t at_).fn = true := by rw [e]; unfold tHas; simp; omega
        have hat : (readF ws t at_).at_ = at_ := by rw [e]
        have hen : endF t (readF ws t at_) = at_ + tWords t (readF ws t at_).fn := by
          unfold endF
          have := ht _ hh
          rw [words_size, if_pos hh, if_neg (by omega), hat]
        intro y hy
        rcases List.mem_cons.1 hy with rfl | hy
        · exact ⟨by omega, by omega, by omega, hh⟩
        · obtain ⟨g1, g2, g3, g4⟩ := hi2 y hy
          exact ⟨by omega, g2, g3, g4⟩
      · rw [walkL_no hlt (by simpa using hx)] at h
        cases h
    · rw [walkL_end hlt] at h
      injection h with h
      subst h
      intro x hx
      cases hx
end Go.Proofs.YtfaghjadjpiaiaaDoor.Sh
