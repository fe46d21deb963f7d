/- Values and frames; contracts of slots.may, slots.May, of model's has, ptr, must. Contracts of slots.May and of package model: must, row.has, row.ptr. Contracts of package model: row.has, row.ptr, row.fits. Contracts of model's caught, as a deferred call. -/
import Derived.Test.YtfaghjadjpiaiaaDoorY2
import Derived.Test.YtfaghjadjpiaiaaDoorWEqStruct
namespace Go.Proofs.YtfaghjadjpiaiaaDoor.Sh
open Go.RowKit Go.Shelf Go.Proofs.YtfaghjadjpiaiaaDoorW.PrintWords Go.Proofs.YtfaghjadjpiaiaaDoorW.PrintLast Go.Proofs.YtfaghjadjpiaiaaDoorW.PrintMore
set_option linter.unusedVariables false
set_option linter.unusedSimpArgs false
/-- A value: its kind, bits, depth, slot. -/
structure Vl where
  k : Int
  b : Int
  d : Int
  s : Int
def Vl.cells (v : Vl) : List Value := [.int .u8 v.k, .int .u64 v.b, .int .i64 v.d, .int .i64 v.s]
def Vl.val (v : Vl) : Value := .agg #[.int .u8 v.k, .int .u64 v.b, .int .i64 v.d, .int .i64 v.s]
def kVl : Kd Vl := Kd.iso (Kd.pair (Kd.int .u8) (Kd.pair (Kd.int .u64) (Kd.pair (Kd.int .i64) (Kd.int .i64)))) (fun x : Vl => (x.k, x.b, x.d, x.s))
theorem kVl_open {w : World} {x : Vl} {cs : List Value} (h : kVl.K w x cs) : cs = x.cells := by
  obtain ⟨_, _, rfl, rfl, ⟨_, _, rfl, rfl, ⟨_, _, rfl, rfl, rfl⟩⟩⟩ := h
  exact rfl
theorem kVl_openM {w : World} {base : Nat} {ok : Nat → Prop} {x : Vl} {cs : List Value} (h : kVl.M w base ok x cs) : cs = x.cells := by
  obtain ⟨_, _, rfl, rfl, ⟨_, _, rfl, rfl, ⟨_, _, rfl, rfl, rfl⟩⟩⟩ := h
  exact rfl
theorem kVl_mk (w : World) (x : Vl) : kVl.K w x x.cells := ⟨[.int .u8 x.k], [.int .u64 x.b, .int .i64 x.d, .int .i64 x.s], rfl, rfl, ⟨[.int .u64 x.b], [.int .i64 x.d, .int .i64 x.s], rfl, rfl, ⟨[.int .i64 x.d], [.int .i64 x.s], rfl, rfl, rfl⟩⟩⟩
theorem kVl_mkM (w : World) (base : Nat) (ok : Nat → Prop) (x : Vl) : kVl.M w base ok x x.cells := ⟨[.int .u8 x.k], [.int .u64 x.b, .int .i64 x.d, .int .i64 x.s], rfl, rfl, ⟨[.int .u64 x.b], [.int .i64 x.d, .int .i64 x.s], rfl, rfl, ⟨[.int .i64 x.d], [.int .i64 x.s], rfl, rfl, rfl⟩⟩⟩
/-- A frame: its function, its slots. -/
structure Fr where
  f : Int
  l : List Vl
def kFr : Kd Fr := Kd.iso (Kd.pair (Kd.int .i64) (Kd.slice 26 kVl)) (fun x : Fr => (x.f, x.l))
theorem kFr_open {w : World} {x : Fr} {cs : List Value} (h : kFr.K w x cs) : ∃ A1 c1, cs = [.int .i64 x.f, .slice A1 x.l.length c1] ∧ x.l.length ≤ c1 ∧ kVl.C w A1 x.l.length x.l := by
  obtain ⟨_, _, rfl, rfl, ⟨A1, c1, rfl, l1, g1⟩⟩ := h
  exact ⟨A1, c1, rfl, l1, g1⟩
def zVl : Vl := ⟨0, 0, 0, 0⟩
def zFr : Fr := ⟨0, []⟩
def vl (l : List Vl) (i : Int) : Vl := l.getD i.toNat zVl
def fr (l : List Fr) (i : Int) : Fr := l.getD i.toNat zFr
theorem vl_mem {l : List Vl} {i : Int} (h0 : 0 ≤ i) (h1 : i < l.length) : vl l i ∈ l := by
  have hl : i.toNat < l.length := by omega
  have he : vl l i = l[i.toNat] := by simp [vl, List.getElem?_eq_getElem hl]
  rw [he]; exact List.getElem_mem _
theorem fr_mem {l : List Fr} {i : Int} (h0 : 0 ≤ i) (h1 : i < l.length) : fr l i ∈ l := by
  have hl : i.toNat < l.length := by omega
  have he : fr l i = l[i.toNat] := by simp [fr, List.getElem?_eq_getElem hl]
  rw [he]; exact List.getElem_mem _
/-- The cells of a value at an address. -/
def VlAt (w : World) (a : Addr) (v : Vl) : Prop := w.cell? a = some (.int .u8 v.k) ∧ w.cell? ⟨a.block, a.off + 1, none⟩ = some (.int .u64 v.b) ∧ w.cell? ⟨a.block, a.off + 2, none⟩ = some (.int .i64 v.d) ∧ w.cell? ⟨a.block, a.off + 3, none⟩ = some (.int .i64 v.s)
theorem at_Vl {w : World} {A : Option Addr} {n : Nat} {xs : List Vl} (h : Kd.C kVl w A n xs) (i : Int) (h0 : 0 ≤ i) (h1 : i < n) : ∃ ad, A = some ad ∧ w.cell? (ad.add (i.toNat * 4)) = some (.int .u8 (vl xs i).k) ∧ w.cell? ⟨(ad.add (i.toNat * 4)).block, (ad.add (i.toNat * 4)).off + 1, none⟩ = some (.int .u64 (vl xs i).b) ∧ w.cell? ⟨(ad.add (i.toNat * 4)).block, (ad.add (i.toNat * 4)).off + 2, none⟩ = some (.int .i64 (vl xs i).d) ∧ w.cell? ⟨(ad.add (i.toNat * 4)).block, (ad.add (i.toNat * 4)).off + 3, none⟩ = some (.int .i64 (vl xs i).s) := by
  obtain ⟨ad, e, hc⟩ := h.2.2 (by omega)
  have hl : i.toNat < xs.length := by have := h.1; omega
  obtain ⟨c, hs, hr, hcell⟩ := hc i.toNat _ (List.getElem?_eq_getElem hl)
  have he : vl xs i = xs[i.toNat] := by simp [vl, List.getElem?_eq_getElem hl]
  rw [he]
  obtain rfl := kVl_open hr
  exact ⟨ad, e, hcell 0 _ rfl, by have := hcell 1 _ rfl; rw [← add_field _ _ 1 (by omega)]; exact this, by have := hcell 2 _ rfl; rw [← add_field _ _ 2 (by omega)]; exact this, by have := hcell 3 _ rfl; rw [← add_field _ _ 3 (by omega)]; exact this⟩
theorem at_Fr {w : World} {A : Option Addr} {n : Nat} {xs : List Fr} (h : Kd.C kFr w A n xs) (i : Int) (h0 : 0 ≤ i) (h1 : i < n) : ∃ ad A1 c1, A = some ad ∧ w.cell? (ad.add (i.toNat * 2)) = some (.int .i64 (fr xs i).f) ∧ w.cell? ⟨(ad.add (i.toNat * 2)).block, (ad.add (i.toNat * 2)).off + 1, none⟩ = some (.slice A1 (fr xs i).l.length c1) ∧ (fr xs i).l.length ≤ c1 ∧ kVl.C w A1 (fr xs i).l.length (fr xs i).l := by
  obtain ⟨ad, e, hc⟩ := h.2.2 (by omega)
  have hl : i.toNat < xs.length := by have := h.1; omega
  obtain ⟨c, hs, hr, hcell⟩ := hc i.toNat _ (List.getElem?_eq_getElem hl)
  have he : fr xs i = xs[i.toNat] := by simp [fr, List.getElem?_eq_getElem hl]
  rw [he]
  obtain ⟨A1, c1, rfl, l1, g1⟩ := kFr_open hr
  exact ⟨ad, A1, c1, e, hcell 0 _ rfl, by have := hcell 1 _ rfl; rw [← add_field _ _ 1 (by omega)]; exact this, l1, g1⟩
theorem eqVl (d : Nat) (w : World) (x0 y0 : Int) (x1 y1 : Int) (x2 y2 : Int) (x3 y3 : Int) :
    (Op.equalIn (d + 2) 26 (.agg #[.int .u8 x0, .int .u64 x1, .int .i64 x2, .int .i64 x3]) (.agg #[.int .u8 y0, .int .u64 y1, .int .i64 y2, .int .i64 y3])).run Tryd.prog w = .ok (x0 == y0 && (x1 == y1 && (x2 == y2 && (x3 == y3)))) w := by
  refine eqA_of Tryd.underlying26 (by kernel_rfl) ?_
  refine eqf_cons (by rfl) (by go_simp; rfl) (by go_simp; rfl) (by go_simp) ?_
  refine eqf_cons (by rfl) (by go_simp; rfl) (by go_simp; rfl) (by go_simp) ?_
  refine eqf_cons (by rfl) (by go_simp; rfl) (by go_simp; rfl) (by go_simp) ?_
  exact eqf_last (by rfl) (by go_simp; rfl) (by go_simp; rfl) (by go_simp)
attribute [local go_sem high] eqVl
/-- May a value be? -/
def mayV (v : Vl) : Bool :=
  if v.k = 0 then v.b == 0 && (v.d == 0 && v.s == 0) else if v.k = 1 then v.d == 0 && v.s == 0 else if v.k = 2 then v.b == 0 && (decide (0 ≤ v.d) && decide (0 ≤ v.s)) else false
set_option maxRecDepth 100000 in
theorem mayV_calls (v : Vl) (w : World) :
    Calls Tryd.prog 157 #[.agg #[.int .u8 v.k, .int .u64 v.b, .int .i64 v.d, .int .i64 v.s]] w fun e w' => e = .returned (.bool (mayV v)) ∧ Below w.heap.size w w' := by
  have hu := Tryd.underlying26
  obtain ⟨k, b, d, s⟩ := v
  by_cases h0 : k = 0
  · subst h0
    go_enter Tryd.func157, Tryd.ntmps157
    go_wp2
    go_ret
    exact ⟨by simp [mayV], below_alloc (Below.refl _ _) _⟩
  · by_cases h1 : k = 1
    · subst h1
      go_enter Tryd.func157, Tryd.ntmps157
      go_wp2
      go_ret
      exact ⟨by simp [mayV], below_alloc (Below.refl _ _) _⟩
    · have q0 : (k == 0) = false := by simpa using h0
      have q1 : (k == 1) = false := by simpa using h1
      by_cases h2 : k = 2
      · subst h2
        clear q0 q1 h0 h1
        by_cases hb : b = 0
        · have hbb : (b == 0) = true := by simpa using hb
          by_cases hd : 0 ≤ d
          · by_cases hs : 0 ≤ s
            · go_enter Tryd.func157, Tryd.ntmps157
              go_wp2
              go_ret
              exact ⟨by simp [mayV, hb, hd, hs], below_alloc (Below.refl _ _) _⟩
            · go_enter Tryd.func157, Tryd.ntmps157
              go_wp2
              go_ret
              exact ⟨by simp [mayV, hb, hd, show ¬ 0 ≤ s by omega], below_alloc (Below.refl _ _) _⟩
          · go_enter Tryd.func157, Tryd.ntmps157
            go_wp2
            go_ret
            exact ⟨by simp [mayV, hb, show ¬ 0 ≤ d by omega], below_alloc (Below.refl _ _) _⟩
        · have hbb : (b == 0) = false := by simpa using hb
          go_enter Tryd.func157, Tryd.ntmps157
          go_wp2
          go_ret
          exact ⟨by simp [mayV, hb], below_alloc (Below.refl _ _) _⟩
      · have q2 : (k == 2) = false := by simpa using h2
        have HV := Aside0.mk (show mayV ⟨k, b, d, s⟩ = false by simp [mayV, h0, h1, h2])
        clear h0 h1 h2
        go_enter Tryd.func157, Tryd.ntmps157
        go_wp2
        go_ret
        exact ⟨by rw [HV.out]; rfl, below_alloc (Below.refl _ _) _⟩
end Go.Proofs.YtfaghjadjpiaiaaDoor.Sh
namespace Go.Proofs.YtfaghjadjpiaiaaDoor.Sh
open Go.RowKit Go.Shelf Go.Proofs.YtfaghjadjpiaiaaDoorW.PrintWords Go.Proofs.YtfaghjadjpiaiaaDoorW.PrintLast Go.Proofs.YtfaghjadjpiaiaaDoorW.PrintMore
set_option linter.unusedVariables false
set_option linter.unusedSimpArgs false
theorem mayV1_calls (v : Vl) (w : World) :
    Calls Tryd.prog 156 #[.agg #[.int .u8 v.k, .int .u64 v.b, .int .i64 v.d, .int .i64 v.s]] w fun e w' => e = .returned (.bool (!mayV v)) ∧ Below w.heap.size w w' := by
  have HB0 : Aside0 (Below w.heap.size w (w.alloc (.cells #[.int .u8 v.k, .int .u64 v.b, .int .i64 v.d, .int .i64 v.s] 26))) := ⟨below_alloc (Below.refl _ _) _⟩
  have HC := Aside0.mk (mayV_calls v (w.alloc (.cells #[.int .u8 v.k, .int .u64 v.b, .int .i64 v.d, .int .i64 v.s] 26)))
  go_enter Tryd.func156, Tryd.ntmps156
  go_wp2_with (go_at_call 157; refine HC.out.mono ?_; rintro e w' ⟨rfl, hb⟩; have HB1 := Aside0.mk (below_then HB0.out HB0.out.size hb); clear hb)
  go_ret
  exact ⟨rfl, HB1.out⟩
set_option maxRecDepth 100000 in
theorem idx_Vl (A : Option Addr) (c : Nat) (xs : List Vl) (g : Nat) (p : Vl → Bool) (w : World) (hr : kVl.C w A xs.length xs) (hl : xs.length ≤ c) (hm : xs.length ≤ 9223372036854775807)
    (heg : ∀ (args : Array Value) (W : World), (callFunc g args).run Tryd.prog W = .ok (.enter g args) W)
    (hcall : ∀ W x, x ∈ xs → Below w.heap.size w W → Calls Tryd.prog g #[.agg #[.int .u8 x.k, .int .u64 x.b, .int .i64 x.d, .int .i64 x.s]] W fun e W' => e = .returned (.bool (p x)) ∧ Below W.heap.size W W') :
    Calls Tryd.prog 174 #[.slice A xs.length c, .func (.func g) #[] #[]] w fun e w' => ∃ r : Int, e = .returned (.int .i64 r) ∧ decide (0 ≤ r) = xs.any p ∧ Below w.heap.size w w' := by
  have HR := Aside0.mk hr
  have HCALL := Aside0.mk hcall
  clear hr hcall
  go_enter Tryd.func174, Tryd.ntmps174
  go_wp2
  go_loopw [5, 8, 16] (fun _ i _ wr => ∃ k : Nat, k ≤ xs.length ∧ i = .int .i64 k ∧ Aside0 ((xs.take k).any p = false) ∧ Aside0 (Below w.heap.size w wr)) (fun _ i _ _ => xs.length - (intOf i).toNat)
  case atStart => exact ⟨0, Nat.zero_le _, rfl, ⟨by simp⟩, ⟨Below.refl _ _⟩⟩
  case round =>
    obtain ⟨k, hk, rfl, HN, HB⟩ := hrel
    by_cases hlt : k < xs.length
    · obtain ⟨ad, rfl, hc0, hc1, hc2, hc3⟩ := at_Vl (Kd.C_below HR.out HB.out) (k : Int) (by omega) (by omega)
      have hmem := vl_mem (l := xs) (i := (k : Int)) (by omega) (by omega)
      simp only [Int.toNat_natCast] at hc0 hc1 hc2 hc3
      have hx : xs[k]? = some (vl xs k) := by simp [vl, List.getElem?_eq_getElem hlt]
      obtain ⟨x, hxx⟩ : ∃ x, x = vl xs k := ⟨_, rfl⟩
      rw [← hxx] at hc0 hc1 hc2 hc3 hmem hx
      clear hxx
      have HT := Aside0.mk (p := (xs.take (k + 1)).any p = ((xs.take k).any p || p x)) (by rw [take_get hx, List.any_append]; simp)
      have HAny := Aside0.mk (p := p x = true → xs.any p = true) (fun h => List.any_eq_true.2 ⟨_, hmem, h⟩)
      have HC := Aside0.mk (HCALL.out wr x hmem HB.out)
      clear hx hmem
      cases hp : p x
      · have HP := Aside0.mk hp
        clear hp
        go_wp2_with (refine HC.out.mono ?_; rw [HP.out]; rintro e w' ⟨rfl, hb⟩; have HB2 := Aside0.mk (below_then HB.out HB.out.size hb); clear hb)
        go_roundw
        case rel => exact ⟨k + 1, by omega, by go_num, ⟨by rw [HT.out, HN.out, HP.out]; rfl⟩, HB2⟩
        case measure => simp [intOf]; omega
      · have HP := Aside0.mk hp
        clear hp
        go_wp2_with (refine HC.out.mono ?_; rw [HP.out]; rintro e w' ⟨rfl, hb⟩; have HB2 := Aside0.mk (below_then HB.out HB.out.size hb); clear hb)
        go_ret
        exact ⟨k, rfl, by rw [HAny.out HP.out]; simp, HB2.out⟩
    · go_wp2_with fail
      go_ret
      exact ⟨-1, rfl, by have := HN.out; rw [List.take_of_length_le (by omega)] at this; rw [this]; rfl, HB.out⟩
theorem cont_Vl (A : Option Addr) (c : Nat) (xs : List Vl) (g : Nat) (p : Vl → Bool) (w : World) (hr : kVl.C w A xs.length xs) (hl : xs.length ≤ c) (hm : xs.length ≤ 9223372036854775807)
    (heg : ∀ (args : Array Value) (W : World), (callFunc g args).run Tryd.prog W = .ok (.enter g args) W)
    (hcall : ∀ W x, x ∈ xs → Below w.heap.size w W → Calls Tryd.prog g #[.agg #[.int .u8 x.k, .int .u64 x.b, .int .i64 x.d, .int .i64 x.s]] W fun e W' => e = .returned (.bool (p x)) ∧ Below W.heap.size W W') :
    Calls Tryd.prog 155 #[.slice A xs.length c, .func (.func g) #[] #[]] w fun e w' => e = .returned (.bool (xs.any p)) ∧ Below w.heap.size w w' := by
  have HI := Aside0.mk (idx_Vl A c xs g p w hr hl hm heg hcall)
  clear hr hcall heg
  go_enter Tryd.func155, Tryd.ntmps155
  go_wp2_with (go_at_call 174; refine HI.out.mono ?_; rintro e w' ⟨r, rfl, hd, hb⟩; have HD := Aside0.mk hd; clear hd; have HB := Aside0.mk hb; clear hb)
  go_ret
  exact ⟨by rw [← HD.out]; rfl, HB.out⟩
theorem MayV_calls (A : Option Addr) (c : Nat) (xs : List Vl) (w : World) (hr : kVl.C w A xs.length xs) (hl : xs.length ≤ c) :
    Calls Tryd.prog 136 #[.slice A xs.length c] w fun e w' => e = .returned (.bool (!(xs.any fun v => !mayV v))) ∧ Below w.heap.size w w' := by
  have HI := Aside0.mk (cont_Vl A c xs 156 (fun f => !mayV f) w hr hl hr.2.1 (enters_of Tryd.func156 (by kernel_rfl) rfl) (fun W x hx hB => mayV1_calls x W))
  clear hr
  go_enter Tryd.func136, Tryd.ntmps136
  go_wp2_with (go_at_call 155; refine HI.out.mono ?_; rintro e w' ⟨rfl, hb⟩; have HB := Aside0.mk hb; clear hb)
  go_ret
  exact ⟨rfl, HB.out⟩
/-! ### must -/
def Wrong (x : Int) : List PanicEntry := [{ v := .iface 188 (.agg #[.int .i64 x]), recovered := false }]
theorem must_ok (x : Int) (w : World) :
    Calls Tryd.prog 88 #[.bool true, .int .i64 x] w fun e w' => e = .returned (.tuple #[]) ∧ w = w' := by
  go_enter Tryd.func88, Tryd.ntmps88
  go_wp2
  go_end0
  exact ⟨rfl, rfl⟩
theorem must_no (x : Int) (w : World) :
    Calls Tryd.prog 88 #[.bool false, .int .i64 x] w fun e w' => e = .panicked (Wrong x) ∧ w = w' := by
  go_enter Tryd.func88, Tryd.ntmps88
  go_wp2
  trace_state
  exact ⟨rfl, rfl, rfl⟩
end Go.Proofs.YtfaghjadjpiaiaaDoor.Sh
namespace Go.Proofs.YtfaghjadjpiaiaaDoor.Sh
open Go.RowKit Go.Shelf Go.Proofs.YtfaghjadjpiaiaaDoorW.PrintWords Go.Proofs.YtfaghjadjpiaiaaDoorW.PrintLast Go.Proofs.YtfaghjadjpiaiaaDoorW.PrintMore
set_option linter.unusedVariables false
set_option linter.unusedSimpArgs false
/-- Is there a slot? -/
def hasS (l : List Fr) (d s : Int) : Bool := decide (0 ≤ d) && (decide (d < l.length) && (decide (0 ≤ s) && decide (s < (fr l d).l.length)))
/-- What a row of model is: a table's struct and frames. -/
structure IsRow (w : World) (a : Nat) (t : List Ent) (A : Option Addr) (c : Nat) (l : List Fr) : Prop where
  tab : IsTab w a t
  bits : AllE t
  rows : kFr.C w A l.length l
  cap : l.length ≤ c
theorem IsRow.below {w w1 : World} {a : Nat} {t : List Ent} {A : Option Addr} {c : Nat} {l : List Fr} (h : IsRow w a t A c l) (hb : Below w.heap.size w w1) : IsRow w1 a t A c l := ⟨h.tab.below hb, h.bits, Kd.C_below h.rows hb, h.cap⟩
set_option maxRecDepth 100000 in
theorem rhas_calls (a : Nat) (t : List Ent) (A : Option Addr) (c : Nat) (l : List Fr) (d s : Int) (w : World) (h : IsRow w a t A c l) :
    Calls Tryd.prog 95 #[.agg #[.pointer (some ⟨a, 0, none⟩), .slice A l.length c], .int .i64 d, .int .i64 s] w fun e w' => e = .returned (.bool (hasS l d s)) ∧ Below w.heap.size w w' := by
  have HR := Aside0.mk h
  clear h
  by_cases h0 : 0 ≤ d
  · by_cases h1 : d < l.length
    · by_cases h2 : 0 ≤ s
      · have hb : Below w.heap.size w (w.alloc (.cells #[.pointer (some ⟨a, 0, none⟩), .slice A l.length c] 148)) := below_alloc (Below.refl _ _) _
        obtain ⟨ad, A1, c1, rfl, g0, g1, _⟩ := at_Fr (Kd.C_below HR.out.rows hb) d h0 h1
        have hh : hasS l d s = decide (s < (fr l d).l.length) := by
          unfold hasS; rw [decide_eq_true h0, decide_eq_true h1, decide_eq_true h2]; simp
        have HS := Aside0.mk hh
        clear hh hb
        go_enter Tryd.func95, Tryd.ntmps95
        go_wp2
        go_ret
        exact ⟨by rw [HS.out]; rfl, below_alloc (Below.refl _ _) _⟩
      · have HS := Aside0.mk (show hasS l d s = false by unfold hasS; rw [decide_eq_false h2]; simp)
        go_enter Tryd.func95, Tryd.ntmps95
        go_wp2
        go_ret
        exact ⟨by rw [HS.out]; rfl, below_alloc (Below.refl _ _) _⟩
    · have HS := Aside0.mk (show hasS l d s = false by unfold hasS; rw [decide_eq_false h1]; simp)
      go_enter Tryd.func95, Tryd.ntmps95
      go_wp2
      go_ret
      exact ⟨by rw [HS.out]; rfl, below_alloc (Below.refl _ _) _⟩
  · have HS := Aside0.mk (show hasS l d s = false by unfold hasS; rw [decide_eq_false h0]; simp)
    go_enter Tryd.func95, Tryd.ntmps95
    go_wp2
    go_ret
    exact ⟨by rw [HS.out]; rfl, below_alloc (Below.refl _ _) _⟩
set_option maxRecDepth 100000 in
theorem rptr_calls (a : Nat) (t : List Ent) (A : Option Addr) (c : Nat) (l : List Fr) (d s : Int) (w : World) (h : IsRow w a t A c l) (h0 : 0 ≤ d) (h1 : d < l.length) (hs : I64 s) :
    Calls Tryd.prog 102 #[.agg #[.pointer (some ⟨a, 0, none⟩), .slice A l.length c], .int .i64 d, .int .i64 s] w fun e w' => e = .returned (.bool (tPtr t (fr l d).f s)) ∧ Below w.heap.size w w' := by
  have hb : Below w.heap.size w (w.alloc (.cells #[.pointer (some ⟨a, 0, none⟩), .slice A l.length c] 148)) := below_alloc (Below.refl _ _) _
  obtain ⟨ad, A1, c1, rfl, g0, _⟩ := at_Fr (Kd.C_below h.rows hb) d h0 h1
  have HP := Aside0.mk (ptr_calls a t (fr l d).f s (w.alloc (.cells #[.pointer (some ⟨a, 0, none⟩), .slice (some ad) l.length c] 148)).drew ((h.tab.below hb).below (below_drew (Below.refl _ _))) h.bits hs)
  have HB := Aside0.mk hb
  clear h hb hs
  go_enter Tryd.func102, Tryd.ntmps102
  go_wp2_with fail
  have q0 : (w.alloc (.cells #[.pointer (some ⟨a, 0, none⟩), .slice (some ad) l.length c] 148)).cell? ⟨w.heap.size, 0, none⟩ = some (.pointer (some ⟨a, 0, none⟩)) := (blk_cell (heap_alloc_new w _) 0).trans rfl
  have q1 : (w.alloc (.cells #[.pointer (some ⟨a, 0, none⟩), .slice (some ad) l.length c] 148)).cell? ⟨w.heap.size, 1, none⟩ = some (.slice (some ad) l.length c) := (blk_cell (heap_alloc_new w _) 1).trans rfl
  refine start_ (n := 11) (S := fun w' => w'.cell? ⟨w.heap.size, 0, none⟩ = some (.pointer (some ⟨a, 0, none⟩)) ∧ w'.cell? ⟨w.heap.size, 1, none⟩ = some (.slice (some ad) l.length c) ∧ w'.cell? (ad.add (d.toNat * 2)) = some (.int .i64 (fr l d).f)) (ds := []) #[false, false, false, false, false, false, false, false, false, false, false] (by kernel_rfl) rfl rfl ⟨q0, q1, g0⟩ (fun hHeld => ?_)
  refine pure_ (i := 0) (N := some 7) (v := ?_) (a' := ?_) #[true, false, false, false, false, false, false, false, false, false, false] rfl rfl (by kernel_rfl) (fun _ _ _ h => h) (Or.inl ⟨by rfl, ?_⟩) ?_ ?_
  rotate_left
  · intro w'
    go_simp
    with_reducible rfl
  rotate_left
  · simp only [Act.put, List.setIfInBounds_toArray, List.set_cons_zero, List.set_cons_succ, i64_w, i32_w]
    rfl
  refine pure_ (i := 2) (N := some 9) (v := ?_) (a' := ?_) #[true, false, true, false, false, false, false, false, false, false, false] rfl rfl (by kernel_rfl) (fun _ _ _ h => h) (Or.inl ⟨by rfl, ?_⟩) ?_ ?_
  rotate_left
  · intro w'
    go_simp
    with_reducible rfl
  rotate_left
  · simp only [Act.put, List.setIfInBounds_toArray, List.set_cons_zero, List.set_cons_succ, i64_w, i32_w]
    rfl
  refine pure_ (i := 4) (N := some 11) (v := ?_) (a' := ?_) #[true, false, true, false, true, false, false, false, false, false, false] rfl rfl (by kernel_rfl) (fun _ _ _ h => h) (Or.inl ⟨by rfl, ?_⟩) ?_ ?_
  rotate_left
  · intro w'
    go_simp
    with_reducible rfl
  rotate_left
  · simp only [Act.put, List.setIfInBounds_toArray, List.set_cons_zero, List.set_cons_succ, i64_w, i32_w]
    rfl
  refine pure_ (i := 8) (N := some 15) (v := ?_) (a' := ?_) #[true, false, true, false, true, false, false, false, true, false, false] rfl rfl (by kernel_rfl) (fun _ _ _ h => h) (Or.inl ⟨by rfl, ?_⟩) ?_ ?_
  rotate_left
  · intro w'
    go_simp
    with_reducible rfl
  rotate_left
  · simp only [Act.put, List.setIfInBounds_toArray, List.set_cons_zero, List.set_cons_succ, i64_w, i32_w]
    rfl
  refine take_ (i := 1) (N := some 8) (v := ?_) (a' := ?_) #[true, true, true, false, true, false, false, false, true, false, false] rfl rfl (by kernel_rfl) (fun _ _ _ h => h) (Or.inl ⟨by rfl, ?_⟩) hHeld ?_ ?_
  rotate_left
  · rintro w' ⟨s0, s1, s2⟩
    go_simp
    with_reducible rfl
  rotate_left
  · simp only [Act.put, List.setIfInBounds_toArray, List.set_cons_zero, List.set_cons_succ, i64_w, i32_w]
    rfl
  refine take_ (i := 3) (N := some 10) (v := ?_) (a' := ?_) #[true, true, true, true, true, false, false, false, true, false, false] rfl rfl (by kernel_rfl) (fun _ _ _ h => h) (Or.inl ⟨by rfl, ?_⟩) hHeld ?_ ?_
  rotate_left
  · rintro w' ⟨s0, s1, s2⟩
    go_simp
    with_reducible rfl
  rotate_left
  · simp only [Act.put, List.setIfInBounds_toArray, List.set_cons_zero, List.set_cons_succ, i64_w, i32_w]
    rfl
  refine pure_ (i := 5) (N := some 12) (v := ?_) (a' := ?_) #[true, true, true, true, true, true, false, false, true, false, false] rfl rfl (by kernel_rfl) (fun _ _ _ h => h) (Or.inl ⟨by rfl, ?_⟩) ?_ ?_
  rotate_left
  · intro w'
    go_simp
    with_reducible rfl
  rotate_left
  · simp only [Act.put, List.setIfInBounds_toArray, List.set_cons_zero, List.set_cons_succ, i64_w, i32_w]
    rfl
  refine pure_ (i := 6) (N := some 13) (v := ?_) (a' := ?_) #[true, true, true, true, true, true, true, false, true, false, false] rfl rfl (by kernel_rfl) (fun _ _ _ h => h) (Or.inl ⟨by rfl, ?_⟩) ?_ ?_
  rotate_left
  · intro w'
    go_simp
    with_reducible rfl
  rotate_left
  · simp only [Act.put, List.setIfInBounds_toArray, List.set_cons_zero, List.set_cons_succ, i64_w, i32_w]
    rfl
  refine take_ (i := 7) (N := some 14) (v := ?_) (a' := ?_) #[true, true, true, true, true, true, true, true, true, false, false] rfl rfl (by kernel_rfl) (fun _ _ _ h => h) (Or.inl ⟨by rfl, ?_⟩) hHeld ?_ ?_
  rotate_left
  · rintro w' ⟨s0, s1, s2⟩
    go_simp
    with_reducible rfl
  rotate_left
  · simp only [Act.put, List.setIfInBounds_toArray, List.set_cons_zero, List.set_cons_succ, i64_w, i32_w]
    rfl
  refine one_ (i := 9) (N := some 16) #[true, true, true, true, true, true, true, true, true, true, false] rfl rfl (by kernel_rfl) (by decide) (fun K hK => ?_)
  refine goes_ Tryd.func89 (by kernel_rfl) rfl #[.pointer (some ⟨a, 0, none⟩), .int .i64 (fr l d).f, .int .i64 s] (by rfl) rfl rfl (by simp only [List.map_toArray, List.map_cons, List.map_nil]; rfl) ?_
  with_reducible refine (HP.out).mono ?_
  rintro e w8 ⟨rfl, hB8⟩
  refine ⟨_, rfl, ?_⟩
  have HB8 := Aside0.mk (below_of_drew hB8)
  clear hB8
  refine hK.out _ _ ⟨(pw_cell_below HB8.out q0), (pw_cell_below HB8.out q1), (pw_cell_below HB8.out g0)⟩ (fun hHeld => ?_)
  clear hK K
  refine norm_ (a' := ?_) ?_ ?_
  rotate_left
  · show Act.put _ (some 16) _ = _
    simp only [Act.put, List.setIfInBounds_toArray, List.set_cons_zero, List.set_cons_succ, i64_w, i32_w]
    rfl
  refine pure_ (i := 10) (N := some 6) (v := ?_) (a' := ?_) #[true, true, true, true, true, true, true, true, true, true, true] rfl rfl (by kernel_rfl) (fun _ _ _ h => h) (Or.inl ⟨by rfl, ?_⟩) ?_ ?_
  rotate_left
  · intro w'
    go_simp
    with_reducible rfl
  rotate_left
  · simp only [Act.put, List.setIfInBounds_toArray, List.set_cons_zero, List.set_cons_succ, i64_w, i32_w]
    rfl
  refine done_ (by kernel_rfl) ?_
  go_wp2
  go_ret
  exact ⟨rfl, below_then HB.out HB.out.size HB8.out⟩
/-- The error's number of a value in a slot that is there; 0: it fits. -/
def fitsE (t : List Ent) (l : List Fr) (d s : Int) (v : Vl) : Int :=
  if mayV v = false then 1 else if (tPtr t (fr l d).f s == (v.k != 1)) = false then 5 else if v.k = 2 then (if hasS l v.d v.s = false then 2 else if d < v.d then 7 else 0) else 0
def Thrown (x : Int) (e : Ending) : Prop := (x = 0 ∧ e = .returned (.tuple #[])) ∨ (x ≠ 0 ∧ e = .panicked (Wrong x))
theorem C_oneV (w : World) (v : Vl) : kVl.C (w.alloc (.cells #[.int .u8 v.k, .int .u64 v.b, .int .i64 v.d, .int .i64 v.s] 26)) (some ⟨w.heap.size, 0, none⟩) ([v] : List Vl).length [v] := by
  refine ⟨rfl, by simp, fun _ => ⟨_, rfl, fun j p hj => ?_⟩⟩
  match j, hj with
  | 0, hj =>
    simp at hj
    subst hj
    refine ⟨v.cells, rfl, kVl_mk _ _, fun i u hu => ?_⟩
    have hadd : (⟨w.heap.size, 0, none⟩ : Addr).add (0 * kVl.sz + i) = ⟨w.heap.size, i, none⟩ := by rw [Nat.zero_mul, Nat.zero_add]; exact add_plain _ _
    rw [hadd]
    have h := blk_cell (heap_alloc_new w (.cells #[.int .u8 v.k, .int .u64 v.b, .int .i64 v.d, .int .i64 v.s] 26)) i
    rw [h, ← hu]
    simp [Vl.cells]
section
variable {P : Program} {ops : Array Oper} {Q : Exit → Act → World → Prop}
/-- A call that panics, in a region that draws. -/
theorem goesP_ {oi : Oper} {N : Option Tmp} {a : Act} {w : World} {K : Act → World → Prop} {f : FuncId} {fn : Func} {as_ : Array Operand} {ts : Array TypeId} (hf : P.funcs[f]? = some fn) (hname : (fn.name == "runtime.NumGoroutine") = false) (hb : fn.body.isSome = true) (args : Array Value)
    (hw : Region.wanted oi (yielded ops a.tmps) = true) (hN : oi.dst = N) (hop : oi.op = .call { callee := .value (.func f), args := as_, argTypes := ts }) (hargs : as_.map a.eval = args)
    (h : Calls P f args w fun e w' => ∃ ch, e = .panicked ch ∧ Q (.panic ch) a w') : if Region.wanted oi (yielded ops a.tmps) = true then Oper.wp P oi a w K Q else K (a.put N undef) w := by
  have he := enters_ hf hname hb args w
  have hrun : (execOp a.eval oi).run P w = .ok (.enter f args) w := by
    unfold execOp
    simp [hop, resolve, Deferred.ofValue, invoke, Act.eval, hargs, he]
  rw [if_pos hw]
  unfold Oper.wp
  rw [hrun, Oper.upon_enter]
  refine h.mono fun e w'' hh => ?_
  obtain ⟨ch, rfl, hk⟩ := hh
  exact hk
end
theorem mayOne (v : Vl) (W : World) (N : Nat) (hN : W.heap.size = N) :
    Calls Tryd.prog 136 #[.slice (some ⟨N, 0, none⟩) 1 1] (W.alloc (.cells #[.int .u8 v.k, .int .u64 v.b, .int .i64 v.d, .int .i64 v.s] 26)) fun e w' => e = .returned (.bool (mayV v)) ∧ Below W.heap.size W w' := by
  subst hN
  refine (MayV_calls (some ⟨W.heap.size, 0, none⟩) 1 [v] _ (C_oneV W v) (Nat.le_refl _)).mono ?_
  rintro e w' ⟨rfl, hb⟩
  exact ⟨by simp, below_then (below_alloc (Below.refl _ _) _) (by simp) hb⟩
/-- What holds when the value may be: the boxes still stand. -/
structure FitW (w : World) (a : Nat) (A : Option Addr) (n c : Nat) (v : Vl) (W : World) : Prop where
  below : Below w.heap.size w W
  row : W.heap[w.heap.size]? = some (.cells #[.pointer (some ⟨a, 0, none⟩), .slice A n c] 148 (0, 0))
  val : W.heap[w.heap.size + 1]? = some (.cells #[.int .u8 v.k, .int .u64 v.b, .int .i64 v.d, .int .i64 v.s] 26 (0, 0))
theorem FitW.step {w : World} {a : Nat} {A : Option Addr} {n c : Nat} {v : Vl} {W W1 : World} (h : FitW w a A n c v W) (hb : Below W.heap.size W W1) : FitW w a A n c v W1 :=
  ⟨below_then h.below h.below.size hb, (hb.block _ (blk_lt h.row)).trans h.row, (hb.block _ (blk_lt h.val)).trans h.val⟩
theorem FitW.start (w : World) (a : Nat) (A : Option Addr) (n c : Nat) (v : Vl) : FitW w a A n c v ((w.alloc (.cells #[.pointer (some ⟨a, 0, none⟩), .slice A n c] 148)).alloc (.cells #[.int .u8 v.k, .int .u64 v.b, .int .i64 v.d, .int .i64 v.s] 26)) :=
  ⟨below_alloc (below_alloc (Below.refl _ _) _) _, (Below.heap_alloc _ _ _ (by simp)).trans (heap_alloc_new w _), by have := heap_alloc_new (w.alloc (.cells #[.pointer (some ⟨a, 0, none⟩), .slice A n c] 148)) (.cells #[.int .u8 v.k, .int .u64 v.b, .int .i64 v.d, .int .i64 v.s] 26); simpa using this⟩
theorem FitW.c0 {w : World} {a : Nat} {A : Option Addr} {n c : Nat} {v : Vl} {W : World} (h : FitW w a A n c v W) : W.cell? ⟨w.heap.size, 0, none⟩ = some (.pointer (some ⟨a, 0, none⟩)) := (blk_cell h.row 0).trans rfl
theorem FitW.c1 {w : World} {a : Nat} {A : Option Addr} {n c : Nat} {v : Vl} {W : World} (h : FitW w a A n c v W) : W.cell? ⟨w.heap.size, 1, none⟩ = some (.slice A n c) := (blk_cell h.row 1).trans rfl
theorem FitW.v0 {w : World} {a : Nat} {A : Option Addr} {n c : Nat} {v : Vl} {W : World} (h : FitW w a A n c v W) : W.cell? ⟨w.heap.size + 1, 0, none⟩ = some (.int .u8 v.k) := (blk_cell h.val 0).trans rfl
theorem FitW.v2 {w : World} {a : Nat} {A : Option Addr} {n c : Nat} {v : Vl} {W : World} (h : FitW w a A n c v W) : W.cell? ⟨w.heap.size + 1, 2, none⟩ = some (.int .i64 v.d) := (blk_cell h.val 2).trans rfl
theorem FitW.v3 {w : World} {a : Nat} {A : Option Addr} {n c : Nat} {v : Vl} {W : World} (h : FitW w a A n c v W) : W.cell? ⟨w.heap.size + 1, 3, none⟩ = some (.int .i64 v.s) := (blk_cell h.val 3).trans rfl
set_option maxRecDepth 100000 in
theorem fits_may (a : Nat) (A : Option Addr) (c n : Nat) (d s : Int) (v : Vl) (w : World) (hm : mayV v = false) :
    Calls Tryd.prog 96 #[.agg #[.pointer (some ⟨a, 0, none⟩), .slice A n c], .int .i64 d, .int .i64 s, .agg #[.int .u8 v.k, .int .u64 v.b, .int .i64 v.d, .int .i64 v.s]] w fun e w' => e = .panicked (Wrong 1) ∧ Below w.heap.size w w' := by
  have HM := Aside0.mk (mayOne v)
  rw [hm] at HM
  have HB := Aside0.mk (FitW.start w a A n c v)
  clear hm
  go_enter Tryd.func96, Tryd.ntmps96
  go_wp2_with (first | (go_at_call 136; refine (HM.out _ _ (by simp)).mono ?_; rintro e w' ⟨rfl, hb⟩; have HB2 := Aside0.mk (HB.out.step hb); clear hb) | (go_at_call 88; refine (must_no 1 _).mono ?_; rintro e w2 ⟨rfl, rfl⟩))
  exact ⟨rfl, rfl, HB2.out.below⟩
set_option maxRecDepth 100000 in
theorem fits_kind (a : Nat) (t : List Ent) (A : Option Addr) (c : Nat) (l : List Fr) (d s : Int) (v : Vl) (w : World) (h : IsRow w a t A c l) (h0 : 0 ≤ d) (h1 : d < l.length) (hs : I64 s) (hm : mayV v = true) (hk : (tPtr t (fr l d).f s == (v.k != 1)) = false) :
    Calls Tryd.prog 96 #[.agg #[.pointer (some ⟨a, 0, none⟩), .slice A l.length c], .int .i64 d, .int .i64 s, .agg #[.int .u8 v.k, .int .u64 v.b, .int .i64 v.d, .int .i64 v.s]] w fun e w' => e = .panicked (Wrong 5) ∧ Below w.heap.size w w' := by
  have HM := Aside0.mk (mayOne v)
  rw [hm] at HM
  have HB := Aside0.mk (FitW.start w a A l.length c v)
  have HP := Aside0.mk (fun (W : World) (hB : Below w.heap.size w W) => rptr_calls a t A c l d s W (h.below hB) h0 h1 hs)
  have HMN : Aside0 (∀ W, Calls Tryd.prog 88 #[.bool (tPtr t (fr l d).f s == (v.k != 1)), .int .i64 5] W fun e w' => e = .panicked (Wrong 5) ∧ W = w') := ⟨fun W => by rw [hk]; exact must_no 5 W⟩
  clear hm h hs hk
  go_enter Tryd.func96, Tryd.ntmps96
  go_wp2_with (first | (go_at_call 136; refine (HM.out _ _ (by simp)).mono ?_; rintro e w3 ⟨rfl, hb⟩; have HB2 := Aside0.mk (HB.out.step hb); clear hb) | (go_at_call 88; refine (must_ok 1 _).mono ?_; rintro e w2 ⟨rfl, rfl⟩))
  have HB3 := HB2.out.c0
  have HB4 := HB2.out.c1
  have HB5 := HB2.out.v0
  refine start_ (n := 9) (S := fun w' => w'.cell? ⟨w.heap.size, 0, none⟩ = some (.pointer (some ⟨a, 0, none⟩)) ∧ w'.cell? ⟨w.heap.size, 1, none⟩ = some (.slice A l.length c) ∧ w'.cell? ⟨w.heap.size + 1, 0, none⟩ = some (.int .u8 v.k)) (ds := []) #[false, false, false, false, false, false, false, false, false] (by kernel_rfl) rfl rfl ⟨HB3, HB4, HB5⟩ (fun hHeld => ?_)
  refine pure_ (i := 1) (N := some 13) (v := ?_) (a' := ?_) #[false, true, false, false, false, false, false, false, false] rfl rfl (by kernel_rfl) (fun _ _ _ h => h) (Or.inl ⟨by rfl, ?_⟩) ?_ ?_
  rotate_left
  · intro w'
    go_simp
    with_reducible rfl
  rotate_left
  · simp only [Act.put, List.setIfInBounds_toArray, List.set_cons_zero, List.set_cons_succ, i64_w, i32_w]
    rfl
  refine pure_ (i := 2) (N := some 14) (v := ?_) (a' := ?_) #[false, true, true, false, false, false, false, false, false] rfl rfl (by kernel_rfl) (fun _ _ _ h => h) (Or.inl ⟨by rfl, ?_⟩) ?_ ?_
  rotate_left
  · intro w'
    go_simp
    with_reducible rfl
  rotate_left
  · simp only [Act.put, List.setIfInBounds_toArray, List.set_cons_zero, List.set_cons_succ, i64_w, i32_w]
    rfl
  refine pure_ (i := 4) (N := some 16) (v := ?_) (a' := ?_) #[false, true, true, false, true, false, false, false, false] rfl rfl (by kernel_rfl) (fun _ _ _ h => h) (Or.inl ⟨by rfl, ?_⟩) ?_ ?_
  rotate_left
  · intro w'
    go_simp
    with_reducible rfl
  rotate_left
  · simp only [Act.put, List.setIfInBounds_toArray, List.set_cons_zero, List.set_cons_succ, i64_w, i32_w]
    rfl
  refine take_ (i := 0) (N := some 12) (v := ?_) (a' := ?_) #[true, true, true, false, true, false, false, false, false] rfl rfl (by kernel_rfl) (fun _ _ _ h => h) (Or.inl ⟨by rfl, ?_⟩) hHeld ?_ ?_
  rotate_left
  · rintro w' ⟨s0, s1, s2⟩
    go_simp
    with_reducible rfl
  rotate_left
  · simp only [Act.put, List.setIfInBounds_toArray, List.set_cons_zero, List.set_cons_succ, i64_w, i32_w]
    rfl
  refine take_ (i := 5) (N := some 17) (v := ?_) (a' := ?_) #[true, true, true, false, true, true, false, false, false] rfl rfl (by kernel_rfl) (fun _ _ _ h => h) (Or.inl ⟨by rfl, ?_⟩) hHeld ?_ ?_
  rotate_left
  · rintro w' ⟨s0, s1, s2⟩
    go_simp
    with_reducible rfl
  rotate_left
  · simp only [Act.put, List.setIfInBounds_toArray, List.set_cons_zero, List.set_cons_succ, i64_w, i32_w]
    rfl
  refine pure_ (i := 6) (N := some 18) (v := ?_) (a' := ?_) #[true, true, true, false, true, true, true, false, false] rfl rfl (by kernel_rfl) (fun _ _ _ h => h) (Or.inl ⟨by rfl, ?_⟩) ?_ ?_
  rotate_left
  · intro w'
    go_simp
    with_reducible rfl
  rotate_left
  · simp only [Act.put, List.setIfInBounds_toArray, List.set_cons_zero, List.set_cons_succ, i64_w, i32_w]
    rfl
  refine one_ (i := 3) (N := some 15) #[true, true, true, true, true, true, true, false, false] rfl rfl (by kernel_rfl) (by decide) (fun K hK => ?_)
  refine goes_ Tryd.func102 (by kernel_rfl) rfl #[.agg #[.pointer (some ⟨a, 0, none⟩), .slice A l.length c], .int .i64 d, .int .i64 s] (by rfl) rfl rfl (by simp only [List.map_toArray, List.map_cons, List.map_nil]; rfl) ?_
  with_reducible refine (HP.out _ (below_drew HB2.out.below)).mono ?_
  rintro e w8 ⟨rfl, hB8⟩
  refine ⟨_, rfl, ?_⟩
  have HB8 := Aside0.mk (HB2.out.step (below_of_drew hB8))
  clear hB8
  refine hK.out _ _ ⟨HB8.out.c0, HB8.out.c1, HB8.out.v0⟩ (fun hHeld => ?_)
  clear hK K
  refine norm_ (a' := ?_) ?_ ?_
  rotate_left
  · show Act.put _ (some 15) _ = _
    simp only [Act.put, List.setIfInBounds_toArray, List.set_cons_zero, List.set_cons_succ, i64_w, i32_w]
    rfl
  refine pure_ (i := 7) (N := some 19) (v := ?_) (a' := ?_) #[true, true, true, true, true, true, true, true, false] rfl rfl (by kernel_rfl) (fun _ _ _ h => h) (Or.inl ⟨by rfl, ?_⟩) ?_ ?_
  rotate_left
  · intro w'
    go_simp
    with_reducible rfl
  rotate_left
  · simp only [Act.put, List.setIfInBounds_toArray, List.set_cons_zero, List.set_cons_succ, i64_w, i32_w]
    rfl
  refine one_ (i := 8) (N := some 20) #[true, true, true, true, true, true, true, true, true] rfl rfl (by kernel_rfl) (by decide) (fun K hK => ?_)
  show if _ = true then Oper.wp _ _ _ _ _ _ else _
  refine goesP_ Tryd.func88 (by kernel_rfl) rfl #[.bool (tPtr t (fr l d).f s == (v.k != 1)), .int .i64 5] (by rfl) rfl rfl (by simp only [List.map_toArray, List.map_cons, List.map_nil]; rfl) ?_
  with_reducible refine (HMN.out _).mono ?_
  rintro e w9 ⟨rfl, rfl⟩
  refine ⟨_, rfl, ?_⟩
  exact ⟨rfl, rfl, HB8.out.below⟩
set_option maxRecDepth 100000 in
set_option maxHeartbeats 1000000 in
theorem fits_scalar (a : Nat) (t : List Ent) (A : Option Addr) (c : Nat) (l : List Fr) (d s : Int) (v : Vl) (w : World) (h : IsRow w a t A c l) (h0 : 0 ≤ d) (h1 : d < l.length) (hs : I64 s) (hm : mayV v = true) (hk : (tPtr t (fr l d).f s == (v.k != 1)) = true) (hn : v.k ≠ 2) :
    Calls Tryd.prog 96 #[.agg #[.pointer (some ⟨a, 0, none⟩), .slice A l.length c], .int .i64 d, .int .i64 s, .agg #[.int .u8 v.k, .int .u64 v.b, .int .i64 v.d, .int .i64 v.s]] w fun e w' => e = .returned (.tuple #[]) ∧ Below w.heap.size w w' := by
  have HM := Aside0.mk (mayOne v)
  rw [hm] at HM
  have HB := Aside0.mk (FitW.start w a A l.length c v)
  have HP := Aside0.mk (fun (W : World) (hB : Below w.heap.size w W) => rptr_calls a t A c l d s W (h.below hB) h0 h1 hs)
  have hkn : (v.k == 2) = false := by simpa using hn
  clear hn
  have HMN : Aside0 (∀ W, Calls Tryd.prog 88 #[.bool (tPtr t (fr l d).f s == (v.k != 1)), .int .i64 5] W fun e w' => e = .returned (.tuple #[]) ∧ W = w') := ⟨fun W => by rw [hk]; exact must_ok 5 W⟩
  clear hm h hs hk
  go_enter Tryd.func96, Tryd.ntmps96
  go_wp2_with (first | (go_at_call 136; refine (HM.out _ _ (by simp)).mono ?_; rintro e w3 ⟨rfl, hb⟩; have HB2 := Aside0.mk (HB.out.step hb); clear hb) | (go_at_call 88; refine (must_ok 1 _).mono ?_; rintro e w2 ⟨rfl, rfl⟩))
  have HB3 := HB2.out.c0
  have HB4 := HB2.out.c1
  have HB5 := HB2.out.v0
  refine start_ (n := 9) (S := fun w' => w'.cell? ⟨w.heap.size, 0, none⟩ = some (.pointer (some ⟨a, 0, none⟩)) ∧ w'.cell? ⟨w.heap.size, 1, none⟩ = some (.slice A l.length c) ∧ w'.cell? ⟨w.heap.size + 1, 0, none⟩ = some (.int .u8 v.k)) (ds := []) #[false, false, false, false, false, false, false, false, false] (by kernel_rfl) rfl rfl ⟨HB3, HB4, HB5⟩ (fun hHeld => ?_)
  refine pure_ (i := 1) (N := some 13) (v := ?_) (a' := ?_) #[false, true, false, false, false, false, false, false, false] rfl rfl (by kernel_rfl) (fun _ _ _ h => h) (Or.inl ⟨by rfl, ?_⟩) ?_ ?_
  rotate_left
  · intro w'
    go_simp
    with_reducible rfl
  rotate_left
  · simp only [Act.put, List.setIfInBounds_toArray, List.set_cons_zero, List.set_cons_succ, i64_w, i32_w]
    rfl
  refine pure_ (i := 2) (N := some 14) (v := ?_) (a' := ?_) #[false, true, true, false, false, false, false, false, false] rfl rfl (by kernel_rfl) (fun _ _ _ h => h) (Or.inl ⟨by rfl, ?_⟩) ?_ ?_
  rotate_left
  · intro w'
    go_simp
    with_reducible rfl
  rotate_left
  · simp only [Act.put, List.setIfInBounds_toArray, List.set_cons_zero, List.set_cons_succ, i64_w, i32_w]
    rfl
  refine pure_ (i := 4) (N := some 16) (v := ?_) (a' := ?_) #[false, true, true, false, true, false, false, false, false] rfl rfl (by kernel_rfl) (fun _ _ _ h => h) (Or.inl ⟨by rfl, ?_⟩) ?_ ?_
  rotate_left
  · intro w'
    go_simp
    with_reducible rfl
  rotate_left
  · simp only [Act.put, List.setIfInBounds_toArray, List.set_cons_zero, List.set_cons_succ, i64_w, i32_w]
    rfl
  refine take_ (i := 0) (N := some 12) (v := ?_) (a' := ?_) #[true, true, true, false, true, false, false, false, false] rfl rfl (by kernel_rfl) (fun _ _ _ h => h) (Or.inl ⟨by rfl, ?_⟩) hHeld ?_ ?_
  rotate_left
  · rintro w' ⟨s0, s1, s2⟩
    go_simp
    with_reducible rfl
  rotate_left
  · simp only [Act.put, List.setIfInBounds_toArray, List.set_cons_zero, List.set_cons_succ, i64_w, i32_w]
    rfl
  refine take_ (i := 5) (N := some 17) (v := ?_) (a' := ?_) #[true, true, true, false, true, true, false, false, false] rfl rfl (by kernel_rfl) (fun _ _ _ h => h) (Or.inl ⟨by rfl, ?_⟩) hHeld ?_ ?_
  rotate_left
  · rintro w' ⟨s0, s1, s2⟩
    go_simp
    with_reducible rfl
  rotate_left
  · simp only [Act.put, List.setIfInBounds_toArray, List.set_cons_zero, List.set_cons_succ, i64_w, i32_w]
    rfl
  refine pure_ (i := 6) (N := some 18) (v := ?_) (a' := ?_) #[true, true, true, false, true, true, true, false, false] rfl rfl (by kernel_rfl) (fun _ _ _ h => h) (Or.inl ⟨by rfl, ?_⟩) ?_ ?_
  rotate_left
  · intro w'
    go_simp
    with_reducible rfl
  rotate_left
  · simp only [Act.put, List.setIfInBounds_toArray, List.set_cons_zero, List.set_cons_succ, i64_w, i32_w]
    rfl
  refine one_ (i := 3) (N := some 15) #[true, true, true, true, true, true, true, false, false] rfl rfl (by kernel_rfl) (by decide) (fun K hK => ?_)
  refine goes_ Tryd.func102 (by kernel_rfl) rfl #[.agg #[.pointer (some ⟨a, 0, none⟩), .slice A l.length c], .int .i64 d, .int .i64 s] (by rfl) rfl rfl (by simp only [List.map_toArray, List.map_cons, List.map_nil]; rfl) ?_
  with_reducible refine (HP.out _ (below_drew HB2.out.below)).mono ?_
  rintro e w8 ⟨rfl, hB8⟩
  refine ⟨_, rfl, ?_⟩
  have HB8 := Aside0.mk (HB2.out.step (below_of_drew hB8))
  clear hB8
  refine hK.out _ _ ⟨HB8.out.c0, HB8.out.c1, HB8.out.v0⟩ (fun hHeld => ?_)
  clear hK K
  refine norm_ (a' := ?_) ?_ ?_
  rotate_left
  · show Act.put _ (some 15) _ = _
    simp only [Act.put, List.setIfInBounds_toArray, List.set_cons_zero, List.set_cons_succ, i64_w, i32_w]
    rfl
  refine pure_ (i := 7) (N := some 19) (v := ?_) (a' := ?_) #[true, true, true, true, true, true, true, true, false] rfl rfl (by kernel_rfl) (fun _ _ _ h => h) (Or.inl ⟨by rfl, ?_⟩) ?_ ?_
  rotate_left
  · intro w'
    go_simp
    with_reducible rfl
  rotate_left
  · simp only [Act.put, List.setIfInBounds_toArray, List.set_cons_zero, List.set_cons_succ, i64_w, i32_w]
    rfl
  refine one_ (i := 8) (N := some 20) #[true, true, true, true, true, true, true, true, true] rfl rfl (by kernel_rfl) (by decide) (fun K hK => ?_)
  refine goes_ Tryd.func88 (by kernel_rfl) rfl #[.bool (tPtr t (fr l d).f s == (v.k != 1)), .int .i64 5] (by rfl) rfl rfl (by simp only [List.map_toArray, List.map_cons, List.map_nil]; rfl) ?_
  with_reducible refine (HMN.out _).mono ?_
  rintro e w9 ⟨rfl, rfl⟩
  refine ⟨_, rfl, ?_⟩
  refine hK.out _ _ ⟨HB8.out.c0, HB8.out.c1, HB8.out.v0⟩ (fun hHeld => ?_)
  clear hK K
  refine norm_ (a' := ?_) ?_ ?_
  rotate_left
  · show Act.put _ (some 20) _ = _
    simp only [Act.put, List.setIfInBounds_toArray, List.set_cons_zero, List.set_cons_succ, i64_w, i32_w]
    rfl
  refine done_ (by kernel_rfl) ?_
  clear HB3 HB4 HB5 hHeld
  have HB3 := HB8.out.c0
  have HB4 := HB8.out.c1
  have HB5 := HB8.out.v0
  have HB6 := HB8.out.v2
  have HB7 := HB8.out.v3
  go_wp2
  go_end0
  exact ⟨rfl, HB8.out.below⟩
set_option maxRecDepth 100000 in
set_option maxHeartbeats 1000000 in
theorem fits_ref (a : Nat) (t : List Ent) (A : Option Addr) (c : Nat) (l : List Fr) (d s : Int) (v : Vl) (w : World) (h : IsRow w a t A c l) (h0 : 0 ≤ d) (h1 : d < l.length) (hs : I64 s) (hm : mayV v = true) (hk : (tPtr t (fr l d).f s == (v.k != 1)) = true) (hn : v.k = 2) (hh : hasS l v.d v.s = false) :
    Calls Tryd.prog 96 #[.agg #[.pointer (some ⟨a, 0, none⟩), .slice A l.length c], .int .i64 d, .int .i64 s, .agg #[.int .u8 v.k, .int .u64 v.b, .int .i64 v.d, .int .i64 v.s]] w fun e w' => e = .panicked (Wrong 2) ∧ Below w.heap.size w w' := by
  have HM := Aside0.mk (mayOne v)
  rw [hm] at HM
  have HB := Aside0.mk (FitW.start w a A l.length c v)
  have HP := Aside0.mk (fun (W : World) (hB : Below w.heap.size w W) => rptr_calls a t A c l d s W (h.below hB) h0 h1 hs)
  have hkn : (v.k == 2) = true := by simpa using hn
  have HH := Aside0.mk (fun (W : World) (hB : Below w.heap.size w W) => rhas_calls a t A c l v.d v.s W (h.below hB))
  rw [hh] at HH
  clear hn hh
  have HMN : Aside0 (∀ W, Calls Tryd.prog 88 #[.bool (tPtr t (fr l d).f s == (v.k != 1)), .int .i64 5] W fun e w' => e = .returned (.tuple #[]) ∧ W = w') := ⟨fun W => by rw [hk]; exact must_ok 5 W⟩
  clear hm h hs hk
  go_enter Tryd.func96, Tryd.ntmps96
  go_wp2_with (first | (go_at_call 136; refine (HM.out _ _ (by simp)).mono ?_; rintro e w3 ⟨rfl, hb⟩; have HB2 := Aside0.mk (HB.out.step hb); clear hb) | (go_at_call 88; refine (must_ok 1 _).mono ?_; rintro e w2 ⟨rfl, rfl⟩))
  have HB3 := HB2.out.c0
  have HB4 := HB2.out.c1
  have HB5 := HB2.out.v0
  refine start_ (n := 9) (S := fun w' => w'.cell? ⟨w.heap.size, 0, none⟩ = some (.pointer (some ⟨a, 0, none⟩)) ∧ w'.cell? ⟨w.heap.size, 1, none⟩ = some (.slice A l.length c) ∧ w'.cell? ⟨w.heap.size + 1, 0, none⟩ = some (.int .u8 v.k)) (ds := []) #[false, false, false, false, false, false, false, false, false] (by kernel_rfl) rfl rfl ⟨HB3, HB4, HB5⟩ (fun hHeld => ?_)
  refine pure_ (i := 1) (N := some 13) (v := ?_) (a' := ?_) #[false, true, false, false, false, false, false, false, false] rfl rfl (by kernel_rfl) (fun _ _ _ h => h) (Or.inl ⟨by rfl, ?_⟩) ?_ ?_
  rotate_left
  · intro w'
    go_simp
    with_reducible rfl
  rotate_left
  · simp only [Act.put, List.setIfInBounds_toArray, List.set_cons_zero, List.set_cons_succ, i64_w, i32_w]
    rfl
  refine pure_ (i := 2) (N := some 14) (v := ?_) (a' := ?_) #[false, true, true, false, false, false, false, false, false] rfl rfl (by kernel_rfl) (fun _ _ _ h => h) (Or.inl ⟨by rfl, ?_⟩) ?_ ?_
  rotate_left
  · intro w'
    go_simp
    with_reducible rfl
  rotate_left
  · simp only [Act.put, List.setIfInBounds_toArray, List.set_cons_zero, List.set_cons_succ, i64_w, i32_w]
    rfl
  refine pure_ (i := 4) (N := some 16) (v := ?_) (a' := ?_) #[false, true, true, false, true, false, false, false, false] rfl rfl (by kernel_rfl) (fun _ _ _ h => h) (Or.inl ⟨by rfl, ?_⟩) ?_ ?_
  rotate_left
  · intro w'
    go_simp
    with_reducible rfl
  rotate_left
  · simp only [Act.put, List.setIfInBounds_toArray, List.set_cons_zero, List.set_cons_succ, i64_w, i32_w]
    rfl
  refine take_ (i := 0) (N := some 12) (v := ?_) (a' := ?_) #[true, true, true, false, true, false, false, false, false] rfl rfl (by kernel_rfl) (fun _ _ _ h => h) (Or.inl ⟨by rfl, ?_⟩) hHeld ?_ ?_
  rotate_left
  · rintro w' ⟨s0, s1, s2⟩
    go_simp
    with_reducible rfl
  rotate_left
  · simp only [Act.put, List.setIfInBounds_toArray, List.set_cons_zero, List.set_cons_succ, i64_w, i32_w]
    rfl
  refine take_ (i := 5) (N := some 17) (v := ?_) (a' := ?_) #[true, true, true, false, true, true, false, false, false] rfl rfl (by kernel_rfl) (fun _ _ _ h => h) (Or.inl ⟨by rfl, ?_⟩) hHeld ?_ ?_
  rotate_left
  · rintro w' ⟨s0, s1, s2⟩
    go_simp
    with_reducible rfl
  rotate_left
  · simp only [Act.put, List.setIfInBounds_toArray, List.set_cons_zero, List.set_cons_succ, i64_w, i32_w]
    rfl
  refine pure_ (i := 6) (N := some 18) (v := ?_) (a' := ?_) #[true, true, true, false, true, true, true, false, false] rfl rfl (by kernel_rfl) (fun _ _ _ h => h) (Or.inl ⟨by rfl, ?_⟩) ?_ ?_
  rotate_left
  · intro w'
    go_simp
    with_reducible rfl
  rotate_left
  · simp only [Act.put, List.setIfInBounds_toArray, List.set_cons_zero, List.set_cons_succ, i64_w, i32_w]
    rfl
  refine one_ (i := 3) (N := some 15) #[true, true, true, true, true, true, true, false, false] rfl rfl (by kernel_rfl) (by decide) (fun K hK => ?_)
  refine goes_ Tryd.func102 (by kernel_rfl) rfl #[.agg #[.pointer (some ⟨a, 0, none⟩), .slice A l.length c], .int .i64 d, .int .i64 s] (by rfl) rfl rfl (by simp only [List.map_toArray, List.map_cons, List.map_nil]; rfl) ?_
  with_reducible refine (HP.out _ (below_drew HB2.out.below)).mono ?_
  rintro e w8 ⟨rfl, hB8⟩
  refine ⟨_, rfl, ?_⟩
  have HB8 := Aside0.mk (HB2.out.step (below_of_drew hB8))
  clear hB8
  refine hK.out _ _ ⟨HB8.out.c0, HB8.out.c1, HB8.out.v0⟩ (fun hHeld => ?_)
  clear hK K
  refine norm_ (a' := ?_) ?_ ?_
  rotate_left
  · show Act.put _ (some 15) _ = _
    simp only [Act.put, List.setIfInBounds_toArray, List.set_cons_zero, List.set_cons_succ, i64_w, i32_w]
    rfl
  refine pure_ (i := 7) (N := some 19) (v := ?_) (a' := ?_) #[true, true, true, true, true, true, true, true, false] rfl rfl (by kernel_rfl) (fun _ _ _ h => h) (Or.inl ⟨by rfl, ?_⟩) ?_ ?_
  rotate_left
  · intro w'
    go_simp
    with_reducible rfl
  rotate_left
  · simp only [Act.put, List.setIfInBounds_toArray, List.set_cons_zero, List.set_cons_succ, i64_w, i32_w]
    rfl
  refine one_ (i := 8) (N := some 20) #[true, true, true, true, true, true, true, true, true] rfl rfl (by kernel_rfl) (by decide) (fun K hK => ?_)
  refine goes_ Tryd.func88 (by kernel_rfl) rfl #[.bool (tPtr t (fr l d).f s == (v.k != 1)), .int .i64 5] (by rfl) rfl rfl (by simp only [List.map_toArray, List.map_cons, List.map_nil]; rfl) ?_
  with_reducible refine (HMN.out _).mono ?_
  rintro e w9 ⟨rfl, rfl⟩
  refine ⟨_, rfl, ?_⟩
  refine hK.out _ _ ⟨HB8.out.c0, HB8.out.c1, HB8.out.v0⟩ (fun hHeld => ?_)
  clear hK K
  refine norm_ (a' := ?_) ?_ ?_
  rotate_left
  · show Act.put _ (some 20) _ = _
    simp only [Act.put, List.setIfInBounds_toArray, List.set_cons_zero, List.set_cons_succ, i64_w, i32_w]
    rfl
  refine done_ (by kernel_rfl) ?_
  clear HB3 HB4 HB5 hHeld
  have HB3 := HB8.out.c0
  have HB4 := HB8.out.c1
  have HB5 := HB8.out.v0
  have HB6 := HB8.out.v2
  have HB7 := HB8.out.v3
  go_wp2_with (first | (go_at_call 95; refine (HH.out _ HB8.out.below).mono ?_; rintro e w10 ⟨rfl, hb10⟩; have HB10 := Aside0.mk (HB8.out.step hb10); clear hb10) | (go_at_call 88; refine (must_no 2 _).mono ?_; rintro e w11 ⟨rfl, rfl⟩))
  exact ⟨rfl, rfl, HB10.out.below⟩
set_option maxRecDepth 100000 in
set_option maxHeartbeats 1000000 in
theorem fits_deep (a : Nat) (t : List Ent) (A : Option Addr) (c : Nat) (l : List Fr) (d s : Int) (v : Vl) (w : World) (h : IsRow w a t A c l) (h0 : 0 ≤ d) (h1 : d < l.length) (hs : I64 s) (hm : mayV v = true) (hk : (tPtr t (fr l d).f s == (v.k != 1)) = true) (hn : v.k = 2) (hh : hasS l v.d v.s = true) (hd : d < v.d) :
    Calls Tryd.prog 96 #[.agg #[.pointer (some ⟨a, 0, none⟩), .slice A l.length c], .int .i64 d, .int .i64 s, .agg #[.int .u8 v.k, .int .u64 v.b, .int .i64 v.d, .int .i64 v.s]] w fun e w' => e = .panicked (Wrong 7) ∧ Below w.heap.size w w' := by
  have HM := Aside0.mk (mayOne v)
  rw [hm] at HM
  have HB := Aside0.mk (FitW.start w a A l.length c v)
  have HP := Aside0.mk (fun (W : World) (hB : Below w.heap.size w W) => rptr_calls a t A c l d s W (h.below hB) h0 h1 hs)
  have hkn : (v.k == 2) = true := by simpa using hn
  have HH := Aside0.mk (fun (W : World) (hB : Below w.heap.size w W) => rhas_calls a t A c l v.d v.s W (h.below hB))
  rw [hh] at HH
  have hdd : decide (v.d ≤ d) = false := decide_eq_false (by omega)
  clear hn hh
  have HMN : Aside0 (∀ W, Calls Tryd.prog 88 #[.bool (tPtr t (fr l d).f s == (v.k != 1)), .int .i64 5] W fun e w' => e = .returned (.tuple #[]) ∧ W = w') := ⟨fun W => by rw [hk]; exact must_ok 5 W⟩
  clear hm h hs hk
  go_enter Tryd.func96, Tryd.ntmps96
  go_wp2_with (first | (go_at_call 136; refine (HM.out _ _ (by simp)).mono ?_; rintro e w3 ⟨rfl, hb⟩; have HB2 := Aside0.mk (HB.out.step hb); clear hb) | (go_at_call 88; refine (must_ok 1 _).mono ?_; rintro e w2 ⟨rfl, rfl⟩))
  have HB3 := HB2.out.c0
  have HB4 := HB2.out.c1
  have HB5 := HB2.out.v0
  refine start_ (n := 9) (S := fun w' => w'.cell? ⟨w.heap.size, 0, none⟩ = some (.pointer (some ⟨a, 0, none⟩)) ∧ w'.cell? ⟨w.heap.size, 1, none⟩ = some (.slice A l.length c) ∧ w'.cell? ⟨w.heap.size + 1, 0, none⟩ = some (.int .u8 v.k)) (ds := []) #[false, false, false, false, false, false, false, false, false] (by kernel_rfl) rfl rfl ⟨HB3, HB4, HB5⟩ (fun hHeld => ?_)
  refine pure_ (i := 1) (N := some 13) (v := ?_) (a' := ?_) #[false, true, false, false, false, false, false, false, false] rfl rfl (by kernel_rfl) (fun _ _ _ h => h) (Or.inl ⟨by rfl, ?_⟩) ?_ ?_
  rotate_left
  · intro w'
    go_simp
    with_reducible rfl
  rotate_left
  · simp only [Act.put, List.setIfInBounds_toArray, List.set_cons_zero, List.set_cons_succ, i64_w, i32_w]
    rfl
  refine pure_ (i := 2) (N := some 14) (v := ?_) (a' := ?_) #[false, true, true, false, false, false, false, false, false] rfl rfl (by kernel_rfl) (fun _ _ _ h => h) (Or.inl ⟨by rfl, ?_⟩) ?_ ?_
  rotate_left
  · intro w'
    go_simp
    with_reducible rfl
  rotate_left
  · simp only [Act.put, List.setIfInBounds_toArray, List.set_cons_zero, List.set_cons_succ, i64_w, i32_w]
    rfl
  refine pure_ (i := 4) (N := some 16) (v := ?_) (a' := ?_) #[false, true, true, false, true, false, false, false, false] rfl rfl (by kernel_rfl) (fun _ _ _ h => h) (Or.inl ⟨by rfl, ?_⟩) ?_ ?_
  rotate_left
  · intro w'
    go_simp
    with_reducible rfl
  rotate_left
  · simp only [Act.put, List.setIfInBounds_toArray, List.set_cons_zero, List.set_cons_succ, i64_w, i32_w]
    rfl
  refine take_ (i := 0) (N := some 12) (v := ?_) (a' := ?_) #[true, true, true, false, true, false, false, false, false] rfl rfl (by kernel_rfl) (fun _ _ _ h => h) (Or.inl ⟨by rfl, ?_⟩) hHeld ?_ ?_
  rotate_left
  · rintro w' ⟨s0, s1, s2⟩
    go_simp
    with_reducible rfl
  rotate_left
  · simp only [Act.put, List.setIfInBounds_toArray, List.set_cons_zero, List.set_cons_succ, i64_w, i32_w]
    rfl
  refine take_ (i := 5) (N := some 17) (v := ?_) (a' := ?_) #[true, true, true, false, true, true, false, false, false] rfl rfl (by kernel_rfl) (fun _ _ _ h => h) (Or.inl ⟨by rfl, ?_⟩) hHeld ?_ ?_
  rotate_left
  · rintro w' ⟨s0, s1, s2⟩
    go_simp
    with_reducible rfl
  rotate_left
  · simp only [Act.put, List.setIfInBounds_toArray, List.set_cons_zero, List.set_cons_succ, i64_w, i32_w]
    rfl
  refine pure_ (i := 6) (N := some 18) (v := ?_) (a' := ?_) #[true, true, true, false, true, true, true, false, false] rfl rfl (by kernel_rfl) (fun _ _ _ h => h) (Or.inl ⟨by rfl, ?_⟩) ?_ ?_
  rotate_left
  · intro w'
    go_simp
    with_reducible rfl
  rotate_left
  · simp only [Act.put, List.setIfInBounds_toArray, List.set_cons_zero, List.set_cons_succ, i64_w, i32_w]
    rfl
  refine one_ (i := 3) (N := some 15) #[true, true, true, true, true, true, true, false, false] rfl rfl (by kernel_rfl) (by decide) (fun K hK => ?_)
  refine goes_ Tryd.func102 (by kernel_rfl) rfl #[.agg #[.pointer (some ⟨a, 0, none⟩), .slice A l.length c], .int .i64 d, .int .i64 s] (by rfl) rfl rfl (by simp only [List.map_toArray, List.map_cons, List.map_nil]; rfl) ?_
  with_reducible refine (HP.out _ (below_drew HB2.out.below)).mono ?_
  rintro e w8 ⟨rfl, hB8⟩
  refine ⟨_, rfl, ?_⟩
  have HB8 := Aside0.mk (HB2.out.step (below_of_drew hB8))
  clear hB8
  refine hK.out _ _ ⟨HB8.out.c0, HB8.out.c1, HB8.out.v0⟩ (fun hHeld => ?_)
  clear hK K
  refine norm_ (a' := ?_) ?_ ?_
  rotate_left
  · show Act.put _ (some 15) _ = _
    simp only [Act.put, List.setIfInBounds_toArray, List.set_cons_zero, List.set_cons_succ, i64_w, i32_w]
    rfl
  refine pure_ (i := 7) (N := some 19) (v := ?_) (a' := ?_) #[true, true, true, true, true, true, true, true, false] rfl rfl (by kernel_rfl) (fun _ _ _ h => h) (Or.inl ⟨by rfl, ?_⟩) ?_ ?_
  rotate_left
  · intro w'
    go_simp
    with_reducible rfl
  rotate_left
  · simp only [Act.put, List.setIfInBounds_toArray, List.set_cons_zero, List.set_cons_succ, i64_w, i32_w]
    rfl
  refine one_ (i := 8) (N := some 20) #[true, true, true, true, true, true, true, true, true] rfl rfl (by kernel_rfl) (by decide) (fun K hK => ?_)
  refine goes_ Tryd.func88 (by kernel_rfl) rfl #[.bool (tPtr t (fr l d).f s == (v.k != 1)), .int .i64 5] (by rfl) rfl rfl (by simp only [List.map_toArray, List.map_cons, List.map_nil]; rfl) ?_
  with_reducible refine (HMN.out _).mono ?_
  rintro e w9 ⟨rfl, rfl⟩
  refine ⟨_, rfl, ?_⟩
  refine hK.out _ _ ⟨HB8.out.c0, HB8.out.c1, HB8.out.v0⟩ (fun hHeld => ?_)
  clear hK K
  refine norm_ (a' := ?_) ?_ ?_
  rotate_left
  · show Act.put _ (some 20) _ = _
    simp only [Act.put, List.setIfInBounds_toArray, List.set_cons_zero, List.set_cons_succ, i64_w, i32_w]
    rfl
  refine done_ (by kernel_rfl) ?_
  clear HB3 HB4 HB5 hHeld
  have HB3 := HB8.out.c0
  have HB4 := HB8.out.c1
  have HB5 := HB8.out.v0
  have HB6 := HB8.out.v2
  have HB7 := HB8.out.v3
  go_wp2_with (first | (go_at_call 95; refine (HH.out _ HB8.out.below).mono ?_; rintro e w10 ⟨rfl, hb10⟩; have HB10 := Aside0.mk (HB8.out.step hb10); have q2 := HB10.out.v2; clear hb10) | (go_at_call 88; refine (must_ok 2 _).mono ?_; rintro e w11 ⟨rfl, rfl⟩) | (go_at_call 88; refine (must_no 7 _).mono ?_; rintro e w11 ⟨rfl, rfl⟩))
  exact ⟨rfl, rfl, HB10.out.below⟩
set_option maxRecDepth 100000 in
set_option maxHeartbeats 1000000 in
theorem fits_good (a : Nat) (t : List Ent) (A : Option Addr) (c : Nat) (l : List Fr) (d s : Int) (v : Vl) (w : World) (h : IsRow w a t A c l) (h0 : 0 ≤ d) (h1 : d < l.length) (hs : I64 s) (hm : mayV v = true) (hk : (tPtr t (fr l d).f s == (v.k != 1)) = true) (hn : v.k = 2) (hh : hasS l v.d v.s = true) (hd : v.d ≤ d) :
    Calls Tryd.prog 96 #[.agg #[.pointer (some ⟨a, 0, none⟩), .slice A l.length c], .int .i64 d, .int .i64 s, .agg #[.int .u8 v.k, .int .u64 v.b, .int .i64 v.d, .int .i64 v.s]] w fun e w' => e = .returned (.tuple #[]) ∧ Below w.heap.size w w' := by
  have HM := Aside0.mk (mayOne v)
  rw [hm] at HM
  have HB := Aside0.mk (FitW.start w a A l.length c v)
  have HP := Aside0.mk (fun (W : World) (hB : Below w.heap.size w W) => rptr_calls a t A c l d s W (h.below hB) h0 h1 hs)
  have hkn : (v.k == 2) = true := by simpa using hn
  have HH := Aside0.mk (fun (W : World) (hB : Below w.heap.size w W) => rhas_calls a t A c l v.d v.s W (h.below hB))
  rw [hh] at HH
  have hdd : decide (v.d ≤ d) = true := decide_eq_true hd
  clear hn hh
  have HMN : Aside0 (∀ W, Calls Tryd.prog 88 #[.bool (tPtr t (fr l d).f s == (v.k != 1)), .int .i64 5] W fun e w' => e = .returned (.tuple #[]) ∧ W = w') := ⟨fun W => by rw [hk]; exact must_ok 5 W⟩
  clear hm h hs hk
  go_enter Tryd.func96, Tryd.ntmps96
  go_wp2_with (first | (go_at_call 136; refine (HM.out _ _ (by simp)).mono ?_; rintro e w3 ⟨rfl, hb⟩; have HB2 := Aside0.mk (HB.out.step hb); clear hb) | (go_at_call 88; refine (must_ok 1 _).mono ?_; rintro e w2 ⟨rfl, rfl⟩))
  have HB3 := HB2.out.c0
  have HB4 := HB2.out.c1
  have HB5 := HB2.out.v0
  refine start_ (n := 9) (S := fun w' => w'.cell? ⟨w.heap.size, 0, none⟩ = some (.pointer (some ⟨a, 0, none⟩)) ∧ w'.cell? ⟨w.heap.size, 1, none⟩ = some (.slice A l.length c) ∧ w'.cell? ⟨w.heap.size + 1, 0, none⟩ = some (.int .u8 v.k)) (ds := []) #[false, false, false, false, false, false, false, false, false] (by kernel_rfl) rfl rfl ⟨HB3, HB4, HB5⟩ (fun hHeld => ?_)
  refine pure_ (i := 1) (N := some 13) (v := ?_) (a' := ?_) #[false, true, false, false, false, false, false, false, false] rfl rfl (by kernel_rfl) (fun _ _ _ h => h) (Or.inl ⟨by rfl, ?_⟩) ?_ ?_
  rotate_left
  · intro w'
    go_simp
    with_reducible rfl
  rotate_left
  · simp only [Act.put, List.setIfInBounds_toArray, List.set_cons_zero, List.set_cons_succ, i64_w, i32_w]
    rfl
  refine pure_ (i := 2) (N := some 14) (v := ?_) (a' := ?_) #[false, true, true, false, false, false, false, false, false] rfl rfl (by kernel_rfl) (fun _ _ _ h => h) (Or.inl ⟨by rfl, ?_⟩) ?_ ?_
  rotate_left
  · intro w'
    go_simp
    with_reducible rfl
  rotate_left
  · simp only [Act.put, List.setIfInBounds_toArray, List.set_cons_zero, List.set_cons_succ, i64_w, i32_w]
    rfl
  refine pure_ (i := 4) (N := some 16) (v := ?_) (a' := ?_) #[false, true, true, false, true, false, false, false, false] rfl rfl (by kernel_rfl) (fun _ _ _ h => h) (Or.inl ⟨by rfl, ?_⟩) ?_ ?_
  rotate_left
  · intro w'
    go_simp
    with_reducible rfl
  rotate_left
  · simp only [Act.put, List.setIfInBounds_toArray, List.set_cons_zero, List.set_cons_succ, i64_w, i32_w]
    rfl
  refine take_ (i := 0) (N := some 12) (v := ?_) (a' := ?_) #[true, true, true, false, true, false, false, false, false] rfl rfl (by kernel_rfl) (fun _ _ _ h => h) (Or.inl ⟨by rfl, ?_⟩) hHeld ?_ ?_
  rotate_left
  · rintro w' ⟨s0, s1, s2⟩
    go_simp
    with_reducible rfl
  rotate_left
  · simp only [Act.put, List.setIfInBounds_toArray, List.set_cons_zero, List.set_cons_succ, i64_w, i32_w]
    rfl
  refine take_ (i := 5) (N := some 17) (v := ?_) (a' := ?_) #[true, true, true, false, true, true, false, false, false] rfl rfl (by kernel_rfl) (fun _ _ _ h => h) (Or.inl ⟨by rfl, ?_⟩) hHeld ?_ ?_
  rotate_left
  · rintro w' ⟨s0, s1, s2⟩
    go_simp
    with_reducible rfl
  rotate_left
  · simp only [Act.put, List.setIfInBounds_toArray, List.set_cons_zero, List.set_cons_succ, i64_w, i32_w]
    rfl
  refine pure_ (i := 6) (N := some 18) (v := ?_) (a' := ?_) #[true, true, true, false, true, true, true, false, false] rfl rfl (by kernel_rfl) (fun _ _ _ h => h) (Or.inl ⟨by rfl, ?_⟩) ?_ ?_
  rotate_left
  · intro w'
    go_simp
    with_reducible rfl
  rotate_left
  · simp only [Act.put, List.setIfInBounds_toArray, List.set_cons_zero, List.set_cons_succ, i64_w, i32_w]
    rfl
  refine one_ (i := 3) (N := some 15) #[true, true, true, true, true, true, true, false, false] rfl rfl (by kernel_rfl) (by decide) (fun K hK => ?_)
  refine goes_ Tryd.func102 (by kernel_rfl) rfl #[.agg #[.pointer (some ⟨a, 0, none⟩), .slice A l.length c], .int .i64 d, .int .i64 s] (by rfl) rfl rfl (by simp only [List.map_toArray, List.map_cons, List.map_nil]; rfl) ?_
  with_reducible refine (HP.out _ (below_drew HB2.out.below)).mono ?_
  rintro e w8 ⟨rfl, hB8⟩
  refine ⟨_, rfl, ?_⟩
  have HB8 := Aside0.mk (HB2.out.step (below_of_drew hB8))
  clear hB8
  refine hK.out _ _ ⟨HB8.out.c0, HB8.out.c1, HB8.out.v0⟩ (fun hHeld => ?_)
  clear hK K
  refine norm_ (a' := ?_) ?_ ?_
  rotate_left
  · show Act.put _ (some 15) _ = _
    simp only [Act.put, List.setIfInBounds_toArray, List.set_cons_zero, List.set_cons_succ, i64_w, i32_w]
    rfl
  refine pure_ (i := 7) (N := some 19) (v := ?_) (a' := ?_) #[true, true, true, true, true, true, true, true, false] rfl rfl (by kernel_rfl) (fun _ _ _ h => h) (Or.inl ⟨by rfl, ?_⟩) ?_ ?_
  rotate_left
  · intro w'
    go_simp
    with_reducible rfl
  rotate_left
  · simp only [Act.put, List.setIfInBounds_toArray, List.set_cons_zero, List.set_cons_succ, i64_w, i32_w]
    rfl
  refine one_ (i := 8) (N := some 20) #[true, true, true, true, true, true, true, true, true] rfl rfl (by kernel_rfl) (by decide) (fun K hK => ?_)
  refine goes_ Tryd.func88 (by kernel_rfl) rfl #[.bool (tPtr t (fr l d).f s == (v.k != 1)), .int .i64 5] (by rfl) rfl rfl (by simp only [List.map_toArray, List.map_cons, List.map_nil]; rfl) ?_
  with_reducible refine (HMN.out _).mono ?_
  rintro e w9 ⟨rfl, rfl⟩
  refine ⟨_, rfl, ?_⟩
  refine hK.out _ _ ⟨HB8.out.c0, HB8.out.c1, HB8.out.v0⟩ (fun hHeld => ?_)
  clear hK K
  refine norm_ (a' := ?_) ?_ ?_
  rotate_left
  · show Act.put _ (some 20) _ = _
    simp only [Act.put, List.setIfInBounds_toArray, List.set_cons_zero, List.set_cons_succ, i64_w, i32_w]
    rfl
  refine done_ (by kernel_rfl) ?_
  clear HB3 HB4 HB5 hHeld
  have HB3 := HB8.out.c0
  have HB4 := HB8.out.c1
  have HB5 := HB8.out.v0
  have HB6 := HB8.out.v2
  have HB7 := HB8.out.v3
  go_wp2_with (first | (go_at_call 95; refine (HH.out _ HB8.out.below).mono ?_; rintro e w10 ⟨rfl, hb10⟩; have HB10 := Aside0.mk (HB8.out.step hb10); have q2 := HB10.out.v2; clear hb10) | (go_at_call 88; refine (must_ok 2 _).mono ?_; rintro e w11 ⟨rfl, rfl⟩) | (go_at_call 88; refine (must_ok 7 _).mono ?_; rintro e w11 ⟨rfl, rfl⟩))
  go_end0
  exact ⟨rfl, HB10.out.below⟩
/-- row.fits, whatever the value. -/
theorem rfits_calls (a : Nat) (t : List Ent) (A : Option Addr) (c : Nat) (l : List Fr) (d s : Int) (v : Vl) (w : World) (h : IsRow w a t A c l) (h0 : 0 ≤ d) (h1 : d < l.length) (hs : I64 s) :
    Calls Tryd.prog 96 #[.agg #[.pointer (some ⟨a, 0, none⟩), .slice A l.length c], .int .i64 d, .int .i64 s, .agg #[.int .u8 v.k, .int .u64 v.b, .int .i64 v.d, .int .i64 v.s]] w fun e w' => Thrown (fitsE t l d s v) e ∧ Below w.heap.size w w' := by
  cases hm : mayV v
  · have e1 : fitsE t l d s v = 1 := by unfold fitsE; rw [if_pos hm]
    exact (fits_may a A c l.length d s v w hm).mono fun e w' ⟨he, hb⟩ => ⟨Or.inr ⟨by rw [e1]; decide, by rw [e1]; exact he⟩, hb⟩
  · have g1 : ¬ mayV v = false := by rw [hm]; decide
    cases hk : (tPtr t (fr l d).f s == (v.k != 1))
    · have e1 : fitsE t l d s v = 5 := by unfold fitsE; rw [if_neg g1, if_pos hk]
      exact (fits_kind a t A c l d s v w h h0 h1 hs hm hk).mono fun e w' ⟨he, hb⟩ => ⟨Or.inr ⟨by rw [e1]; decide, by rw [e1]; exact he⟩, hb⟩
    · have g2 : ¬ (tPtr t (fr l d).f s == (v.k != 1)) = false := by rw [hk]; decide
      by_cases hn : v.k = 2
      · cases hh : hasS l v.d v.s
        · have e1 : fitsE t l d s v = 2 := by unfold fitsE; rw [if_neg g1, if_neg g2, if_pos hn, if_pos hh]
          exact (fits_ref a t A c l d s v w h h0 h1 hs hm hk hn hh).mono fun e w' ⟨he, hb⟩ => ⟨Or.inr ⟨by rw [e1]; decide, by rw [e1]; exact he⟩, hb⟩
        · have g3 : ¬ hasS l v.d v.s = false := by rw [hh]; decide
          by_cases hd : d < v.d
          · have e1 : fitsE t l d s v = 7 := by unfold fitsE; rw [if_neg g1, if_neg g2, if_pos hn, if_neg g3, if_pos hd]
            exact (fits_deep a t A c l d s v w h h0 h1 hs hm hk hn hh hd).mono fun e w' ⟨he, hb⟩ => ⟨Or.inr ⟨by rw [e1]; decide, by rw [e1]; exact he⟩, hb⟩
          · have e1 : fitsE t l d s v = 0 := by unfold fitsE; rw [if_neg g1, if_neg g2, if_pos hn, if_neg g3, if_neg hd]
            exact (fits_good a t A c l d s v w h h0 h1 hs hm hk hn hh (by omega)).mono fun e w' ⟨he, hb⟩ => ⟨Or.inl ⟨e1, he⟩, hb⟩
      · have e1 : fitsE t l d s v = 0 := by unfold fitsE; rw [if_neg g1, if_neg g2, if_neg hn]
        exact (fits_scalar a t A c l d s v w h h0 h1 hs hm hk hn).mono fun e w' ⟨he, hb⟩ => ⟨Or.inl ⟨e1, he⟩, hb⟩
end Go.Proofs.YtfaghjadjpiaiaaDoor.Sh
namespace Go.Proofs.YtfaghjadjpiaiaaDoor.Sh
open Go.RowKit Go.Shelf Go.Proofs.YtfaghjadjpiaiaaDoorW.PrintWords Go.Proofs.YtfaghjadjpiaiaaDoorW.PrintLast Go.Proofs.YtfaghjadjpiaiaaDoorW.PrintMore
set_option linter.unusedVariables false
set_option linter.unusedSimpArgs false
theorem caught_idle (p : Addr) (w : World) :
    CallsD Tryd.prog 132 #[.pointer (some p)] .returning w fun e u' w' => e = .returned (.tuple #[]) ∧ u' = .returning ∧ w = w' := by
  refine callsD_of_wpS Tryd.func132 rfl fun c₀ cs hu => ?_
  simp only [Tryd.ntmps132, List.size_toArray, List.length_cons, List.length_nil, Nat.reduceAdd, Nat.reduceSub, Array.replicate_succ, Array.replicate_zero, List.push_toArray, List.append_toArray, List.nil_append, List.cons_append]
  apply wpS_seq
  apply wpS_region
  simp [wpOpsS, go_sem, recoverD, hu, Exit.thenS]
  have HU := Aside0.mk hu
  clear hu
  refine wpS_of_wp ?_
  go_wp2
  cases c₀
  have h := HU.out
  simp only at h
  subst h
  simp [bodyPostS, results, Tryd.results132]
theorem assert_wrong (x : Int) (w : World) : (Instr.typeAssert (.iface 188 (.agg #[.int .i64 x])) 20 188 true).run Tryd.prog w = .ok (.tuple #[.agg #[.int .i64 x], .bool true]) w := by kernel_rfl
set_option maxRecDepth 100000 in
theorem caught_wrong (p : Addr) (x y : Int) (w : World) (hc : w.cell? p = some (.int .i64 y)) (hz : w.frozen? p = false) (hp : p.block < w.heap.size) :
    CallsD Tryd.prog 132 #[.pointer (some p)] (.panicking (Wrong x)) w fun e u' w' => e = .returned (.tuple #[]) ∧ u' = .panicking [{ v := .iface 188 (.agg #[.int .i64 x]), recovered := true }] ∧ w' = (w.alloc (.cells #[.int .i64 x] 188)).setCell p (.int .i64 x) := by
  have hta := assert_wrong x
  have hc2 : (w.alloc (.cells #[.int .i64 x] 188)).cell? p = some (.int .i64 y) := pw_cell_below (below_alloc (Below.refl _ _) _) hc
  have hz2 : (w.alloc (.cells #[.int .i64 x] 188)).frozen? p = false := ((below_alloc (Below.refl _ _) (.cells #[.int .i64 x] 188)).frozen hp).trans hz
  refine callsD_of_wpS Tryd.func132 rfl fun c₀ cs hu => ?_
  simp only [Tryd.ntmps132, List.size_toArray, List.length_cons, List.length_nil, Nat.reduceAdd, Nat.reduceSub, Array.replicate_succ, Array.replicate_zero, List.push_toArray, List.append_toArray, List.nil_append, List.cons_append]
  simp only [Wrong] at hu
  apply wpS_seq
  apply wpS_region
  simp [wpOpsS, go_sem, recoverD, hu, Exit.thenS]
  clear hu
  refine wpS_of_wp ?_
  generalize hcss : ({ c₀ with mode := _ } :: cs : List Frame) = css
  have HCS := Aside0.mk hcss
  clear hcss
  go_wp2
  have h := HCS.out
  subst h
  simp [bodyPostS, results, Tryd.results132]
end Go.Proofs.YtfaghjadjpiaiaaDoor.Sh
