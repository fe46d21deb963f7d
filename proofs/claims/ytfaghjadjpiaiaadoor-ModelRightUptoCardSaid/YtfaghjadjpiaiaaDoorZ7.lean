/- ModelRight answers true at every input whose bulk is at most 1048576, and leaves its input alone; the table of math/bits reads as the program's text lays it. -/
import Derived.Test.YtfaghjadjpiaiaaDoorZ6
import Derived.Test.YtfaghjadjpiaiaaDoorRows
import Derived.WalkKit
import Derived.ProofKit
import Derived.OpenShut
import Derived.Deep.Slices
import Derived.Lib.SmallJoins
import Derived.Test.YtfaghjadjpiaiaaDoorCards
import Derived.Test.YtfaghjadjpiaiaaDoorTie
import Derived.ChangeOld
import Derived.Below
import Derived.Carry
import Derived.Deep.DeepHandedRow
import Derived.Lib.LaidTab
import Derived.Lib.TrailingZeros
namespace Go.Proofs.YtfaghjadjpiaiaaDoor.Sh
open Go.ChangeShapes Go.WideShapes Go.ChangeAt Go.RowKit Go.Shelf Go.Proofs.YtfaghjadjpiaiaaDoorW.PrintWords Go.Proofs.YtfaghjadjpiaiaaDoorW.PrintLast Go.Proofs.YtfaghjadjpiaiaaDoorW.PrintMore
set_option linter.unusedVariables false
set_option linter.unusedSimpArgs false
theorem bulk_pos {H : Type} (d : DataW H) : 1 ≤ Rows.uptoBulk d := by
  cases d <;> first | (unfold Rows.uptoBulk; omega) | skip
  rename_i l
  cases l <;> (unfold Rows.uptoBulk; omega)
theorem bulk_mem {H : Type} : ∀ {L : List (DataW H)} {d : DataW H}, d ∈ L → Rows.uptoBulk d ≤ Rows.uptoBulkAll L
  | [], d, h => by cases h
  | x :: r, d, h => by
    unfold Rows.uptoBulkAll
    rcases List.mem_cons.1 h with rfl | h
    · omega
    · have := bulk_mem h
      omega
theorem bulk_len {H : Type} : ∀ (L : List (DataW H)), L.length ≤ Rows.uptoBulkAll L
  | [] => by simp
  | x :: r => by
    unfold Rows.uptoBulkAll
    have := bulk_len r
    have := bulk_pos x
    simp
    omega
section
variable {H : Type} {enc : TypeId × Value → H} {w : World}
/-- A slice's elements, read one by one. -/
theorem read_slice {α : Type} {d : Kd α} {Q : α → DataW H → Prop} {t e : TypeId} {fuel : Nat} {v : Value} {x : DataW H × List MemPlace} (ht : Tryd.prog.underlying t = some (.slice e)) (hc : Tryd.prog.cellsOf e = d.sz) (z : α)
    (helem : ∀ (n : Nat) (cs : List Value) (y : DataW H × List MemPlace), DataW.trod enc Tryd.prog w 0 (fun _ => true) true n e cs = some y → ∃ a, d.K w a cs ∧ cs.length = d.sz ∧ Q a y.1)
    (h : DataW.trod enc Tryd.prog w 0 (fun _ => true) true fuel t [v] = some x) :
    ∃ (A : Option Addr) (c : Nat) (xs : List α), v = .slice A xs.length c ∧ d.C w A xs.length xs ∧ xs.length ≤ c ∧ xs.length ≤ Rows.uptoBulk x.1 ∧ ∀ a ∈ xs, ∃ D, Q a D ∧ Rows.uptoBulk D ≤ Rows.uptoBulk x.1 := by
  rcases Go.Deep.open_slice ht h with ⟨hcs, _⟩ | ⟨a, len, cap, m, n, D, Pl, hcs, _, hl, hm, hmm, hx, hel⟩
  · simp at hcs
    subst hcs
    exact ⟨none, 0, [], rfl, Kd.C_nil _ _, Nat.le_refl _, Nat.zero_le _, fun a ha => by cases ha⟩
  · simp at hcs
    subst hcs
    have hlm : len ≤ m := by rw [hmm]; simpa using hl
    have each : ∀ i, i < len → ∃ a1, ∃ cs, w.cells? 0 (a.add (i * d.sz)) d.sz = some cs ∧ d.K w a1 cs ∧ cs.length = d.sz ∧ Q a1 (D i) := by
      intro i hi
      obtain ⟨cs, h1, h2⟩ := hel i (by omega)
      obtain ⟨a1, k1, k2, k3⟩ := helem _ _ _ h2
      rw [hc] at h1
      exact ⟨a1, cs, h1, k1, k2, k3⟩
    let f : Nat → α := fun i => open Classical in if hi : i < len then (each i hi).choose else z
    have hf : ∀ i (hi : i < len), f i = (each i hi).choose := fun i hi => by simp [f, hi]
    have hmx : ((List.range len).map f).length ≤ 9223372036854775807 := by
      have h1 : maxLen ≤ 9223372036854775807 := by unfold maxLen; omega
      simp
      omega
    refine ⟨some a, cap, (List.range len).map f, by simp, ⟨rfl, hmx, fun _ => ⟨a, rfl, fun j p hj => ?_⟩⟩, by simpa using hl, ?_, ?_⟩
    · rw [List.getElem?_map] at hj
      obtain ⟨i, hi, rfl⟩ := Option.map_eq_some_iff.1 hj
      have hlt : j < len := by simpa using (List.getElem?_eq_some_iff.1 hi).1
      have hij : i = j := by simp [List.getElem?_range hlt] at hi; exact hi.symm
      subst hij
      rw [hf i hlt]
      obtain ⟨cs, h1, k1, k2, k3⟩ := (each i hlt).choose_spec
      refine ⟨cs, k2, k1, fun q u hu => ?_⟩
      obtain ⟨_, _, h3⟩ := World.cells?_some h1
      have hq : q < d.sz := by rw [← k2]; exact (List.getElem?_eq_some_iff.1 hu).1
      have := h3 q hq
      rw [hu] at this
      rw [← this, Addr.add_add]
    · rw [hx]
      have := bulk_len ((List.range len).map D)
      simp at this
      show _ ≤ Rows.uptoBulk (DataW.slice _ _)
      rw [Rows.uptoBulk]
      simp
      omega
    · intro b hb
      simp only [List.mem_map, List.mem_range] at hb
      obtain ⟨i, hi, rfl⟩ := hb
      rw [hf i hi]
      refine ⟨D i, (each i hi).choose_spec.choose_spec.2.2.2, ?_⟩
      rw [hx]
      have := bulk_mem (L := (List.range len).map D) (d := D i) (List.mem_map.2 ⟨i, List.mem_range.2 hi, rfl⟩)
      show _ ≤ Rows.uptoBulk (DataW.slice _ _)
      rw [Rows.uptoBulk]
      omega
end
end Go.Proofs.YtfaghjadjpiaiaaDoor.Sh
namespace Go.Proofs.YtfaghjadjpiaiaaDoor.Sh
open Go.ChangeShapes Go.WideShapes Go.ChangeAt Go.RowKit Go.Shelf Go.Proofs.YtfaghjadjpiaiaaDoorW.PrintWords Go.Proofs.YtfaghjadjpiaiaaDoorW.PrintLast Go.Proofs.YtfaghjadjpiaiaaDoorW.PrintMore
set_option linter.unusedVariables false
set_option linter.unusedSimpArgs false
section
variable {H : Type} {enc : TypeId × Value → H} {w : World}
theorem wf_i64 {n : Int} (h : (Lit.int .i64 n).wf = true) : I64 n := by
  have : IntKind.i64.min ≤ n ∧ n ≤ IntKind.i64.max := by simpa [Lit.wf] using h
  exact this
theorem wf_u64 {n : Int} (h : (Lit.int .u64 n).wf = true) : U64 n := by
  have h1 : IntKind.u64.min ≤ n ∧ n ≤ IntKind.u64.max := by simpa [Lit.wf] using h
  have h2 : 0 ≤ n ∧ n ≤ 18446744073709551615 := h1
  exact ⟨h2.1, by omega⟩
theorem wf_u8 {n : Int} (h : (Lit.int .u8 n).wf = true) : 0 ≤ n := by
  have h1 : IntKind.u8.min ≤ n ∧ n ≤ IntKind.u8.max := by simpa [Lit.wf] using h
  exact h1.1
theorem read_ints {n : Nat} {v : Value} {x : DataW H × List MemPlace} (h : DataW.trod enc Tryd.prog w 0 (fun _ => true) true n 27 [v] = some x) :
    ∃ (A : Option Addr) (c : Nat) (xs : List Int), v = .slice A xs.length c ∧ (Kd.int .i64).C w A xs.length xs ∧ xs.length ≤ c ∧ ∀ a ∈ xs, (Lit.int .i64 a).wf = true := by
  obtain ⟨A, c, xs, h1, h2, h3, _, h5⟩ := read_slice (d := Kd.int .i64) (Q := fun a _ => (Lit.int .i64 a).wf = true) Tryd.underlying27 (by kernel_rfl) 0 (fun n cs y hy => by
    obtain ⟨a, rfl, _, hw⟩ := DataW.trod_int Tryd.underlying3 hy
    exact ⟨a, rfl, rfl, hw⟩) h
  exact ⟨A, c, xs, h1, h2, h3, fun a ha => by obtain ⟨_, hq, _⟩ := h5 a ha; exact hq⟩
theorem read_words {n : Nat} {v : Value} {x : DataW H × List MemPlace} (h : DataW.trod enc Tryd.prog w 0 (fun _ => true) true n 42 [v] = some x) :
    ∃ (A : Option Addr) (c : Nat) (xs : List Int), v = .slice A xs.length c ∧ (Kd.int .u64).C w A xs.length xs ∧ xs.length ≤ c ∧ xs.length ≤ Rows.uptoBulk x.1 ∧ ∀ a ∈ xs, (Lit.int .u64 a).wf = true := by
  obtain ⟨A, c, xs, h1, h2, h3, h4, h5⟩ := read_slice (d := Kd.int .u64) (Q := fun a _ => (Lit.int .u64 a).wf = true) Tryd.underlying42 (by kernel_rfl) 0 (fun n cs y hy => by
    obtain ⟨a, rfl, _, hw⟩ := DataW.trod_int Tryd.underlying24 hy
    exact ⟨a, rfl, rfl, hw⟩) h
  exact ⟨A, c, xs, h1, h2, h3, h4, fun a ha => by obtain ⟨_, hq, _⟩ := h5 a ha; exact hq⟩
set_option maxRecDepth 100000 in
theorem read_Fn {n : Nat} {cs : List Value} {x : DataW H × List MemPlace} (h : DataW.trod enc Tryd.prog w 0 (fun _ => true) true n 88 cs = some x) :
    ∃ f : Fn0, kFn.K w f cs ∧ cs.length = kFn.sz ∧ ((Lit.int .i64 f.size).wf = true ∧ (∀ a ∈ f.bits, (Lit.int .u64 a).wf = true) ∧ f.bits.length ≤ Rows.uptoBulk x.1) := by
  obtain ⟨y0, y1, m, hx1, hl, h0, h1⟩ := trod_struct2 Tryd.underlying88 h
  have hl2 : cs.length = 2 := hl.trans (by kernel_rfl)
  match cs, hl2 with
  | [u0, u1], _ =>
    have h0 : DataW.trod enc Tryd.prog w 0 (fun _ => true) true m 3 [u0] = some y0 := h0
    have h1 : DataW.trod enc Tryd.prog w 0 (fun _ => true) true m 42 [u1] = some y1 := h1
    obtain ⟨a, he, _, hw⟩ := DataW.trod_int Tryd.underlying3 h0
    cases he
    obtain ⟨A, c, xs, rfl, hC, hc, hb, hx⟩ := read_words h1
    refine ⟨⟨a, xs⟩, ⟨[.int .i64 a], [.slice A xs.length c], rfl, rfl, ⟨A, c, rfl, hc, hC⟩⟩, rfl, hw, hx, ?_⟩
    rw [hx1]
    show xs.length ≤ Rows.uptoBulk (DataW.agg [y0.1, y1.1])
    rw [Rows.uptoBulk, Rows.uptoBulkAll, Rows.uptoBulkAll, Rows.uptoBulkAll]
    omega
set_option maxRecDepth 100000 in
theorem read_Vl {n : Nat} {cs : List Value} {x : DataW H × List MemPlace} (h : DataW.trod enc Tryd.prog w 0 (fun _ => true) true n 26 cs = some x) :
    ∃ v : Vl, kVl.K w v cs ∧ cs.length = kVl.sz ∧ ((Lit.int .u8 v.k).wf = true ∧ (Lit.int .u64 v.b).wf = true ∧ (Lit.int .i64 v.d).wf = true ∧ (Lit.int .i64 v.s).wf = true) := by
  obtain ⟨y0, y1, y2, y3, m, _, hl, h0, h1, h2, h3⟩ := Go.Joins.trod_struct4 Tryd.underlying26 h
  have hl2 : cs.length = 4 := hl.trans (by kernel_rfl)
  match cs, hl2 with
  | [u0, u1, u2, u3], _ =>
    have h0 : DataW.trod enc Tryd.prog w 0 (fun _ => true) true m 5 [u0] = some y0 := h0
    have h1 : DataW.trod enc Tryd.prog w 0 (fun _ => true) true m 24 [u1] = some y1 := h1
    have h2 : DataW.trod enc Tryd.prog w 0 (fun _ => true) true m 3 [u2] = some y2 := h2
    have h3 : DataW.trod enc Tryd.prog w 0 (fun _ => true) true m 3 [u3] = some y3 := h3
    obtain ⟨a0, e0, _, w0⟩ := DataW.trod_int Tryd.underlying5 h0
    obtain ⟨a1, e1, _, w1⟩ := DataW.trod_int Tryd.underlying24 h1
    obtain ⟨a2, e2, _, w2⟩ := DataW.trod_int Tryd.underlying3 h2
    obtain ⟨a3, e3, _, w3⟩ := DataW.trod_int Tryd.underlying3 h3
    cases e0; cases e1; cases e2; cases e3
    exact ⟨⟨a0, a1, a2, a3⟩, kVl_mk w _, rfl, w0, w1, w2, w3⟩
def VlWf (v : Vl) : Prop := (Lit.int .u8 v.k).wf = true ∧ (Lit.int .u64 v.b).wf = true ∧ (Lit.int .i64 v.d).wf = true ∧ (Lit.int .i64 v.s).wf = true
theorem read_Vls {n : Nat} {v : Value} {x : DataW H × List MemPlace} (h : DataW.trod enc Tryd.prog w 0 (fun _ => true) true n 78 [v] = some x) :
    ∃ (A : Option Addr) (c : Nat) (xs : List Vl), v = .slice A xs.length c ∧ kVl.C w A xs.length xs ∧ xs.length ≤ c ∧ ∀ a ∈ xs, VlWf a := by
  obtain ⟨A, c, xs, h1, h2, h3, _, h5⟩ := read_slice (d := kVl) (Q := fun a _ => VlWf a) Tryd.underlying78 (by kernel_rfl) zVl (fun n cs y hy => read_Vl hy) h
  exact ⟨A, c, xs, h1, h2, h3, fun a ha => by obtain ⟨_, hq, _⟩ := h5 a ha; exact hq⟩
set_option maxRecDepth 100000 in
theorem read_Fr {n : Nat} {cs : List Value} {x : DataW H × List MemPlace} (h : DataW.trod enc Tryd.prog w 0 (fun _ => true) true n 80 cs = some x) :
    ∃ f : Fr, kFr.K w f cs ∧ cs.length = kFr.sz ∧ ((Lit.int .i64 f.f).wf = true ∧ ∀ a ∈ f.l, VlWf a) := by
  obtain ⟨y0, y1, m, _, hl, h0, h1⟩ := trod_struct2 Tryd.underlying80 h
  have hl2 : cs.length = 2 := hl.trans (by kernel_rfl)
  match cs, hl2 with
  | [u0, u1], _ =>
    have h0 : DataW.trod enc Tryd.prog w 0 (fun _ => true) true m 3 [u0] = some y0 := h0
    have h1 : DataW.trod enc Tryd.prog w 0 (fun _ => true) true m 78 [u1] = some y1 := h1
    obtain ⟨a, he, _, hw⟩ := DataW.trod_int Tryd.underlying3 h0
    cases he
    obtain ⟨A, c, xs, rfl, hC, hc, hx⟩ := read_Vls h1
    exact ⟨⟨a, xs⟩, ⟨[.int .i64 a], [.slice A xs.length c], rfl, rfl, ⟨A, c, rfl, hc, hC⟩⟩, rfl, hw, hx⟩
theorem read_Fns {n : Nat} {v : Value} {x : DataW H × List MemPlace} (h : DataW.trod enc Tryd.prog w 0 (fun _ => true) true n 22 [v] = some x) (hb : Rows.uptoBulk x.1 ≤ 1048576) :
    ∃ (A : Option Addr) (c : Nat) (xs : List Fn0), v = .slice A xs.length c ∧ kFn.C w A xs.length xs ∧ xs.length ≤ c ∧ ∀ f ∈ xs, FnOk f := by
  obtain ⟨A, c, xs, h1, h2, h3, _, h5⟩ := read_slice (d := kFn) (Q := fun f D => (Lit.int .i64 f.size).wf = true ∧ (∀ a ∈ f.bits, (Lit.int .u64 a).wf = true) ∧ f.bits.length ≤ Rows.uptoBulk D) Tryd.underlying22 (by kernel_rfl) ⟨0, []⟩ (fun n cs y hy => read_Fn hy) h
  refine ⟨A, c, xs, h1, h2, h3, fun f hf => ?_⟩
  obtain ⟨D, ⟨q1, q2, q3⟩, q4⟩ := h5 f hf
  exact ⟨wf_i64 q1, fun a ha => wf_u64 (q2 a ha), by omega⟩
theorem read_Frs {n : Nat} {v : Value} {x : DataW H × List MemPlace} (h : DataW.trod enc Tryd.prog w 0 (fun _ => true) true n 23 [v] = some x) :
    ∃ (A : Option Addr) (c : Nat) (xs : List Fr), v = .slice A xs.length c ∧ kFr.C w A xs.length xs ∧ xs.length ≤ c ∧ WfL xs := by
  obtain ⟨A, c, xs, h1, h2, h3, _, h5⟩ := read_slice (d := kFr) (Q := fun f _ => (Lit.int .i64 f.f).wf = true ∧ ∀ a ∈ f.l, VlWf a) Tryd.underlying23 (by kernel_rfl) zFr (fun n cs y hy => read_Fr hy) h
  refine ⟨A, c, xs, h1, h2, h3, fun f hf v hv => ?_⟩
  obtain ⟨D, ⟨_, q2⟩, _⟩ := h5 f hf
  exact wf_u8 (q2 v hv).1
end
end Go.Proofs.YtfaghjadjpiaiaaDoor.Sh
namespace Go.Proofs.YtfaghjadjpiaiaaDoor.Sh
open Go.ChangeShapes Go.WideShapes Go.ChangeAt Go.RowKit Go.Shelf Go.Proofs.YtfaghjadjpiaiaaDoorW.PrintWords Go.Proofs.YtfaghjadjpiaiaaDoorW.PrintLast Go.Proofs.YtfaghjadjpiaiaaDoorW.PrintMore
set_option linter.unusedVariables false
set_option linter.unusedSimpArgs false
section
variable {H : Type} {enc : TypeId × Value → H} {w : World}
set_option maxRecDepth 100000 in
theorem read_Act {n : Nat} {cs : List Value} {x : DataW H × List MemPlace} (h : DataW.trod enc Tryd.prog w 0 (fun _ => true) true n 29 cs = some x) :
    ∃ y : Ac, cs = [.int .i64 y.kind, .int .i64 y.f, .int .i64 y.d, .int .i64 y.s, .int .u8 y.v.k, .int .u64 y.v.b, .int .i64 y.v.d, .int .i64 y.v.s, .int .u64 y.bits, .int .u8 y.op, .slice y.A y.ns.length y.c] ∧ AcOk w y ∧ VlWf y.v := by
  obtain ⟨xs, m, _, _, hl, hlen, hf⟩ := DataW.trod_struct Tryd.underlying29 h
  have hl2 : cs.length = 11 := hl.trans (by kernel_rfl)
  match cs, hl2 with
  | [u0, u1, u2, u3, u4, u5, u6, u7, u8, u9, u10], _ =>
    have h0 : DataW.trod enc Tryd.prog w 0 (fun _ => true) true m 3 [u0] = xs[0]? := hf 0 _ rfl
    have h1 : DataW.trod enc Tryd.prog w 0 (fun _ => true) true m 3 [u1] = xs[1]? := hf 1 _ rfl
    have h2 : DataW.trod enc Tryd.prog w 0 (fun _ => true) true m 3 [u2] = xs[2]? := hf 2 _ rfl
    have h3 : DataW.trod enc Tryd.prog w 0 (fun _ => true) true m 3 [u3] = xs[3]? := hf 3 _ rfl
    have h4 : DataW.trod enc Tryd.prog w 0 (fun _ => true) true m 26 [u4, u5, u6, u7] = xs[4]? := hf 4 _ rfl
    have h5 : DataW.trod enc Tryd.prog w 0 (fun _ => true) true m 24 [u8] = xs[5]? := hf 5 _ rfl
    have h6 : DataW.trod enc Tryd.prog w 0 (fun _ => true) true m 5 [u9] = xs[6]? := hf 6 _ rfl
    have h7 : DataW.trod enc Tryd.prog w 0 (fun _ => true) true m 27 [u10] = xs[7]? := hf 7 _ rfl
    have hl8 : xs.length = 8 := hlen
    match xs, hl8 with
    | [z0, z1, z2, z3, z4, z5, z6, z7], _ =>
      obtain ⟨a0, e0, _, w0⟩ := DataW.trod_int Tryd.underlying3 h0
      obtain ⟨a1, e1, _, w1⟩ := DataW.trod_int Tryd.underlying3 h1
      obtain ⟨a2, e2, _, w2⟩ := DataW.trod_int Tryd.underlying3 h2
      obtain ⟨a3, e3, _, w3⟩ := DataW.trod_int Tryd.underlying3 h3
      obtain ⟨v, k4, _, w4⟩ := read_Vl h4
      obtain ⟨a5, e5, _, w5⟩ := DataW.trod_int Tryd.underlying24 h5
      obtain ⟨a6, e6, _, w6⟩ := DataW.trod_int Tryd.underlying5 h6
      obtain ⟨A, c, ns, rfl, hC, hc, hx⟩ := read_ints h7
      have k4' := kVl_open k4
      unfold Vl.cells at k4'
      cases e0; cases e1; cases e2; cases e3; cases e5; cases e6
      injection k4' with g0 k4'
      injection k4' with g1 k4'
      injection k4' with g2 k4'
      injection k4' with g3 k4'
      subst g0; subst g1; subst g2; subst g3
      exact ⟨⟨a0, a1, a2, a3, v, a5, a6, A, c, ns⟩, rfl, ⟨wf_i64 w3, fun a ha => wf_i64 (hx a ha), hC⟩, w4⟩
end
end Go.Proofs.YtfaghjadjpiaiaaDoor.Sh
namespace Go.Proofs.YtfaghjadjpiaiaaDoor.Sh
open Go.ChangeShapes Go.WideShapes Go.ChangeAt Go.RowKit
set_option linter.unusedVariables false
theorem row_own : ownKnob Tryd.prog.godebug = none := by kernel_rfl
theorem row_laidOut : laidOutB Tryd.prog = true := by kernel_rfl
theorem row_tab : Tryd.prog.globalNamed "math/bits.deBruijn64tab" = some 0 := by kernel_rfl
theorem row_tabType : (Tryd.prog.globals[0]?).map (·.type) = some 183 := by kernel_rfl
theorem row_cells64 : Tryd.prog.cellsOf 183 = 64 := by kernel_rfl
theorem row_cells8 : Tryd.prog.cellsOf 5 = 1 := by kernel_rfl
theorem trodAll_stays {H : Type} {enc : TypeId × Value → H} {P : Program} (hl : laidOutB P = true) {W W' : World} (hb : Below W.heap.size W W') :
    ∀ (ts : List TypeId) (vs : List Value) (ds : List (DataW H)) (ps : List MemPlace), (ts.all fun t => P.readableRec t && decide (t < P.types.size)) = true →
      DataW.TrodAll enc P W 0 (fun _ => true) true ts vs ds ps → (∀ x ∈ ps, x.block < W.heap.size) → DataW.TrodAll enc P W' 0 (fun b => decide (b < W.heap.size)) true ts vs ds ps
  | [], vs, ds, ps, _, h, _ => by
    obtain ⟨rfl, rfl, rfl⟩ := trodAll_nil h
    exact trodAll_mk0
  | t :: ts, vs, ds, ps, hts, h, hlt => by
    simp only [List.all_cons, Bool.and_eq_true, decide_eq_true_eq] at hts
    obtain ⟨v, vs', d, ds', p, q, rfl, rfl, rfl, h0, hr⟩ := trodAll_cons h
    exact trodAll_cons_mk (Below.trod hl hts.1.1 hts.1.2 h0 hb (fun x hx => hlt x (List.mem_append_left _ hx)))
      (trodAll_stays hl hb ts vs' ds' q (by simpa using hts.2) hr (fun x hx => hlt x (List.mem_append_right _ hx)))
/-- A law's post, where the call answers true and leaves all that was there. -/
theorem post_true {H : Type} {enc : TypeId × Value → H} {W W' : World} {s : ChangeSpec} {f : Func} {args : Array Value} {ds : List (DataW H)} {before : List MemPlace} (hv : s.vars = []) (hr : f.resultTypes = #[4])
    (hts : (f.params.toList.all fun t => Tryd.prog.readableRec t && decide (t < Tryd.prog.types.size)) = true)
    (hfn : s.fn H (ds ++ []) = { results := [.lit (.bool true)], args := ds, vars := [] })
    (hW : DataW.Whole enc Tryd.prog f.params.toList s.vars false W args.toList ds [] before) (hb : Below W.heap.size W W') :
    s.post enc Tryd.prog f false true false false W args (.bool true) W' := by
  have hW' := hW
  have hlt := hW.lt
  obtain ⟨p, q, hA, hV, rfl, hfz, hnd⟩ := hW
  refine ⟨ds, [], _, [], p, [], hW', ?_, ?_, ?_, hb.frame _, fun h => by cases h⟩
  · rw [hr, hfn]
    exact trodAll_mk1 (shut_bool Tryd.underlying4 _)
  · rw [hfn]
    exact trodAll_stays row_laidOut hb _ _ _ _ hts hA (fun x hx => hlt x (List.mem_append_left _ hx))
  · rw [hfn, hv]
    rfl
/-- A world that holds the table. -/
noncomputable def rowWorld (os : Os) : World :=
  { World.holding Tryd.prog os ⟨#[], #[], []⟩ with heap := (World.holding Tryd.prog os ⟨#[], #[], []⟩).heap.modify 0 fun
      | .cells _ t frozen => .cells (Lib.deBruijn64tab.map fun (n : Nat) => Value.int .u8 n).toArray t frozen
      | o => o }
end Go.Proofs.YtfaghjadjpiaiaaDoor.Sh
namespace Go.Proofs.YtfaghjadjpiaiaaDoor.Sh
open Go.ChangeShapes Go.WideShapes Go.ChangeAt Go.RowKit Go.Shelf Go.Proofs.YtfaghjadjpiaiaaDoorW.PrintWords Go.Proofs.YtfaghjadjpiaiaaDoorW.PrintLast Go.Proofs.YtfaghjadjpiaiaaDoorW.PrintMore
set_option linter.unusedVariables false
set_option linter.unusedSimpArgs false
theorem tab64_of {W : World} (h : laidMet Tryd.prog [("math/bits.deBruijn64tab", Rows.laid_math_bits_deBruijn64tab)] W) : Tab64 W := by
  have ht : Lib.TabIs Tryd.prog W "math/bits.deBruijn64tab" .u8 (Lib.deBruijn64tab.map fun (n : Nat) => (n : Int)) :=
    Lib.tabIs_of_head (rest := []) row_tab row_tabType Tryd.underlying183 Tryd.underlying5 row_cells8 row_cells64 h
  intro j hj
  have hl : j < Lib.deBruijn64tab.length := hj
  have hc := ht.cell row_tab j (by simpa using hl)
  rw [hc]
  simp [List.getD_eq_getElem?_getD, List.getElem?_eq_getElem hl]
theorem upto_le {H : Type} {l : List (DataW H)} (h : Rows.uptoSmall H (l ++ []) = true) : Rows.uptoBulkAll l ≤ 1048576 := by
  rw [List.append_nil] at h
  unfold Rows.uptoSmall at h
  exact of_decide_eq_true h
namespace MR
set_option maxRecDepth 100000 in
theorem contract (H : Type) (enc : TypeId × Value → H) (W : World) (base : Nat) (args : Array Value) (ds gs : List (DataW H)) (before : List MemPlace)
    (hval : ∀ (j : Nat) t v, Tryd.f3.params[j]? = some t → args[j]? = some v → Value.okWide Tryd.prog W .any base t v)
    (hW : DataW.Whole enc Tryd.prog Tryd.f3.params.toList Rows.modelRightSpec.vars false W args.toList ds gs before) (hL : laidMetH Tryd.prog Rows.modelRightUptoRow.laid W)
    (hk : Rows.uptoSmall H (ds ++ gs) = true) :
    Calls Tryd.prog 3 args W fun e W' => ∃ v, e = .returned v ∧ Rows.modelRightSpec.post enc Tryd.prog Tryd.f3 false true false false W args v W' := by
  have hW' := hW
  obtain ⟨p, q, hA0, hV, rfl, hfz, hnd⟩ := hW
  have hA : DataW.TrodAll enc Tryd.prog W 0 (fun _ => true) true Tryd.f3.params.toList args.toList ds p := hA0
  rw [Tryd.params3] at hA hval
  obtain ⟨v0, vs0, d0, ds0, p0, q0, hargs, rfl, rfl, h0, r0⟩ := trodAll_cons hA
  obtain ⟨v1, vs1, d1, ds1, p1, q1, rfl, rfl, rfl, h1, r1⟩ := trodAll_cons r0
  obtain ⟨v2, vs2, d2, ds2, p2, q2, rfl, rfl, rfl, h2, r2⟩ := trodAll_cons r1
  obtain ⟨rfl, rfl, rfl⟩ := trodAll_nil r2
  obtain rfl : args = #[v0, v1, v2] := by cases args; simp_all
  obtain ⟨rfl, rfl⟩ := trodVars_none hV
  have hb : Rows.uptoBulkAll [d0, d1, d2] ≤ 1048576 := upto_le hk
  have hb0 : Rows.uptoBulk d0 ≤ 1048576 := by
    have := bulk_mem (L := [d0, d1, d2]) (d := d0) (by simp)
    omega
  obtain ⟨a0, len0, cap0, rfl⟩ := okWide_slice Tryd.underlying22 (hval 0 22 v0 rfl rfl)
  obtain ⟨a1, len1, cap1, rfl⟩ := okWide_slice Tryd.underlying23 (hval 1 23 v1 rfl rfl)
  obtain ⟨cs, rfl, hsz⟩ := okWide_struct Tryd.underlying29 (hval 2 29 v2 rfl rfl)
  obtain ⟨n0, k0⟩ := h0
  obtain ⟨n1, k1⟩ := h1
  obtain ⟨n2, k2⟩ := h2
  obtain ⟨A, c, fn, e0, g1, g2, g3⟩ := read_Fns k0 hb0
  obtain ⟨B, e, l, e1, g4, g5, g6⟩ := read_Frs k1
  obtain ⟨y, e2, g7, g8⟩ := read_Act k2
  injection e0 with e0a e0b e0c
  injection e1 with e1a e1b e1c
  subst e0a; subst e0b; subst e0c; subst e1a; subst e1b; subst e1c
  have e3 : cs = #[.int .i64 y.kind, .int .i64 y.f, .int .i64 y.d, .int .i64 y.s, .int .u8 y.v.k, .int .u64 y.v.b, .int .i64 y.v.d, .int .i64 y.v.s, .int .u64 y.bits, .int .u8 y.op, .slice y.A y.ns.length y.c] := by
    have : cs.toList = _ := e2
    cases cs
    simp_all
  subst e3
  have hIn : LawIn W a0 cap0 fn a1 cap1 l y := ⟨tab64_of hL, g1, g2, g3, g4, g5, g6, g7, wf_u8 g8.1⟩
  refine (law_calls a0 cap0 fn a1 cap1 l y W hIn).mono fun e W' ⟨he, hbel⟩ => ?_
  subst he
  exact ⟨_, rfl, post_true rfl (by kernel_rfl) (by kernel_rfl) rfl hW' hbel⟩
end MR
end Go.Proofs.YtfaghjadjpiaiaaDoor.Sh
namespace Go.Proofs.YtfaghjadjpiaiaaDoor.Sh
open Go.ChangeShapes Go.WideShapes Go.ChangeAt Go.RowKit
namespace MR
theorem laid_met (os : Os) : laidMet Tryd.prog Rows.modelRightUptoRow.laid ((rowWorld os).forCall (fun _ _ => 0) ⟨#[], #[.slice none 0 0, .slice none 0 0, .agg #[.int .i64 0, .int .i64 0, .int .i64 0, .int .i64 0, .int .u8 0, .int .u64 0, .int .i64 0, .int .i64 0, .int .u64 0, .int .u8 0, .slice none 0 0]], []⟩).memory :=
  laidMet_of_run' 8 (by kernel_rfl) (by kernel_rfl)
theorem reads (os : Os) {H : Type} (enc : TypeId × Value → H) : ∃ places, DataW.whole enc Tryd.prog ((rowWorld os).forCall (fun _ _ => 0) ⟨#[], #[.slice none 0 0, .slice none 0 0, .agg #[.int .i64 0, .int .i64 0, .int .i64 0, .int .i64 0, .int .u8 0, .int .u64 0, .int .i64 0, .int .i64 0, .int .u64 0, .int .u8 0, .slice none 0 0]], []⟩).memory Tryd.f3.params.toList Rows.modelRightSpec.vars false #[Value.slice none 0 0, .slice none 0 0, .agg #[.int .i64 0, .int .i64 0, .int .i64 0, .int .i64 0, .int .u8 0, .int .u64 0, .int .i64 0, .int .i64 0, .int .u64 0, .int .u8 0, .slice none 0 0]].toList 8
    = some ([.nil, .nil, .agg [.lit (.int .i64 0), .lit (.int .i64 0), .lit (.int .i64 0), .lit (.int .i64 0), .agg [.lit (.int .u8 0), .lit (.int .u64 0), .lit (.int .i64 0), .lit (.int .i64 0)], .lit (.int .u64 0), .lit (.int .u8 0), .nil]], [], places) :=
  ⟨[], by kernel_rfl⟩
set_option maxRecDepth 100000 in
theorem lifted (os : Os) (started : os.Started) (H : Type) (enc : TypeId × Value → H) (F : Stop.Interp) :
    ReturnsInHanded {} Tryd.checked os 3 .any ((Rows.OpenSpec.upto Rows.modelRightSpec).preRow enc Tryd.prog Tryd.f3 Rows.modelRightUptoRow.domain false Rows.modelRightUptoRow.laid) (((Rows.OpenSpec.upto Rows.modelRightSpec).at F).post enc Tryd.prog Tryd.f3 false true false false) := by
  obtain ⟨places, hx⟩ := reads os enc
  refine returnsInHanded_of_row (C := Tryd.checked) (s := Rows.OpenSpec.upto Rows.modelRightSpec) row_own started (by kernel_rfl) Tryd.func3
    (witness_row_at (enc := enc) (C := Tryd.checked) false (rowWorld os) #[.slice none 0 0, .slice none 0 0, .agg #[.int .i64 0, .int .i64 0, .int .i64 0, .int .i64 0, .int .u8 0, .int .u64 0, .int .i64 0, .int .i64 0, .int .u64 0, .int .u8 0, .slice none 0 0]] rfl (by kernel_rfl) (by kernel_rfl) (by kernel_rfl)
      (OpenSpec.preRow_of_cond 8 hx (by kernel_rfl) (fun k hk => by cases hk; kernel_rfl) (by kernel_rfl) (laid_met os))) ?_
  intro W base args ds gs before hval hW _ hcond _ hL _ _
  exact contract H enc W base args ds gs before hval hW hL (hcond _ rfl)
theorem said : Rows.ModelRightUptoSaid :=
  OpenClaim.holds_of_cond 3 Tryd.f3 rfl rfl rfl rfl rfl rfl rfl ⟨rfl, rfl, rfl, rfl, rfl⟩ rfl rfl rfl rfl rfl (by kernel_rfl) Tryd.func3 (by kernel_rfl)
    (of_decide_eq_true (by kernel_rfl)) (by unfold Func.isWrapper; first | (rw [if_pos (by decide +kernel)]; kernel_rfl) | (rw [if_neg (by decide +kernel)]; exact ⟨rfl, rfl⟩))
    (fun os started H enc _ F => by rw [OpenClaim.pre_eq_preRow]; exact lifted os started H enc F)
theorem plain (f : FuncId) (fn : Func) (hf : Tryd.pinned.checked.prog.funcNamed "shoring/shoringlaw19.ModelRight" = some f) (hfn : Tryd.pinned.checked.prog.funcs[f]? = some fn) :
    true = Tryd.pinned.checked.prog.looks [] ∧ ∀ (j : Nat) t, fn.params[j]? = some t → Tryd.pinned.checked.prog.wantsStandIn t = false := by
  obtain rfl : f = 3 := Option.some.inj ((show Tryd.prog.funcNamed "shoring/shoringlaw19.ModelRight" = some 3 by kernel_rfl).symm.trans hf) |>.symm
  obtain rfl : fn = Tryd.f3 := (Option.some.inj (Tryd.func3.symm.trans hfn)).symm
  refine ⟨by kernel_rfl, fun j t ht => ?_⟩
  have hm := Array.mem_of_getElem? ht
  have h : (Tryd.f3.params.toList.all fun t => !Tryd.prog.wantsStandIn t) = true := by kernel_rfl
  have := List.all_eq_true.1 h t (by simpa using hm)
  have h2 : Tryd.prog.wantsStandIn t = false := by simpa using this
  exact h2
end MR
theorem modelRightUpto_holds : Rows.ModelRightUptoCardSaid :=
  Claim7.holds_tied_plain_at .later [] _ _ _ _ MR.said (fun _ h => by cases h) (by kernel_rfl) (fun _ h => by cases h) modelRightUpto_row_tie rfl ⟨rfl, rfl⟩ (by kernel_rfl) rfl MR.plain (by kernel_rfl)
end Go.Proofs.YtfaghjadjpiaiaaDoor.Sh
