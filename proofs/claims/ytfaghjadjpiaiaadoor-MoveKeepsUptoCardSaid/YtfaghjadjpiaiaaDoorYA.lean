/- What the arguments read as: rows in the program's own kinds. What words, numbers and functions read as. Words for the rows and cards of this seat: what a law that answers true, and leaves what was there, comes to. What the laws on moving are given; a table that is made or not; stacks in boxes. The rows of the laws on moving: what they are given, out of the arguments. -/
import Derived.Test.YtfaghjadjpiaiaaDoorY1
import Derived.Test.YtfaghjadjpiaiaaDoorRows
import Derived.WalkKit
import Derived.ProofKit
import Derived.OpenShut
import Derived.Deep.Slices
import Derived.Lib.SmallJoins
import Derived.Test.YtfaghjadjpiaiaaDoorCards
import Derived.Test.YtfaghjadjpiaiaaDoorTie
import Derived.ChangeOld
import Derived.Below
import Derived.Carry
import Derived.Deep.DeepHandedRow
import Derived.Lib.LaidTab
import Derived.Lib.TrailingZeros
import Derived.Test.YtfaghjadjpiaiaaDoorY8
import Derived.Test.YtfaghjadjpiaiaaDoorY9
import Derived.Deep.Strs
namespace Go.Proofs.YtfaghjadjpiaiaaDoor.Sh
open Go.ChangeShapes Go.WideShapes Go.ChangeAt Go.RowKit Go.Shelf Go.Proofs.YtfaghjadjpiaiaaDoorW.PrintWords Go.Proofs.YtfaghjadjpiaiaaDoorW.PrintLast Go.Proofs.YtfaghjadjpiaiaaDoorW.PrintMore
set_option linter.unusedVariables false
set_option linter.unusedSimpArgs false
theorem bulk_pos {H : Type} (d : DataW H) : 1 ≤ Rows.uptoBulk d := by
  cases d <;> first | (unfold Rows.uptoBulk; omega) | skip
  rename_i l
  cases l <;> (unfold Rows.uptoBulk; omega)
theorem bulk_mem {H : Type} : ∀ {L : List (DataW H)} {d : DataW H}, d ∈ L → Rows.uptoBulk d ≤ Rows.uptoBulkAll L
  | [], d, h => by cases h
  | x :: r, d, h => by
    unfold Rows.uptoBulkAll
    rcases List.mem_cons.1 h with rfl | h
    · omega
    · have := bulk_mem h
      omega
theorem bulk_len {H : Type} : ∀ (L : List (DataW H)), L.length ≤ Rows.uptoBulkAll L
  | [] => by simp
  | x :: r => by
    unfold Rows.uptoBulkAll
    have := bulk_len r
    have := bulk_pos x
    simp
    omega
section
variable {H : Type} {enc : TypeId × Value → H} {w : World}
/-- A slice's elements, read one by one. -/
theorem read_slice {α : Type} {d : Kd α} {Q : α → DataW H → Prop} {t e : TypeId} {fuel : Nat} {v : Value} {x : DataW H × List MemPlace} (ht : Tryd.prog.underlying t = some (.slice e)) (hc : Tryd.prog.cellsOf e = d.sz) (z : α)
    (helem : ∀ (n : Nat) (cs : List Value) (y : DataW H × List MemPlace), DataW.trod enc Tryd.prog w 0 (fun _ => true) true n e cs = some y → ∃ a, d.K w a cs ∧ cs.length = d.sz ∧ Q a y.1)
    (h : DataW.trod enc Tryd.prog w 0 (fun _ => true) true fuel t [v] = some x) :
    ∃ (A : Option Addr) (c : Nat) (xs : List α), v = .slice A xs.length c ∧ d.C w A xs.length xs ∧ xs.length ≤ c ∧ xs.length ≤ Rows.uptoBulk x.1 ∧ ∀ a ∈ xs, ∃ D, Q a D ∧ Rows.uptoBulk D ≤ Rows.uptoBulk x.1 := by
  rcases Go.Deep.open_slice ht h with ⟨hcs, _⟩ | ⟨a, len, cap, m, n, D, Pl, hcs, _, hl, hm, hmm, hx, hel⟩
  · simp at hcs
    subst hcs
    exact ⟨none, 0, [], rfl, Kd.C_nil _ _, Nat.le_refl _, Nat.zero_le _, fun a ha => by cases ha⟩
  · simp at hcs
    subst hcs
    have hlm : len ≤ m := by rw [hmm]; simpa using hl
    have each : ∀ i, i < len → ∃ a1, ∃ cs, w.cells? 0 (a.add (i * d.sz)) d.sz = some cs ∧ d.K w a1 cs ∧ cs.length = d.sz ∧ Q a1 (D i) := by
      intro i hi
      obtain ⟨cs, h1, h2⟩ := hel i (by omega)
      obtain ⟨a1, k1, k2, k3⟩ := helem _ _ _ h2
      rw [hc] at h1
      exact ⟨a1, cs, h1, k1, k2, k3⟩
    let f : Nat → α := fun i => open Classical in if hi : i < len then (each i hi).choose else z
    have hf : ∀ i (hi : i < len), f i = (each i hi).choose := fun i hi => by simp [f, hi]
    have hmx : ((List.range len).map f).length ≤ 9223372036854775807 := by
      have h1 : maxLen ≤ 9223372036854775807 := by unfold maxLen; omega
      simp
      omega
    refine ⟨some a, cap, (List.range len).map f, by simp, ⟨rfl, hmx, fun _ => ⟨a, rfl, fun j p hj => ?_⟩⟩, by simpa using hl, ?_, ?_⟩
    · rw [List.getElem?_map] at hj
      obtain ⟨i, hi, rfl⟩ := Option.map_eq_some_iff.1 hj
      have hlt : j < len := by simpa using (List.getElem?_eq_some_iff.1 hi).1
      have hij : i = j := by simp [List.getElem?_range hlt] at hi; exact hi.symm
      subst hij
      rw [hf i hlt]
      obtain ⟨cs, h1, k1, k2, k3⟩ := (each i hlt).choose_spec
      refine ⟨cs, k2, k1, fun q u hu => ?_⟩
      obtain ⟨_, _, h3⟩ := World.cells?_some h1
      have hq : q < d.sz := by rw [← k2]; exact (List.getElem?_eq_some_iff.1 hu).1
      have := h3 q hq
      rw [hu] at this
      rw [← this, Addr.add_add]
    · rw [hx]
      have := bulk_len ((List.range len).map D)
      simp at this
      show _ ≤ Rows.uptoBulk (DataW.slice _ _)
      rw [Rows.uptoBulk]
      simp
      omega
    · intro b hb
      simp only [List.mem_map, List.mem_range] at hb
      obtain ⟨i, hi, rfl⟩ := hb
      rw [hf i hi]
      refine ⟨D i, (each i hi).choose_spec.choose_spec.2.2.2, ?_⟩
      rw [hx]
      have := bulk_mem (L := (List.range len).map D) (d := D i) (List.mem_map.2 ⟨i, List.mem_range.2 hi, rfl⟩)
      show _ ≤ Rows.uptoBulk (DataW.slice _ _)
      rw [Rows.uptoBulk]
      omega
end
end Go.Proofs.YtfaghjadjpiaiaaDoor.Sh
namespace Go.Proofs.YtfaghjadjpiaiaaDoor.Sh
open Go.ChangeShapes Go.WideShapes Go.ChangeAt Go.RowKit Go.Shelf Go.Proofs.YtfaghjadjpiaiaaDoorW.PrintWords Go.Proofs.YtfaghjadjpiaiaaDoorW.PrintLast Go.Proofs.YtfaghjadjpiaiaaDoorW.PrintMore
set_option linter.unusedVariables false
set_option linter.unusedSimpArgs false
section
variable {H : Type} {enc : TypeId × Value → H} {w : World}
theorem wf_i64 {n : Int} (h : (Lit.int .i64 n).wf = true) : I64 n := by
  have : IntKind.i64.min ≤ n ∧ n ≤ IntKind.i64.max := by simpa [Lit.wf] using h
  exact this
theorem wf_u64 {n : Int} (h : (Lit.int .u64 n).wf = true) : U64 n := by
  have h1 : IntKind.u64.min ≤ n ∧ n ≤ IntKind.u64.max := by simpa [Lit.wf] using h
  have h2 : 0 ≤ n ∧ n ≤ 18446744073709551615 := h1
  exact ⟨h2.1, by omega⟩
theorem wf_u8 {n : Int} (h : (Lit.int .u8 n).wf = true) : 0 ≤ n := by
  have h1 : IntKind.u8.min ≤ n ∧ n ≤ IntKind.u8.max := by simpa [Lit.wf] using h
  exact h1.1
theorem read_ints {n : Nat} {v : Value} {x : DataW H × List MemPlace} (h : DataW.trod enc Tryd.prog w 0 (fun _ => true) true n 27 [v] = some x) :
    ∃ (A : Option Addr) (c : Nat) (xs : List Int), v = .slice A xs.length c ∧ (Kd.int .i64).C w A xs.length xs ∧ xs.length ≤ c ∧ ∀ a ∈ xs, (Lit.int .i64 a).wf = true := by
  obtain ⟨A, c, xs, h1, h2, h3, _, h5⟩ := read_slice (d := Kd.int .i64) (Q := fun a _ => (Lit.int .i64 a).wf = true) Tryd.underlying27 (by kernel_rfl) 0 (fun n cs y hy => by
    obtain ⟨a, rfl, _, hw⟩ := DataW.trod_int Tryd.underlying3 hy
    exact ⟨a, rfl, rfl, hw⟩) h
  exact ⟨A, c, xs, h1, h2, h3, fun a ha => by obtain ⟨_, hq, _⟩ := h5 a ha; exact hq⟩
theorem read_words {n : Nat} {v : Value} {x : DataW H × List MemPlace} (h : DataW.trod enc Tryd.prog w 0 (fun _ => true) true n 42 [v] = some x) :
    ∃ (A : Option Addr) (c : Nat) (xs : List Int), v = .slice A xs.length c ∧ (Kd.int .u64).C w A xs.length xs ∧ xs.length ≤ c ∧ xs.length ≤ Rows.uptoBulk x.1 ∧ ∀ a ∈ xs, (Lit.int .u64 a).wf = true := by
  obtain ⟨A, c, xs, h1, h2, h3, h4, h5⟩ := read_slice (d := Kd.int .u64) (Q := fun a _ => (Lit.int .u64 a).wf = true) Tryd.underlying42 (by kernel_rfl) 0 (fun n cs y hy => by
    obtain ⟨a, rfl, _, hw⟩ := DataW.trod_int Tryd.underlying24 hy
    exact ⟨a, rfl, rfl, hw⟩) h
  exact ⟨A, c, xs, h1, h2, h3, h4, fun a ha => by obtain ⟨_, hq, _⟩ := h5 a ha; exact hq⟩
set_option maxRecDepth 100000 in
theorem read_Fn {n : Nat} {cs : List Value} {x : DataW H × List MemPlace} (h : DataW.trod enc Tryd.prog w 0 (fun _ => true) true n 88 cs = some x) :
    ∃ f : Fn0, kFn.K w f cs ∧ cs.length = kFn.sz ∧ ((Lit.int .i64 f.size).wf = true ∧ (∀ a ∈ f.bits, (Lit.int .u64 a).wf = true) ∧ f.bits.length ≤ Rows.uptoBulk x.1) := by
  obtain ⟨y0, y1, m, hx1, hl, h0, h1⟩ := trod_struct2 Tryd.underlying88 h
  have hl2 : cs.length = 2 := hl.trans (by kernel_rfl)
  match cs, hl2 with
  | [u0, u1], _ =>
    have h0 : DataW.trod enc Tryd.prog w 0 (fun _ => true) true m 3 [u0] = some y0 := h0
    have h1 : DataW.trod enc Tryd.prog w 0 (fun _ => true) true m 42 [u1] = some y1 := h1
    obtain ⟨a, he, _, hw⟩ := DataW.trod_int Tryd.underlying3 h0
    cases he
    obtain ⟨A, c, xs, rfl, hC, hc, hb, hx⟩ := read_words h1
    refine ⟨⟨a, xs⟩, ⟨[.int .i64 a], [.slice A xs.length c], rfl, rfl, ⟨A, c, rfl, hc, hC⟩⟩, rfl, hw, hx, ?_⟩
    rw [hx1]
    show xs.length ≤ Rows.uptoBulk (DataW.agg [y0.1, y1.1])
    rw [Rows.uptoBulk, Rows.uptoBulkAll, Rows.uptoBulkAll, Rows.uptoBulkAll]
    omega
theorem read_Fns {n : Nat} {v : Value} {x : DataW H × List MemPlace} (h : DataW.trod enc Tryd.prog w 0 (fun _ => true) true n 22 [v] = some x) (hb : Rows.uptoBulk x.1 ≤ 1048576) :
    ∃ (A : Option Addr) (c : Nat) (xs : List Fn0), v = .slice A xs.length c ∧ kFn.C w A xs.length xs ∧ xs.length ≤ c ∧ ∀ f ∈ xs, FnOk f := by
  obtain ⟨A, c, xs, h1, h2, h3, _, h5⟩ := read_slice (d := kFn) (Q := fun f D => (Lit.int .i64 f.size).wf = true ∧ (∀ a ∈ f.bits, (Lit.int .u64 a).wf = true) ∧ f.bits.length ≤ Rows.uptoBulk D) Tryd.underlying22 (by kernel_rfl) ⟨0, []⟩ (fun n cs y hy => read_Fn hy) h
  refine ⟨A, c, xs, h1, h2, h3, fun f hf => ?_⟩
  obtain ⟨D, ⟨q1, q2, q3⟩, q4⟩ := h5 f hf
  exact ⟨wf_i64 q1, fun a ha => wf_u64 (q2 a ha), by omega⟩
set_option maxRecDepth 100000 in
theorem read_int {n : Nat} {v : Value} {x : DataW H × List MemPlace} (h : DataW.trod enc Tryd.prog w 0 (fun _ => true) true n 3 [v] = some x) : ∃ a, v = .int .i64 a ∧ I64 a := by
  obtain ⟨a, he, _, hw⟩ := DataW.trod_int Tryd.underlying3 h
  cases he
  exact ⟨a, rfl, wf_i64 hw⟩
end
end Go.Proofs.YtfaghjadjpiaiaaDoor.Sh
namespace Go.Proofs.YtfaghjadjpiaiaaDoor.Sh
open Go.ChangeShapes Go.WideShapes Go.ChangeAt Go.RowKit
set_option linter.unusedVariables false
theorem row_own : ownKnob Tryd.prog.godebug = none := by kernel_rfl
theorem row_laidOut : laidOutB Tryd.prog = true := by kernel_rfl
theorem row_tab : Tryd.prog.globalNamed "math/bits.deBruijn64tab" = some 0 := by kernel_rfl
theorem row_tabType : (Tryd.prog.globals[0]?).map (·.type) = some 183 := by kernel_rfl
theorem row_cells64 : Tryd.prog.cellsOf 183 = 64 := by kernel_rfl
theorem row_cells8 : Tryd.prog.cellsOf 5 = 1 := by kernel_rfl
theorem trodAll_stays {H : Type} {enc : TypeId × Value → H} {P : Program} (hl : laidOutB P = true) {W W' : World} (hb : Below W.heap.size W W') :
    ∀ (ts : List TypeId) (vs : List Value) (ds : List (DataW H)) (ps : List MemPlace), (ts.all fun t => P.readableRec t && decide (t < P.types.size)) = true →
      DataW.TrodAll enc P W 0 (fun _ => true) true ts vs ds ps → (∀ x ∈ ps, x.block < W.heap.size) → DataW.TrodAll enc P W' 0 (fun b => decide (b < W.heap.size)) true ts vs ds ps
  | [], vs, ds, ps, _, h, _ => by
    obtain ⟨rfl, rfl, rfl⟩ := trodAll_nil h
    exact trodAll_mk0
  | t :: ts, vs, ds, ps, hts, h, hlt => by
    simp only [List.all_cons, Bool.and_eq_true, decide_eq_true_eq] at hts
    obtain ⟨v, vs', d, ds', p, q, rfl, rfl, rfl, h0, hr⟩ := trodAll_cons h
    exact trodAll_cons_mk (Below.trod hl hts.1.1 hts.1.2 h0 hb (fun x hx => hlt x (List.mem_append_left _ hx)))
      (trodAll_stays hl hb ts vs' ds' q (by simpa using hts.2) hr (fun x hx => hlt x (List.mem_append_right _ hx)))
/-- A law's post, where the call answers true and leaves all that was there. -/
theorem post_true {H : Type} {enc : TypeId × Value → H} {W W' : World} {s : ChangeSpec} {f : Func} {args : Array Value} {ds : List (DataW H)} {before : List MemPlace} (hv : s.vars = []) (hr : f.resultTypes = #[4])
    (hts : (f.params.toList.all fun t => Tryd.prog.readableRec t && decide (t < Tryd.prog.types.size)) = true)
    (hfn : s.fn H (ds ++ []) = { results := [.lit (.bool true)], args := ds, vars := [] })
    (hW : DataW.Whole enc Tryd.prog f.params.toList s.vars false W args.toList ds [] before) (hb : Below W.heap.size W W') :
    s.post enc Tryd.prog f false true false false W args (.bool true) W' := by
  have hW' := hW
  have hlt := hW.lt
  obtain ⟨p, q, hA, hV, rfl, hfz, hnd⟩ := hW
  refine ⟨ds, [], _, [], p, [], hW', ?_, ?_, ?_, hb.frame _, fun h => by cases h⟩
  · rw [hr, hfn]
    exact trodAll_mk1 (shut_bool Tryd.underlying4 _)
  · rw [hfn]
    exact trodAll_stays row_laidOut hb _ _ _ _ hts hA (fun x hx => hlt x (List.mem_append_left _ hx))
  · rw [hfn, hv]
    rfl
/-- A world that holds the table. -/
noncomputable def rowWorld (os : Os) : World :=
  { World.holding Tryd.prog os ⟨#[], #[], []⟩ with heap := (World.holding Tryd.prog os ⟨#[], #[], []⟩).heap.modify 0 fun
      | .cells _ t frozen => .cells (Lib.deBruijn64tab.map fun (n : Nat) => Value.int .u8 n).toArray t frozen
      | o => o }
end Go.Proofs.YtfaghjadjpiaiaaDoor.Sh
namespace Go.Proofs.YtfaghjadjpiaiaaDoor.Sh
open Go.RowKit Go.Shelf Go.Proofs.YtfaghjadjpiaiaaDoorW.PrintWords Go.Proofs.YtfaghjadjpiaiaaDoorW.PrintLast Go.Proofs.YtfaghjadjpiaiaaDoorW.PrintMore
set_option linter.unusedVariables false
set_option linter.unusedSimpArgs false
structure MvIn (w : World) (A : Option Addr) (c : Nat) (ws : List Int) (B : Option Addr) (e : Nat) (fn : List Fn0) : Prop where
  tab : Tab64 w
  row : (Kd.int .u64).C w A ws.length ws
  rowc : ws.length ≤ c
  all : AllU ws
  fns : kFn.C w B fn.length fn
  fnc : fn.length ≤ e
  ok : ∀ f ∈ fn, FnOk f
theorem MvIn.below {w W : World} {A : Option Addr} {c : Nat} {ws : List Int} {B : Option Addr} {e : Nat} {fn : List Fn0} (h : MvIn w A c ws B e fn) (hb : Below w.heap.size w W) : MvIn W A c ws B e fn :=
  ⟨h.tab.below hb, Kd.C_below h.row hb, h.rowc, h.all, Kd.C_below h.fns hb, h.fnc, h.ok⟩
/-- Does a law's work begin? -/
def mvB (ws : List Int) (fn : List Fn0) : Bool := decide ((ws.length : Int) ≤ 256) && (!greatF fn && newB fn)
/-- The table of a law. -/
structure MvTab (fn : List Fn0) (g : Nat) (t : List Ent) (w W : World) : Prop where
  tab : IsTab W g t
  ok : TabOk fn t
  below : Below w.heap.size w W
theorem New_mv {w : World} {A : Option Addr} {c : Nat} {ws : List Int} {B : Option Addr} {e : Nat} {fn : List Fn0} (h : MvIn w A c ws B e fn) :
    Calls Tryd.prog 9 #[.slice B fn.length e] w fun e w' => ∃ p x, e = .returned (.tuple #[p, .int .i64 x]) ∧ (newB fn = false → x ≠ 0) ∧ Below w.heap.size w w' := by
  by_cases hn : newB fn = true
  · exact (New_ok B e fn w h.ok h.tab h.fns h.fnc hn).mono fun en w' hp => by
      obtain ⟨a, t, rfl, _, _, _, hb⟩ := hp
      exact ⟨_, _, rfl, (fun hh => by rw [hn] at hh; cases hh), hb⟩
  · exact (New_no B e fn w h.ok h.tab h.fns h.fnc (by simpa using hn)).mono fun en w' hp => by
      obtain ⟨rfl, hb⟩ := hp
      exact ⟨_, _, rfl, (fun _ => by decide), hb⟩
theorem New_mv1 {w : World} {A : Option Addr} {c : Nat} {ws : List Int} {B : Option Addr} {e : Nat} {fn : List Fn0} (h : MvIn w A c ws B e fn) (hn : newB fn = true) :
    Calls Tryd.prog 9 #[.slice B fn.length e] w fun e w' => ∃ g t, e = .returned (.tuple #[.pointer (some ⟨g, 0, none⟩), .int .i64 0]) ∧ MvTab fn g t w w' := by
  exact (New_ok B e fn w h.ok h.tab h.fns h.fnc hn).mono fun en w' hp => by
    obtain ⟨a, t, rfl, h1, h2, _, hb⟩ := hp
    exact ⟨_, t, rfl, h1, h2, hb⟩
theorem MvTab.all {fn : List Fn0} {g : Nat} {t : List Ent} {w W : World} (h : MvTab fn g t w W) (hn : newB fn = true) (hu : ∀ f ∈ fn, FnOk f) : TabAll t :=
  ⟨tab_fine h.ok hn hu, tab_pos h.ok hn, tab_ptrOk h.ok hn hu⟩
theorem MvTab.ptrs {fn : List Fn0} {g : Nat} {t : List Ent} {w W : World} (h : MvTab fn g t w W) (hn : newB fn = true) (hu : ∀ f ∈ fn, FnOk f) : ∀ f, AllI (tPtrs t f) :=
  ptrs_I (tab_ptrOk h.ok hn hu) (fun f => by
    by_cases hh : tHas t f = true
    · exact (tab_sizes h.ok hn f hh).2
    · unfold tSize
      rw [if_neg hh]
      omega)
/-- A stack in a box, made from one that was handed over. -/
theorem box_St (W : World) (x y z a b c : Value) (t : TypeId) :
    ((((W.alloc (.cells #[a, b, c] t)).setCell ⟨W.heap.size, 0, none⟩ x).setCell ⟨W.heap.size, 1, none⟩ y).setCell ⟨W.heap.size, 2, none⟩ z).heap[W.heap.size]? = some (.cells #[x, y, z] t (0, 0)) ∧
    Below W.heap.size W ((((W.alloc (.cells #[a, b, c] t)).setCell ⟨W.heap.size, 0, none⟩ x).setCell ⟨W.heap.size, 1, none⟩ y).setCell ⟨W.heap.size, 2, none⟩ z) :=
  ⟨blk_set3 x y z (heap_alloc_new W (.cells #[a, b, c] t)), below_set3 x y z (below_alloc (Below.refl _ _) _) (Nat.le_refl _)⟩
/-- What stands while a law on moving runs: the stack's box, the world with the table. -/
structure Mv (w : World) (s : St) (wt : World) (W : World) : Prop where
  below : Below w.heap.size w W
  sb : W.heap[w.heap.size]? = some (.cells #[.int .i64 s.lo, .int .i64 s.size, .int .i64 s.sp] 44 (0, 0))
  lt : w.heap.size < wt.heap.size
  tb : Below wt.heap.size wt W
theorem Mv.start (w : World) (s : St) {wt : World} (hb : Below (w.heap.size + 1) (w.alloc (.cells #[.int .i64 s.lo, .int .i64 s.size, .int .i64 s.sp] 44)) wt) : Mv w s wt wt := by
  have hsz : (w.alloc (.cells #[.int .i64 s.lo, .int .i64 s.size, .int .i64 s.sp] 44)).heap.size = w.heap.size + 1 := by simp
  rw [← hsz] at hb
  exact ⟨below_then (below_alloc (Below.refl _ _) _) (by simp) hb, blk_below (heap_alloc_new w _) hb, by have := hb.size; omega, Below.refl _ _⟩
theorem Mv.step {w : World} {s : St} {wt W W1 : World} (h : Mv w s wt W) (hb : Below W.heap.size W W1) : Mv w s wt W1 :=
  ⟨below_then h.below h.below.size hb, blk_below h.sb hb, h.lt, below_then h.tb h.tb.size hb⟩
theorem Mv.grow {w : World} {s : St} {wt W W1 : World} (h : Mv w s wt W) {b : Nat} (hb : wt.heap.size ≤ b) (hg : W.grownBy W1 (some b)) : Mv w s wt W1 :=
  ⟨pw_below_grown h.below (some b) h.below.size hg (fun k hk => by injection hk with hk; have := h.lt; omega), blk_grown h.sb hg (fun hh => by injection hh with hh; have := h.lt; omega), h.lt,
    pw_below_grown h.tb (some b) h.tb.size hg (fun k hk => by injection hk with hk; omega)⟩
theorem Mv.base {w : World} {s : St} {wt W : World} (h : Mv w s wt W) {g : Nat} {t : List Ent} (ht : IsTab wt g t) {b : Nat} (hb : wt.heap.size ≤ b) : TabBase wt g t b W := ⟨ht, h.tb, hb⟩
theorem IsArena.other {w w1 : World} {a b b1 : Nat} {ws : List Int} (h : IsArena w a b ws) (hg : w.grownBy w1 (some b1)) (ha : a ≠ b1) (hb : b ≠ b1) : IsArena w1 a b ws :=
  ⟨blk_grown h.ptr hg (fun hh => ha (by injection hh)), blk_grown h.row hg (fun hh => hb (by injection hh)), h.len, h.all⟩
theorem To_mv {fn : List Fn0} {g : Nat} {t : List Ent} {w wt w0 W : World} {s : St} (hT : MvTab fn g t w0 wt) (hn : newB fn = true) (hu : ∀ f ∈ fn, FnOk f) (hM : Mv w s wt W) {a b : Nat} {ws : List Int} (hA : IsArena W a b ws) (hb : wt.heap.size ≤ b) (s1 : St) (hs : s1.wf) (lo size : Int) (hlo : I64 lo) (hsz : I64 size) :
    Calls Tryd.prog 21 #[.pointer (some ⟨a, 0, none⟩), .pointer (some ⟨g, 0, none⟩), .agg #[.int .i64 s1.lo, .int .i64 s1.size, .int .i64 s1.sp], .int .i64 lo, .int .i64 size] W (ToPost a b (toWs ws t s1 lo size) (toS ws t s1 lo size) (toE ws t s1 lo size) W) :=
  To_calls a b ws wt g t s1 lo size W hA (hM.base hT.tab hb) (hT.all hn hu).fine (hT.all hn hu).pos (hT.ptrs hn hu) hs hlo hsz
/-- MoveTwice in plain words, as the walk needs it. -/
theorem twice_rows {ws : List Int} {t : List Ent} {s : St} {lo size at_ most : Int} (ht : TabAll t) (hl : ws.length ≤ 65536) (h1 : toE ws t s lo size = 0) (h2 : toE (toWs ws t s lo size) t (toS ws t s lo size) at_ most = 0) (h3 : toE ws t s at_ most = 0) :
    toS (toWs ws t s lo size) t (toS ws t s lo size) at_ most = toS ws t s at_ most ∧
    rowL (toWs (toWs ws t s lo size) t (toS ws t s lo size) at_ most) (toS ws t s at_ most).sp (usedS (toS ws t s at_ most)) = rowL (toWs ws t s at_ most) (toS ws t s at_ most).sp (usedS (toS ws t s at_ most)) := by
  obtain ⟨g1, g2⟩ := twice_law ht hl h1 h2 h3
  obtain ⟨l, m3, _⟩ := moves_of ht hl h3
  refine ⟨g1, g2 _ _ ?_ rfl⟩
  rw [m3.toS]
theorem toWs_length {ws : List Int} {t : List Ent} {s : St} {lo size : Int} (ht : TabAll t) (hl : ws.length ≤ 65536) (h : toE ws t s lo size = 0) : (toWs ws t s lo size).length = ws.length := by
  obtain ⟨l, m, _⟩ := moves_of ht hl h
  exact m.length
theorem used_I {s : St} (hs : s.wf) : I64 (usedS s) := by
  obtain ⟨⟨a0, a1⟩, ⟨b0, b1⟩, ⟨c0, c1⟩⟩ := hs
  unfold usedS plainS
  split
  · rename_i hh
    simp only [Bool.and_eq_true, plainB_iff] at hh
    unfold I64
    omega
  · unfold I64; omega
theorem mv_of {ws : List Int} {fn : List Fn0} (h : mvB ws fn = true) : (ws.length : Int) ≤ 256 ∧ greatF fn = false ∧ newB fn = true := by
  unfold mvB at h
  simp only [Bool.and_eq_true, decide_eq_true_eq, Bool.not_eq_true'] at h
  exact h
theorem toS_wf {ws : List Int} {t : List Ent} {s : St} {lo size : Int} (hl : ws.length ≤ 65536) (h : toE ws t s lo size = 0) (ht : TabAll t) : (toS ws t s lo size).wf := by
  obtain ⟨l, m1, _⟩ := moves_of ht hl h
  have hn := m1.nums
  have hb := m1.by_
  rw [m1.toS]
  unfold St.wf I64
  simp only []
  omega
/-- What stands while MoveTwice runs: two arenas, two stacks in boxes. -/
structure TwW (w : World) (s : St) (wt : World) (a b : Nat) (U : List Int) (a' b' : Nat) (V : List Int) (n m : Nat) (x y : St) (W : World) : Prop where
  mv : Mv w s wt W
  one : IsArena W a b U
  two : IsArena W a' b' V
  nb : W.heap[n]? = some (.cells #[.int .i64 x.lo, .int .i64 x.size, .int .i64 x.sp] 44 (0, 0))
  mb : W.heap[m]? = some (.cells #[.int .i64 y.lo, .int .i64 y.size, .int .i64 y.sp] 44 (0, 0))
theorem TwW.step {w : World} {s : St} {wt : World} {a b : Nat} {U : List Int} {a' b' : Nat} {V : List Int} {n m : Nat} {x y : St} {W W1 : World} (h : TwW w s wt a b U a' b' V n m x y W) (hb : Below W.heap.size W W1) : TwW w s wt a b U a' b' V n m x y W1 :=
  ⟨h.mv.step hb, h.one.below hb, h.two.below hb, blk_below h.nb hb, blk_below h.mb hb⟩
end Go.Proofs.YtfaghjadjpiaiaaDoor.Sh
namespace Go.Proofs.YtfaghjadjpiaiaaDoor.Sh
open Go.ChangeShapes Go.WideShapes Go.ChangeAt Go.RowKit Go.Shelf Go.Proofs.YtfaghjadjpiaiaaDoorW.PrintWords Go.Proofs.YtfaghjadjpiaiaaDoorW.PrintLast Go.Proofs.YtfaghjadjpiaiaaDoorW.PrintMore
set_option linter.unusedVariables false
set_option linter.unusedSimpArgs false
theorem tab64_of {W : World} (h : laidMet Tryd.prog [("math/bits.deBruijn64tab", Rows.laid_math_bits_deBruijn64tab)] W) : Tab64 W := by
  have ht : Lib.TabIs Tryd.prog W "math/bits.deBruijn64tab" .u8 (Lib.deBruijn64tab.map fun (n : Nat) => (n : Int)) :=
    Lib.tabIs_of_head (rest := []) row_tab row_tabType Tryd.underlying183 Tryd.underlying5 row_cells8 row_cells64 h
  intro j hj
  have hl : j < Lib.deBruijn64tab.length := hj
  have hc := ht.cell row_tab j (by simpa using hl)
  rw [hc]
  simp [List.getD_eq_getElem?_getD, List.getElem?_eq_getElem hl]
theorem upto_le {H : Type} {l : List (DataW H)} (h : Rows.uptoSmall H (l ++ []) = true) : Rows.uptoBulkAll l ≤ 1048576 := by
  rw [List.append_nil] at h
  unfold Rows.uptoSmall at h
  exact of_decide_eq_true h
section
variable {H : Type} {enc : TypeId × Value → H} {w : World}
set_option maxRecDepth 100000 in
theorem read_St {n : Nat} {cs : List Value} {x : DataW H × List MemPlace} (h : DataW.trod enc Tryd.prog w 0 (fun _ => true) true n 44 cs = some x) :
    ∃ s : St, cs = [.int .i64 s.lo, .int .i64 s.size, .int .i64 s.sp] ∧ s.wf := by
  obtain ⟨y0, y1, y2, m, _, hl, h0, h1, h2⟩ := Go.Deep.trod_struct3 Tryd.underlying44 h
  have hl2 : cs.length = 3 := hl.trans (by kernel_rfl)
  match cs, hl2 with
  | [u0, u1, u2], _ =>
    have h0 : DataW.trod enc Tryd.prog w 0 (fun _ => true) true m 3 [u0] = some y0 := h0
    have h1 : DataW.trod enc Tryd.prog w 0 (fun _ => true) true m 3 [u1] = some y1 := h1
    have h2 : DataW.trod enc Tryd.prog w 0 (fun _ => true) true m 3 [u2] = some y2 := h2
    obtain ⟨a0, rfl, w0⟩ := read_int h0
    obtain ⟨a1, rfl, w1⟩ := read_int h1
    obtain ⟨a2, rfl, w2⟩ := read_int h2
    exact ⟨⟨a0, a1, a2⟩, rfl, w0, w1, w2⟩
end
end Go.Proofs.YtfaghjadjpiaiaaDoor.Sh
