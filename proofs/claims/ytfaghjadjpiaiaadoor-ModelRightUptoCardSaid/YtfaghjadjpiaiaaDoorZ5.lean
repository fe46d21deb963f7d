/- Contract of the law's Does. Contracts of the law's Does and awake. The plain law of ModelRight: what is answered without an error is right. The plain law of ModelRight, on. The document's bits and table, against the program's. -/
import Derived.Test.YtfaghjadjpiaiaaDoorZ4
import Derived.Test.YtfaghjadjpiaiaaDoorZ1
namespace Go.Proofs.YtfaghjadjpiaiaaDoor.Sh
open Go.RowKit Go.Shelf Go.Proofs.YtfaghjadjpiaiaaDoorW.PrintWords Go.Proofs.YtfaghjadjpiaiaaDoorW.PrintLast Go.Proofs.YtfaghjadjpiaiaaDoorW.PrintMore
set_option linter.unusedVariables false
set_option linter.unusedSimpArgs false
/-- An act. -/
structure Ac where
  kind : Int
  f : Int
  d : Int
  s : Int
  v : Vl
  bits : Int
  op : Int
  A : Option Addr
  c : Nat
  ns : List Int
structure AcOk (w : World) (x : Ac) : Prop where
  s : I64 x.s
  ns : AllI x.ns
  row : (Kd.int .i64).C w x.A x.ns.length x.ns
def actE (t : List Ent) (l : List Fr) (x : Ac) : Int :=
  if x.kind = 0 then callE t x.f else if x.kind = 1 then retE l else if x.kind = 2 then setE t l x.d x.s x.v else if x.kind = 3 then getE l x.d x.s else if x.kind = 4 then refE t l x.d x.s else if x.kind = 5 then writeE t l x.d x.s else calcErr t l x.op x.d x.ns
def actRow (t : List Ent) (l : List Fr) (x : Ac) : List Fr :=
  if x.kind = 0 then l ++ [newFr t x.f] else if x.kind = 1 then l.take (l.length - 1) else if x.kind = 2 then setRow l x.d x.s x.v else if x.kind = 3 then l else if x.kind = 4 then l else if x.kind = 5 then writeRow l x.d x.s x.bits else calcRow l x.op x.d x.ns
def actVal (t : List Ent) (l : List Fr) (x : Ac) : Vl := if x.kind = 3 then askVal t l (getE l x.d x.s) (vl (fr l x.d).l x.s) else if x.kind = 4 then askVal t l (refE t l x.d x.s) (loadV l x.d x.s) else zVl
def DoesPost (t : List Ent) (l : List Fr) (x : Ac) (w : World) (e : Ending) (w' : World) : Prop :=
  ∃ A' c', e = .returned (.tuple #[.slice A' (chRow t l (actE t l x) (actRow t l x)).length c', .agg #[.int .u8 (actVal t l x).k, .int .u64 (actVal t l x).b, .int .i64 (actVal t l x).d, .int .i64 (actVal t l x).s], .int .i64 (chErr t l (actE t l x))]) ∧ kFr.C w' A' (chRow t l (actE t l x) (actRow t l x)).length (chRow t l (actE t l x) (actRow t l x)) ∧ (chRow t l (actE t l x) (actRow t l x)).length ≤ c' ∧ Below w.heap.size w w'
/-- The boxes of Does: the act, the value answered, the value. -/
structure DoW (w : World) (x : Ac) (v : Vl) (W : World) : Prop where
  below : Below w.heap.size w W
  act : W.heap[w.heap.size]? = some (.cells #[.int .i64 x.kind, .int .i64 x.f, .int .i64 x.d, .int .i64 x.s, .int .u8 x.v.k, .int .u64 x.v.b, .int .i64 x.v.d, .int .i64 x.v.s, .int .u64 x.bits, .int .u8 x.op, .slice x.A x.ns.length x.c] 29 (0, 0))
  out : W.heap[w.heap.size + 1]? = some (.cells #[.int .u8 0, .int .u64 0, .int .i64 0, .int .i64 0] 26 (0, 0))
  val : W.heap[w.heap.size + 1 + 1]? = some (.cells #[.int .u8 v.k, .int .u64 v.b, .int .i64 v.d, .int .i64 v.s] 26 (0, 0))
theorem DoW.step {w : World} {x : Ac} {v : Vl} {W W1 : World} (h : DoW w x v W) (hb : Below W.heap.size W W1) : DoW w x v W1 :=
  ⟨below_then h.below h.below.size hb, (hb.block _ (blk_lt h.act)).trans h.act, (hb.block _ (blk_lt h.out)).trans h.out, (hb.block _ (blk_lt h.val)).trans h.val⟩
theorem DoW.put {w : World} {x : Ac} {v : Vl} {W : World} (u : Vl) (h : DoW w x v W) : DoW w x u ((((W.setCell ⟨w.heap.size + 1 + 1, 0, none⟩ (.int .u8 u.k)).setCell ⟨w.heap.size + 1 + 1, 1, none⟩ (.int .u64 u.b)).setCell ⟨w.heap.size + 1 + 1, 2, none⟩ (.int .i64 u.d)).setCell ⟨w.heap.size + 1 + 1, 3, none⟩ (.int .i64 u.s)) :=
  ⟨below_set4 _ _ _ _ h.below (by omega), blk_far (blk_far (blk_far (blk_far h.act (by simp; omega) _) (by simp; omega) _) (by simp; omega) _) (by simp; omega) _, blk_far (blk_far (blk_far (blk_far h.out (by simp) _) (by simp) _) (by simp) _) (by simp) _, blk_set4 _ _ _ _ h.val⟩
theorem DoW.start (w : World) (x : Ac) : DoW w x zVl (((w.alloc (.cells #[.int .i64 x.kind, .int .i64 x.f, .int .i64 x.d, .int .i64 x.s, .int .u8 x.v.k, .int .u64 x.v.b, .int .i64 x.v.d, .int .i64 x.v.s, .int .u64 x.bits, .int .u8 x.op, .slice x.A x.ns.length x.c] 29)).alloc (.cells #[.int .u8 0, .int .u64 0, .int .i64 0, .int .i64 0] 26)).alloc (.cells #[.int .u8 0, .int .u64 0, .int .i64 0, .int .i64 0] 26)) := by
  have h1 := heap_alloc_new (w.alloc (.cells #[.int .i64 x.kind, .int .i64 x.f, .int .i64 x.d, .int .i64 x.s, .int .u8 x.v.k, .int .u64 x.v.b, .int .i64 x.v.d, .int .i64 x.v.s, .int .u64 x.bits, .int .u8 x.op, .slice x.A x.ns.length x.c] 29)) (.cells #[.int .u8 0, .int .u64 0, .int .i64 0, .int .i64 0] 26)
  have h2 := heap_alloc_new ((w.alloc (.cells #[.int .i64 x.kind, .int .i64 x.f, .int .i64 x.d, .int .i64 x.s, .int .u8 x.v.k, .int .u64 x.v.b, .int .i64 x.v.d, .int .i64 x.v.s, .int .u64 x.bits, .int .u8 x.op, .slice x.A x.ns.length x.c] 29)).alloc (.cells #[.int .u8 0, .int .u64 0, .int .i64 0, .int .i64 0] 26)) (.cells #[.int .u8 0, .int .u64 0, .int .i64 0, .int .i64 0] 26)
  rw [show (w.alloc (.cells #[.int .i64 x.kind, .int .i64 x.f, .int .i64 x.d, .int .i64 x.s, .int .u8 x.v.k, .int .u64 x.v.b, .int .i64 x.v.d, .int .i64 x.v.s, .int .u64 x.bits, .int .u8 x.op, .slice x.A x.ns.length x.c] 29)).heap.size = w.heap.size + 1 by simp] at h1
  rw [show ((w.alloc (.cells #[.int .i64 x.kind, .int .i64 x.f, .int .i64 x.d, .int .i64 x.s, .int .u8 x.v.k, .int .u64 x.v.b, .int .i64 x.v.d, .int .i64 x.v.s, .int .u64 x.bits, .int .u8 x.op, .slice x.A x.ns.length x.c] 29)).alloc (.cells #[.int .u8 0, .int .u64 0, .int .i64 0, .int .i64 0] 26)).heap.size = w.heap.size + 1 + 1 by simp] at h2
  exact ⟨below_alloc (below_alloc (below_alloc (Below.refl _ _) _) _) _, blk_alloc (blk_alloc (heap_alloc_new w _) _) _, blk_alloc h1 _, h2⟩
theorem setCell_same {w : World} {g i t : Nat} {cs : Array Value} {u : Value} (h : w.heap[g]? = some (.cells cs t (0, 0))) (hu : cs[i]? = some u) : w.setCell ⟨g, i, none⟩ u = w := by
  have hs : cs.setIfInBounds i u = cs := by
    apply Array.ext_getElem?
    intro j
    by_cases hj : i = j
    · subst hj
      rw [hu]
      have hl := (Array.getElem?_eq_some_iff.1 hu).1
      simp [Array.getElem?_setIfInBounds_self, hl]
    · rw [Array.getElem?_setIfInBounds_ne hj]
  have hh : (w.setCell ⟨g, i, none⟩ u).heap = w.heap := by
    apply Array.ext_getElem?
    intro k
    by_cases hk : k = g
    · subst hk
      rw [blk_set h, hs, h]
    · exact Below.heap_setCell w ⟨g, i, none⟩ u k hk
  have e : w.setCell ⟨g, i, none⟩ u = { w with heap := (w.setCell ⟨g, i, none⟩ u).heap } := rfl
  rw [e, hh]
theorem set4_same {w : World} {g t : Nat} {u0 u1 u2 u3 : Value} (h : w.heap[g]? = some (.cells #[u0, u1, u2, u3] t (0, 0))) : ((((w.setCell ⟨g, 0, none⟩ u0).setCell ⟨g, 1, none⟩ u1).setCell ⟨g, 2, none⟩ u2).setCell ⟨g, 3, none⟩ u3) = w := by
  rw [setCell_same h rfl, setCell_same h rfl, setCell_same h rfl, setCell_same h rfl]
theorem results_tct {P : Program} {fn : Func} {u p v : Tmp} {ty : TypeId} (h : fn.results = #[.tmp u, .cell p ty, .tmp v]) (tmps : Array Value) (w : World) (g : Nat) (t : TypeId) (cs : Array Value) (fr : Nat × Nat) (d : TypeDesc)
    (hp : tmps.getD p undef = .pointer (some ⟨g, 0, none⟩)) (hg : w.heap[g]? = some (.cells cs t fr))
    (hu : P.underlying ty = some d) (hd : (match d with | .struct _ | .array _ _ => true | _ => false) = true) (hi : (P.info? ty).map (·.size) = some cs.size) :
    (results fn tmps).run P w = .ok (.tuple #[tmps.getD u undef, .agg cs, tmps.getD v undef]) w := by
  have hp' : tmps[p]?.getD undef = .pointer (some ⟨g, 0, none⟩) := by simpa using hp
  simp [results, h, hp', asAddr, run_loadVar_row w g t ty cs fr d hg hu hd hi]

set_option maxRecDepth 100000 in
set_option maxHeartbeats 2000000 in
theorem does_call (a : Nat) (t : List Ent) (A : Option Addr) (c : Nat) (l : List Fr) (x : Ac) (w : World) (h : IsRow w a t A c l) (hs : SmallR l) (hz : tSize t x.f ≤ 1000000) (hx : AcOk w x) (hk : x.kind = 0) :
    Calls Tryd.prog 14 #[.pointer (some ⟨a, 0, none⟩), .slice A l.length c, .agg #[.int .i64 x.kind, .int .i64 x.f, .int .i64 x.d, .int .i64 x.s, .int .u8 x.v.k, .int .u64 x.v.b, .int .i64 x.v.d, .int .i64 x.v.s, .int .u64 x.bits, .int .u8 x.op, .slice x.A x.ns.length x.c]] w (DoesPost t l x w) := by
  have HS := Aside0.mk (DoW.start w x)
  have HC := Aside0.mk (fun (W : World) (hB : Below w.heap.size w W) => (Call_calls a t A c l x.f W (h.below hB) hs hz : Calls _ _ _ W (ChPost W (chRow t l (callE t x.f) (l ++ [newFr t x.f])) (chErr t l (callE t x.f)))))
  have hE : actE t l x = callE t x.f := by unfold actE; rw [hk]; rfl
  have hR : actRow t l x = l ++ [newFr t x.f] := by unfold actRow; rw [hk]; rfl
  have hV : actVal t l x = zVl := by unfold actVal; rw [hk]; rfl
  have HD := Aside0.mk (show ∀ e w', (∃ A' c', e = .returned (.tuple #[.slice A' (chRow t l (callE t x.f) (l ++ [newFr t x.f])).length c', .agg #[.int .u8 0, .int .u64 0, .int .i64 0, .int .i64 0], .int .i64 (chErr t l (callE t x.f))]) ∧ kFr.C w' A' (chRow t l (callE t x.f) (l ++ [newFr t x.f])).length (chRow t l (callE t x.f) (l ++ [newFr t x.f])) ∧ (chRow t l (callE t x.f) (l ++ [newFr t x.f])).length ≤ c' ∧ Below w.heap.size w w') → DoesPost t l x w e w' from fun e w' hh => by unfold DoesPost; rw [hE, hR, hV]; exact hh)
  generalize chRow t l (callE t x.f) (l ++ [newFr t x.f]) = L at *
  generalize chErr t l (callE t x.f) = X at *
  generalize DoesPost t l x w = Post at *
  have HK := Aside0.mk hk
  have c0 : (((w.alloc (.cells #[.int .i64 x.kind, .int .i64 x.f, .int .i64 x.d, .int .i64 x.s, .int .u8 x.v.k, .int .u64 x.v.b, .int .i64 x.v.d, .int .i64 x.v.s, .int .u64 x.bits, .int .u8 x.op, .slice x.A x.ns.length x.c] 29)).alloc (.cells #[.int .u8 0, .int .u64 0, .int .i64 0, .int .i64 0] 26)).alloc (.cells #[.int .u8 0, .int .u64 0, .int .i64 0, .int .i64 0] 26)).cell? ⟨w.heap.size, 0, none⟩ = some (.int .i64 x.kind) := (blk_cell HS.out.act 0).trans rfl
  have c1 : (((w.alloc (.cells #[.int .i64 x.kind, .int .i64 x.f, .int .i64 x.d, .int .i64 x.s, .int .u8 x.v.k, .int .u64 x.v.b, .int .i64 x.v.d, .int .i64 x.v.s, .int .u64 x.bits, .int .u8 x.op, .slice x.A x.ns.length x.c] 29)).alloc (.cells #[.int .u8 0, .int .u64 0, .int .i64 0, .int .i64 0] 26)).alloc (.cells #[.int .u8 0, .int .u64 0, .int .i64 0, .int .i64 0] 26)).cell? ⟨w.heap.size, 1, none⟩ = some (.int .i64 x.f) := (blk_cell HS.out.act 1).trans rfl
  have c2 : (((w.alloc (.cells #[.int .i64 x.kind, .int .i64 x.f, .int .i64 x.d, .int .i64 x.s, .int .u8 x.v.k, .int .u64 x.v.b, .int .i64 x.v.d, .int .i64 x.v.s, .int .u64 x.bits, .int .u8 x.op, .slice x.A x.ns.length x.c] 29)).alloc (.cells #[.int .u8 0, .int .u64 0, .int .i64 0, .int .i64 0] 26)).alloc (.cells #[.int .u8 0, .int .u64 0, .int .i64 0, .int .i64 0] 26)).cell? ⟨w.heap.size, 2, none⟩ = some (.int .i64 x.d) := (blk_cell HS.out.act 2).trans rfl
  have c3 : (((w.alloc (.cells #[.int .i64 x.kind, .int .i64 x.f, .int .i64 x.d, .int .i64 x.s, .int .u8 x.v.k, .int .u64 x.v.b, .int .i64 x.v.d, .int .i64 x.v.s, .int .u64 x.bits, .int .u8 x.op, .slice x.A x.ns.length x.c] 29)).alloc (.cells #[.int .u8 0, .int .u64 0, .int .i64 0, .int .i64 0] 26)).alloc (.cells #[.int .u8 0, .int .u64 0, .int .i64 0, .int .i64 0] 26)).cell? ⟨w.heap.size, 3, none⟩ = some (.int .i64 x.s) := (blk_cell HS.out.act 3).trans rfl
  have c4 : (((w.alloc (.cells #[.int .i64 x.kind, .int .i64 x.f, .int .i64 x.d, .int .i64 x.s, .int .u8 x.v.k, .int .u64 x.v.b, .int .i64 x.v.d, .int .i64 x.v.s, .int .u64 x.bits, .int .u8 x.op, .slice x.A x.ns.length x.c] 29)).alloc (.cells #[.int .u8 0, .int .u64 0, .int .i64 0, .int .i64 0] 26)).alloc (.cells #[.int .u8 0, .int .u64 0, .int .i64 0, .int .i64 0] 26)).cell? ⟨w.heap.size, 4, none⟩ = some (.int .u8 x.v.k) := (blk_cell HS.out.act 4).trans rfl
  have c5 : (((w.alloc (.cells #[.int .i64 x.kind, .int .i64 x.f, .int .i64 x.d, .int .i64 x.s, .int .u8 x.v.k, .int .u64 x.v.b, .int .i64 x.v.d, .int .i64 x.v.s, .int .u64 x.bits, .int .u8 x.op, .slice x.A x.ns.length x.c] 29)).alloc (.cells #[.int .u8 0, .int .u64 0, .int .i64 0, .int .i64 0] 26)).alloc (.cells #[.int .u8 0, .int .u64 0, .int .i64 0, .int .i64 0] 26)).cell? ⟨w.heap.size, 5, none⟩ = some (.int .u64 x.v.b) := (blk_cell HS.out.act 5).trans rfl
  have c6 : (((w.alloc (.cells #[.int .i64 x.kind, .int .i64 x.f, .int .i64 x.d, .int .i64 x.s, .int .u8 x.v.k, .int .u64 x.v.b, .int .i64 x.v.d, .int .i64 x.v.s, .int .u64 x.bits, .int .u8 x.op, .slice x.A x.ns.length x.c] 29)).alloc (.cells #[.int .u8 0, .int .u64 0, .int .i64 0, .int .i64 0] 26)).alloc (.cells #[.int .u8 0, .int .u64 0, .int .i64 0, .int .i64 0] 26)).cell? ⟨w.heap.size, 6, none⟩ = some (.int .i64 x.v.d) := (blk_cell HS.out.act 6).trans rfl
  have c7 : (((w.alloc (.cells #[.int .i64 x.kind, .int .i64 x.f, .int .i64 x.d, .int .i64 x.s, .int .u8 x.v.k, .int .u64 x.v.b, .int .i64 x.v.d, .int .i64 x.v.s, .int .u64 x.bits, .int .u8 x.op, .slice x.A x.ns.length x.c] 29)).alloc (.cells #[.int .u8 0, .int .u64 0, .int .i64 0, .int .i64 0] 26)).alloc (.cells #[.int .u8 0, .int .u64 0, .int .i64 0, .int .i64 0] 26)).cell? ⟨w.heap.size, 7, none⟩ = some (.int .i64 x.v.s) := (blk_cell HS.out.act 7).trans rfl
  have c8 : (((w.alloc (.cells #[.int .i64 x.kind, .int .i64 x.f, .int .i64 x.d, .int .i64 x.s, .int .u8 x.v.k, .int .u64 x.v.b, .int .i64 x.v.d, .int .i64 x.v.s, .int .u64 x.bits, .int .u8 x.op, .slice x.A x.ns.length x.c] 29)).alloc (.cells #[.int .u8 0, .int .u64 0, .int .i64 0, .int .i64 0] 26)).alloc (.cells #[.int .u8 0, .int .u64 0, .int .i64 0, .int .i64 0] 26)).cell? ⟨w.heap.size, 8, none⟩ = some (.int .u64 x.bits) := (blk_cell HS.out.act 8).trans rfl
  have c9 : (((w.alloc (.cells #[.int .i64 x.kind, .int .i64 x.f, .int .i64 x.d, .int .i64 x.s, .int .u8 x.v.k, .int .u64 x.v.b, .int .i64 x.v.d, .int .i64 x.v.s, .int .u64 x.bits, .int .u8 x.op, .slice x.A x.ns.length x.c] 29)).alloc (.cells #[.int .u8 0, .int .u64 0, .int .i64 0, .int .i64 0] 26)).alloc (.cells #[.int .u8 0, .int .u64 0, .int .i64 0, .int .i64 0] 26)).cell? ⟨w.heap.size, 9, none⟩ = some (.int .u8 x.op) := (blk_cell HS.out.act 9).trans rfl
  have c10 : (((w.alloc (.cells #[.int .i64 x.kind, .int .i64 x.f, .int .i64 x.d, .int .i64 x.s, .int .u8 x.v.k, .int .u64 x.v.b, .int .i64 x.v.d, .int .i64 x.v.s, .int .u64 x.bits, .int .u8 x.op, .slice x.A x.ns.length x.c] 29)).alloc (.cells #[.int .u8 0, .int .u64 0, .int .i64 0, .int .i64 0] 26)).alloc (.cells #[.int .u8 0, .int .u64 0, .int .i64 0, .int .i64 0] 26)).cell? ⟨w.heap.size, 10, none⟩ = some (.slice x.A x.ns.length x.c) := (blk_cell HS.out.act 10).trans rfl
  have k0 : (x.kind == 0) = true := by rw [hk]; rfl
  clear h hs hz hx hk hE hR hV
  go_enter Tryd.func14, Tryd.ntmps14
  go_wp2_with (go_at_call 40; refine (HC.out _ HS.out.below).mono ?_; rintro e w5 ⟨A', c', rfl, g1, g2, g3⟩; have H5 := Aside0.mk (HS.out.step g3); have G1 := Aside0.mk g1; have G2 := Aside0.mk g2; clear g1 g2 g3)
  clear c0 c1 c2 c3 c4 c5 c6 c7 c8 c9 c10
  have u0 : w5.cell? ⟨w.heap.size + 1 + 1, 0, none⟩ = some (.int .u8 0) := (blk_cell H5.out.val 0).trans rfl
  have u1 : w5.cell? ⟨w.heap.size + 1 + 1, 1, none⟩ = some (.int .u64 0) := (blk_cell H5.out.val 1).trans rfl
  have u2 : w5.cell? ⟨w.heap.size + 1 + 1, 2, none⟩ = some (.int .i64 0) := (blk_cell H5.out.val 2).trans rfl
  have u3 : w5.cell? ⟨w.heap.size + 1 + 1, 3, none⟩ = some (.int .i64 0) := (blk_cell H5.out.val 3).trans rfl
  have z0 : w5.cell? ⟨w.heap.size + 1, 0, none⟩ = some (.int .u8 0) := (blk_cell H5.out.out 0).trans rfl
  have z1 : w5.cell? ⟨w.heap.size + 1, 1, none⟩ = some (.int .u64 0) := (blk_cell H5.out.out 1).trans rfl
  have z2 : w5.cell? ⟨w.heap.size + 1, 2, none⟩ = some (.int .i64 0) := (blk_cell H5.out.out 2).trans rfl
  have z3 : w5.cell? ⟨w.heap.size + 1, 3, none⟩ = some (.int .i64 0) := (blk_cell H5.out.out 3).trans rfl
  have y0 := blk_frozen H5.out.out 0
  have y1 := blk_frozen H5.out.out 1
  have y2 := blk_frozen H5.out.out 2
  have y3 := blk_frozen H5.out.out 3
  refine start_ (n := 6) (S := fun w' => w'.cell? ⟨w.heap.size + 1 + 1, 0, none⟩ = some (.int .u8 0) ∧ w'.cell? ⟨w.heap.size + 1 + 1, 1, none⟩ = some (.int .u64 0) ∧ w'.cell? ⟨w.heap.size + 1 + 1, 2, none⟩ = some (.int .i64 0) ∧ w'.cell? ⟨w.heap.size + 1 + 1, 3, none⟩ = some (.int .i64 0)) (ds := [4]) #[false, false, false, false, false, false] (by kernel_rfl) rfl rfl ⟨u0, u1, u2, u3⟩ (fun hHeld => ?_)
  refine pure_ (i := 0) (N := some 96) (v := ?_) (a' := ?_) #[true, false, false, false, false, false] rfl rfl (by kernel_rfl) (fun _ _ _ h => h) (Or.inl ⟨by rfl, ?_⟩) ?_ ?_
  rotate_left
  · intro w'
    go_simp
    with_reducible rfl
  rotate_left
  · simp only [Act.put, List.setIfInBounds_toArray, List.set_cons_zero, List.set_cons_succ, i64_w, i32_w]
    rfl
  refine pure_ (i := 2) (N := some 98) (v := ?_) (a' := ?_) #[true, false, true, false, false, false] rfl rfl (by kernel_rfl) (fun _ _ _ h => h) (Or.inl ⟨by rfl, ?_⟩) ?_ ?_
  rotate_left
  · intro w'
    go_simp
    with_reducible rfl
  rotate_left
  · simp only [Act.put, List.setIfInBounds_toArray, List.set_cons_zero, List.set_cons_succ, i64_w, i32_w]
    rfl
  refine pure_ (i := 3) (N := some 6) (v := ?_) (a' := ?_) #[true, false, true, true, false, false] rfl rfl (by kernel_rfl) (fun _ _ _ h => h) (Or.inl ⟨by rfl, ?_⟩) ?_ ?_
  rotate_left
  · intro w'
    go_simp
    with_reducible rfl
  rotate_left
  · simp only [Act.put, List.setIfInBounds_toArray, List.set_cons_zero, List.set_cons_succ, i64_w, i32_w]
    rfl
  refine take_ (i := 1) (N := some 97) (v := ?_) (a' := ?_) #[true, true, true, true, false, false] rfl rfl (by kernel_rfl) (fun _ _ _ h => h) (Or.inl ⟨by rfl, ?_⟩) hHeld ?_ ?_
  rotate_left
  · rintro w' ⟨s0, s1, s2, s3⟩
    go_simp
    with_reducible rfl
  rotate_left
  · simp only [Act.put, List.setIfInBounds_toArray, List.set_cons_zero, List.set_cons_succ, i64_w, i32_w]
    rfl
  refine last_ (i := 4) (N := none) #[true, true, true, true, true, false] rfl rfl (by kernel_rfl) (by decide) (fun K hK => ?_)
  refine skip_ (w1 := ?_) (by rfl) rfl ?_ ?_
  rotate_left
  · go_simp
    rfl
  refine hK.out _ _ ?_
  clear hK K
  refine pure_ (i := 5) (N := some 8) (v := ?_) (a' := ?_) #[true, true, true, true, true, true] rfl rfl (by kernel_rfl) (fun _ _ _ h => h) (Or.inl ⟨by rfl, ?_⟩) ?_ ?_
  rotate_left
  · intro w'
    go_simp
    with_reducible rfl
  rotate_left
  · simp only [Act.put, List.setIfInBounds_toArray, List.set_cons_zero, List.set_cons_succ, i64_w, i32_w]
    rfl
  refine done_ (by kernel_rfl) ?_
  clear hHeld
  go_wp2
  have hfin := blk_set4 (.int .u8 0) (.int .u64 0) (.int .i64 0) (.int .i64 0) H5.out.out
  refine ⟨rfl, _, results_tct Tryd.results14 _ _ (w.heap.size + 1) 26 _ (0, 0) _ rfl hfin Tryd.underlying26 rfl (by kernel_rfl), ?_⟩
  have hbf := below_set4 (.int .u8 0) (.int .u64 0) (.int .i64 0) (.int .i64 0) H5.out.below (show w.heap.size ≤ w.heap.size + 1 from Nat.le_succ _)
  have hsame := set4_same H5.out.out
  exact HD.out _ _ ⟨A', c', rfl, by rw [hsame]; exact Kd.C_drew G1.out, G2.out, below_drew hbf⟩
set_option maxRecDepth 100000 in
set_option maxHeartbeats 2000000 in
theorem does_ret (a : Nat) (t : List Ent) (A : Option Addr) (c : Nat) (l : List Fr) (x : Ac) (w : World) (h : IsRow w a t A c l) (hs : SmallR l) (hz : tSize t x.f ≤ 1000000) (hx : AcOk w x) (hk : x.kind = 1) :
    Calls Tryd.prog 14 #[.pointer (some ⟨a, 0, none⟩), .slice A l.length c, .agg #[.int .i64 x.kind, .int .i64 x.f, .int .i64 x.d, .int .i64 x.s, .int .u8 x.v.k, .int .u64 x.v.b, .int .i64 x.v.d, .int .i64 x.v.s, .int .u64 x.bits, .int .u8 x.op, .slice x.A x.ns.length x.c]] w (DoesPost t l x w) := by
  have HS := Aside0.mk (DoW.start w x)
  have HC := Aside0.mk (fun (W : World) (hB : Below w.heap.size w W) => (Return_calls a t A c l W (h.below hB) hs : Calls _ _ _ W (ChPost W (chRow t l (retE l) (l.take (l.length - 1))) (chErr t l (retE l)))))
  have hE : actE t l x = retE l := by unfold actE; rw [hk]; rfl
  have hR : actRow t l x = l.take (l.length - 1) := by unfold actRow; rw [hk]; rfl
  have hV : actVal t l x = zVl := by unfold actVal; rw [hk]; rfl
  have HD := Aside0.mk (show ∀ e w', (∃ A' c', e = .returned (.tuple #[.slice A' (chRow t l (retE l) (l.take (l.length - 1))).length c', .agg #[.int .u8 0, .int .u64 0, .int .i64 0, .int .i64 0], .int .i64 (chErr t l (retE l))]) ∧ kFr.C w' A' (chRow t l (retE l) (l.take (l.length - 1))).length (chRow t l (retE l) (l.take (l.length - 1))) ∧ (chRow t l (retE l) (l.take (l.length - 1))).length ≤ c' ∧ Below w.heap.size w w') → DoesPost t l x w e w' from fun e w' hh => by unfold DoesPost; rw [hE, hR, hV]; exact hh)
  generalize chRow t l (retE l) (l.take (l.length - 1)) = L at *
  generalize chErr t l (retE l) = X at *
  generalize DoesPost t l x w = Post at *
  have HK := Aside0.mk hk
  have c0 : (((w.alloc (.cells #[.int .i64 x.kind, .int .i64 x.f, .int .i64 x.d, .int .i64 x.s, .int .u8 x.v.k, .int .u64 x.v.b, .int .i64 x.v.d, .int .i64 x.v.s, .int .u64 x.bits, .int .u8 x.op, .slice x.A x.ns.length x.c] 29)).alloc (.cells #[.int .u8 0, .int .u64 0, .int .i64 0, .int .i64 0] 26)).alloc (.cells #[.int .u8 0, .int .u64 0, .int .i64 0, .int .i64 0] 26)).cell? ⟨w.heap.size, 0, none⟩ = some (.int .i64 x.kind) := (blk_cell HS.out.act 0).trans rfl
  have c1 : (((w.alloc (.cells #[.int .i64 x.kind, .int .i64 x.f, .int .i64 x.d, .int .i64 x.s, .int .u8 x.v.k, .int .u64 x.v.b, .int .i64 x.v.d, .int .i64 x.v.s, .int .u64 x.bits, .int .u8 x.op, .slice x.A x.ns.length x.c] 29)).alloc (.cells #[.int .u8 0, .int .u64 0, .int .i64 0, .int .i64 0] 26)).alloc (.cells #[.int .u8 0, .int .u64 0, .int .i64 0, .int .i64 0] 26)).cell? ⟨w.heap.size, 1, none⟩ = some (.int .i64 x.f) := (blk_cell HS.out.act 1).trans rfl
  have c2 : (((w.alloc (.cells #[.int .i64 x.kind, .int .i64 x.f, .int .i64 x.d, .int .i64 x.s, .int .u8 x.v.k, .int .u64 x.v.b, .int .i64 x.v.d, .int .i64 x.v.s, .int .u64 x.bits, .int .u8 x.op, .slice x.A x.ns.length x.c] 29)).alloc (.cells #[.int .u8 0, .int .u64 0, .int .i64 0, .int .i64 0] 26)).alloc (.cells #[.int .u8 0, .int .u64 0, .int .i64 0, .int .i64 0] 26)).cell? ⟨w.heap.size, 2, none⟩ = some (.int .i64 x.d) := (blk_cell HS.out.act 2).trans rfl
  have c3 : (((w.alloc (.cells #[.int .i64 x.kind, .int .i64 x.f, .int .i64 x.d, .int .i64 x.s, .int .u8 x.v.k, .int .u64 x.v.b, .int .i64 x.v.d, .int .i64 x.v.s, .int .u64 x.bits, .int .u8 x.op, .slice x.A x.ns.length x.c] 29)).alloc (.cells #[.int .u8 0, .int .u64 0, .int .i64 0, .int .i64 0] 26)).alloc (.cells #[.int .u8 0, .int .u64 0, .int .i64 0, .int .i64 0] 26)).cell? ⟨w.heap.size, 3, none⟩ = some (.int .i64 x.s) := (blk_cell HS.out.act 3).trans rfl
  have c4 : (((w.alloc (.cells #[.int .i64 x.kind, .int .i64 x.f, .int .i64 x.d, .int .i64 x.s, .int .u8 x.v.k, .int .u64 x.v.b, .int .i64 x.v.d, .int .i64 x.v.s, .int .u64 x.bits, .int .u8 x.op, .slice x.A x.ns.length x.c] 29)).alloc (.cells #[.int .u8 0, .int .u64 0, .int .i64 0, .int .i64 0] 26)).alloc (.cells #[.int .u8 0, .int .u64 0, .int .i64 0, .int .i64 0] 26)).cell? ⟨w.heap.size, 4, none⟩ = some (.int .u8 x.v.k) := (blk_cell HS.out.act 4).trans rfl
  have c5 : (((w.alloc (.cells #[.int .i64 x.kind, .int .i64 x.f, .int .i64 x.d, .int .i64 x.s, .int .u8 x.v.k, .int .u64 x.v.b, .int .i64 x.v.d, .int .i64 x.v.s, .int .u64 x.bits, .int .u8 x.op, .slice x.A x.ns.length x.c] 29)).alloc (.cells #[.int .u8 0, .int .u64 0, .int .i64 0, .int .i64 0] 26)).alloc (.cells #[.int .u8 0, .int .u64 0, .int .i64 0, .int .i64 0] 26)).cell? ⟨w.heap.size, 5, none⟩ = some (.int .u64 x.v.b) := (blk_cell HS.out.act 5).trans rfl
  have c6 : (((w.alloc (.cells #[.int .i64 x.kind, .int .i64 x.f, .int .i64 x.d, .int .i64 x.s, .int .u8 x.v.k, .int .u64 x.v.b, .int .i64 x.v.d, .int .i64 x.v.s, .int .u64 x.bits, .int .u8 x.op, .slice x.A x.ns.length x.c] 29)).alloc (.cells #[.int .u8 0, .int .u64 0, .int .i64 0, .int .i64 0] 26)).alloc (.cells #[.int .u8 0, .int .u64 0, .int .i64 0, .int .i64 0] 26)).cell? ⟨w.heap.size, 6, none⟩ = some (.int .i64 x.v.d) := (blk_cell HS.out.act 6).trans rfl
  have c7 : (((w.alloc (.cells #[.int .i64 x.kind, .int .i64 x.f, .int .i64 x.d, .int .i64 x.s, .int .u8 x.v.k, .int .u64 x.v.b, .int .i64 x.v.d, .int .i64 x.v.s, .int .u64 x.bits, .int .u8 x.op, .slice x.A x.ns.length x.c] 29)).alloc (.cells #[.int .u8 0, .int .u64 0, .int .i64 0, .int .i64 0] 26)).alloc (.cells #[.int .u8 0, .int .u64 0, .int .i64 0, .int .i64 0] 26)).cell? ⟨w.heap.size, 7, none⟩ = some (.int .i64 x.v.s) := (blk_cell HS.out.act 7).trans rfl
  have c8 : (((w.alloc (.cells #[.int .i64 x.kind, .int .i64 x.f, .int .i64 x.d, .int .i64 x.s, .int .u8 x.v.k, .int .u64 x.v.b, .int .i64 x.v.d, .int .i64 x.v.s, .int .u64 x.bits, .int .u8 x.op, .slice x.A x.ns.length x.c] 29)).alloc (.cells #[.int .u8 0, .int .u64 0, .int .i64 0, .int .i64 0] 26)).alloc (.cells #[.int .u8 0, .int .u64 0, .int .i64 0, .int .i64 0] 26)).cell? ⟨w.heap.size, 8, none⟩ = some (.int .u64 x.bits) := (blk_cell HS.out.act 8).trans rfl
  have c9 : (((w.alloc (.cells #[.int .i64 x.kind, .int .i64 x.f, .int .i64 x.d, .int .i64 x.s, .int .u8 x.v.k, .int .u64 x.v.b, .int .i64 x.v.d, .int .i64 x.v.s, .int .u64 x.bits, .int .u8 x.op, .slice x.A x.ns.length x.c] 29)).alloc (.cells #[.int .u8 0, .int .u64 0, .int .i64 0, .int .i64 0] 26)).alloc (.cells #[.int .u8 0, .int .u64 0, .int .i64 0, .int .i64 0] 26)).cell? ⟨w.heap.size, 9, none⟩ = some (.int .u8 x.op) := (blk_cell HS.out.act 9).trans rfl
  have c10 : (((w.alloc (.cells #[.int .i64 x.kind, .int .i64 x.f, .int .i64 x.d, .int .i64 x.s, .int .u8 x.v.k, .int .u64 x.v.b, .int .i64 x.v.d, .int .i64 x.v.s, .int .u64 x.bits, .int .u8 x.op, .slice x.A x.ns.length x.c] 29)).alloc (.cells #[.int .u8 0, .int .u64 0, .int .i64 0, .int .i64 0] 26)).alloc (.cells #[.int .u8 0, .int .u64 0, .int .i64 0, .int .i64 0] 26)).cell? ⟨w.heap.size, 10, none⟩ = some (.slice x.A x.ns.length x.c) := (blk_cell HS.out.act 10).trans rfl
  have k0 : (x.kind == 0) = false := by rw [hk]; rfl
  have k1 : (x.kind == 1) = true := by rw [hk]; rfl
  clear h hs hz hx hk hE hR hV
  go_enter Tryd.func14, Tryd.ntmps14
  go_wp2_with (go_at_call 41; refine (HC.out _ HS.out.below).mono ?_; rintro e w5 ⟨A', c', rfl, g1, g2, g3⟩; have H5 := Aside0.mk (HS.out.step g3); have G1 := Aside0.mk g1; have G2 := Aside0.mk g2; clear g1 g2 g3)
  clear c0 c1 c2 c3 c4 c5 c6 c7 c8 c9 c10
  have u0 : w5.cell? ⟨w.heap.size + 1 + 1, 0, none⟩ = some (.int .u8 0) := (blk_cell H5.out.val 0).trans rfl
  have u1 : w5.cell? ⟨w.heap.size + 1 + 1, 1, none⟩ = some (.int .u64 0) := (blk_cell H5.out.val 1).trans rfl
  have u2 : w5.cell? ⟨w.heap.size + 1 + 1, 2, none⟩ = some (.int .i64 0) := (blk_cell H5.out.val 2).trans rfl
  have u3 : w5.cell? ⟨w.heap.size + 1 + 1, 3, none⟩ = some (.int .i64 0) := (blk_cell H5.out.val 3).trans rfl
  have z0 : w5.cell? ⟨w.heap.size + 1, 0, none⟩ = some (.int .u8 0) := (blk_cell H5.out.out 0).trans rfl
  have z1 : w5.cell? ⟨w.heap.size + 1, 1, none⟩ = some (.int .u64 0) := (blk_cell H5.out.out 1).trans rfl
  have z2 : w5.cell? ⟨w.heap.size + 1, 2, none⟩ = some (.int .i64 0) := (blk_cell H5.out.out 2).trans rfl
  have z3 : w5.cell? ⟨w.heap.size + 1, 3, none⟩ = some (.int .i64 0) := (blk_cell H5.out.out 3).trans rfl
  have y0 := blk_frozen H5.out.out 0
  have y1 := blk_frozen H5.out.out 1
  have y2 := blk_frozen H5.out.out 2
  have y3 := blk_frozen H5.out.out 3
  refine start_ (n := 6) (S := fun w' => w'.cell? ⟨w.heap.size + 1 + 1, 0, none⟩ = some (.int .u8 0) ∧ w'.cell? ⟨w.heap.size + 1 + 1, 1, none⟩ = some (.int .u64 0) ∧ w'.cell? ⟨w.heap.size + 1 + 1, 2, none⟩ = some (.int .i64 0) ∧ w'.cell? ⟨w.heap.size + 1 + 1, 3, none⟩ = some (.int .i64 0)) (ds := [4]) #[false, false, false, false, false, false] (by kernel_rfl) rfl rfl ⟨u0, u1, u2, u3⟩ (fun hHeld => ?_)
  refine pure_ (i := 0) (N := some 96) (v := ?_) (a' := ?_) #[true, false, false, false, false, false] rfl rfl (by kernel_rfl) (fun _ _ _ h => h) (Or.inl ⟨by rfl, ?_⟩) ?_ ?_
  rotate_left
  · intro w'
    go_simp
    with_reducible rfl
  rotate_left
  · simp only [Act.put, List.setIfInBounds_toArray, List.set_cons_zero, List.set_cons_succ, i64_w, i32_w]
    rfl
  refine pure_ (i := 2) (N := some 98) (v := ?_) (a' := ?_) #[true, false, true, false, false, false] rfl rfl (by kernel_rfl) (fun _ _ _ h => h) (Or.inl ⟨by rfl, ?_⟩) ?_ ?_
  rotate_left
  · intro w'
    go_simp
    with_reducible rfl
  rotate_left
  · simp only [Act.put, List.setIfInBounds_toArray, List.set_cons_zero, List.set_cons_succ, i64_w, i32_w]
    rfl
  refine pure_ (i := 3) (N := some 6) (v := ?_) (a' := ?_) #[true, false, true, true, false, false] rfl rfl (by kernel_rfl) (fun _ _ _ h => h) (Or.inl ⟨by rfl, ?_⟩) ?_ ?_
  rotate_left
  · intro w'
    go_simp
    with_reducible rfl
  rotate_left
  · simp only [Act.put, List.setIfInBounds_toArray, List.set_cons_zero, List.set_cons_succ, i64_w, i32_w]
    rfl
  refine take_ (i := 1) (N := some 97) (v := ?_) (a' := ?_) #[true, true, true, true, false, false] rfl rfl (by kernel_rfl) (fun _ _ _ h => h) (Or.inl ⟨by rfl, ?_⟩) hHeld ?_ ?_
  rotate_left
  · rintro w' ⟨s0, s1, s2, s3⟩
    go_simp
    with_reducible rfl
  rotate_left
  · simp only [Act.put, List.setIfInBounds_toArray, List.set_cons_zero, List.set_cons_succ, i64_w, i32_w]
    rfl
  refine last_ (i := 4) (N := none) #[true, true, true, true, true, false] rfl rfl (by kernel_rfl) (by decide) (fun K hK => ?_)
  refine skip_ (w1 := ?_) (by rfl) rfl ?_ ?_
  rotate_left
  · go_simp
    rfl
  refine hK.out _ _ ?_
  clear hK K
  refine pure_ (i := 5) (N := some 8) (v := ?_) (a' := ?_) #[true, true, true, true, true, true] rfl rfl (by kernel_rfl) (fun _ _ _ h => h) (Or.inl ⟨by rfl, ?_⟩) ?_ ?_
  rotate_left
  · intro w'
    go_simp
    with_reducible rfl
  rotate_left
  · simp only [Act.put, List.setIfInBounds_toArray, List.set_cons_zero, List.set_cons_succ, i64_w, i32_w]
    rfl
  refine done_ (by kernel_rfl) ?_
  clear hHeld
  go_wp2
  have hfin := blk_set4 (.int .u8 0) (.int .u64 0) (.int .i64 0) (.int .i64 0) H5.out.out
  refine ⟨rfl, _, results_tct Tryd.results14 _ _ (w.heap.size + 1) 26 _ (0, 0) _ rfl hfin Tryd.underlying26 rfl (by kernel_rfl), ?_⟩
  have hbf := below_set4 (.int .u8 0) (.int .u64 0) (.int .i64 0) (.int .i64 0) H5.out.below (show w.heap.size ≤ w.heap.size + 1 from Nat.le_succ _)
  have hsame := set4_same H5.out.out
  exact HD.out _ _ ⟨A', c', rfl, by rw [hsame]; exact Kd.C_drew G1.out, G2.out, below_drew hbf⟩
set_option maxRecDepth 100000 in
set_option maxHeartbeats 2000000 in
theorem does_set (a : Nat) (t : List Ent) (A : Option Addr) (c : Nat) (l : List Fr) (x : Ac) (w : World) (h : IsRow w a t A c l) (hs : SmallR l) (hz : tSize t x.f ≤ 1000000) (hx : AcOk w x) (hk : x.kind = 2) :
    Calls Tryd.prog 14 #[.pointer (some ⟨a, 0, none⟩), .slice A l.length c, .agg #[.int .i64 x.kind, .int .i64 x.f, .int .i64 x.d, .int .i64 x.s, .int .u8 x.v.k, .int .u64 x.v.b, .int .i64 x.v.d, .int .i64 x.v.s, .int .u64 x.bits, .int .u8 x.op, .slice x.A x.ns.length x.c]] w (DoesPost t l x w) := by
  have HS := Aside0.mk (DoW.start w x)
  have HC := Aside0.mk (fun (W : World) (hB : Below w.heap.size w W) => (Set_calls a t A c l x.d x.s x.v W (h.below hB) hs hx.s : Calls _ _ _ W (ChPost W (chRow t l (setE t l x.d x.s x.v) (setRow l x.d x.s x.v)) (chErr t l (setE t l x.d x.s x.v)))))
  have hE : actE t l x = setE t l x.d x.s x.v := by unfold actE; rw [hk]; rfl
  have hR : actRow t l x = setRow l x.d x.s x.v := by unfold actRow; rw [hk]; rfl
  have hV : actVal t l x = zVl := by unfold actVal; rw [hk]; rfl
  have HD := Aside0.mk (show ∀ e w', (∃ A' c', e = .returned (.tuple #[.slice A' (chRow t l (setE t l x.d x.s x.v) (setRow l x.d x.s x.v)).length c', .agg #[.int .u8 0, .int .u64 0, .int .i64 0, .int .i64 0], .int .i64 (chErr t l (setE t l x.d x.s x.v))]) ∧ kFr.C w' A' (chRow t l (setE t l x.d x.s x.v) (setRow l x.d x.s x.v)).length (chRow t l (setE t l x.d x.s x.v) (setRow l x.d x.s x.v)) ∧ (chRow t l (setE t l x.d x.s x.v) (setRow l x.d x.s x.v)).length ≤ c' ∧ Below w.heap.size w w') → DoesPost t l x w e w' from fun e w' hh => by unfold DoesPost; rw [hE, hR, hV]; exact hh)
  generalize chRow t l (setE t l x.d x.s x.v) (setRow l x.d x.s x.v) = L at *
  generalize chErr t l (setE t l x.d x.s x.v) = X at *
  generalize DoesPost t l x w = Post at *
  have HK := Aside0.mk hk
  have c0 : (((w.alloc (.cells #[.int .i64 x.kind, .int .i64 x.f, .int .i64 x.d, .int .i64 x.s, .int .u8 x.v.k, .int .u64 x.v.b, .int .i64 x.v.d, .int .i64 x.v.s, .int .u64 x.bits, .int .u8 x.op, .slice x.A x.ns.length x.c] 29)).alloc (.cells #[.int .u8 0, .int .u64 0, .int .i64 0, .int .i64 0] 26)).alloc (.cells #[.int .u8 0, .int .u64 0, .int .i64 0, .int .i64 0] 26)).cell? ⟨w.heap.size, 0, none⟩ = some (.int .i64 x.kind) := (blk_cell HS.out.act 0).trans rfl
  have c1 : (((w.alloc (.cells #[.int .i64 x.kind, .int .i64 x.f, .int .i64 x.d, .int .i64 x.s, .int .u8 x.v.k, .int .u64 x.v.b, .int .i64 x.v.d, .int .i64 x.v.s, .int .u64 x.bits, .int .u8 x.op, .slice x.A x.ns.length x.c] 29)).alloc (.cells #[.int .u8 0, .int .u64 0, .int .i64 0, .int .i64 0] 26)).alloc (.cells #[.int .u8 0, .int .u64 0, .int .i64 0, .int .i64 0] 26)).cell? ⟨w.heap.size, 1, none⟩ = some (.int .i64 x.f) := (blk_cell HS.out.act 1).trans rfl
  have c2 : (((w.alloc (.cells #[.int .i64 x.kind, .int .i64 x.f, .int .i64 x.d, .int .i64 x.s, .int .u8 x.v.k, .int .u64 x.v.b, .int .i64 x.v.d, .int .i64 x.v.s, .int .u64 x.bits, .int .u8 x.op, .slice x.A x.ns.length x.c] 29)).alloc (.cells #[.int .u8 0, .int .u64 0, .int .i64 0, .int .i64 0] 26)).alloc (.cells #[.int .u8 0, .int .u64 0, .int .i64 0, .int .i64 0] 26)).cell? ⟨w.heap.size, 2, none⟩ = some (.int .i64 x.d) := (blk_cell HS.out.act 2).trans rfl
  have c3 : (((w.alloc (.cells #[.int .i64 x.kind, .int .i64 x.f, .int .i64 x.d, .int .i64 x.s, .int .u8 x.v.k, .int .u64 x.v.b, .int .i64 x.v.d, .int .i64 x.v.s, .int .u64 x.bits, .int .u8 x.op, .slice x.A x.ns.length x.c] 29)).alloc (.cells #[.int .u8 0, .int .u64 0, .int .i64 0, .int .i64 0] 26)).alloc (.cells #[.int .u8 0, .int .u64 0, .int .i64 0, .int .i64 0] 26)).cell? ⟨w.heap.size, 3, none⟩ = some (.int .i64 x.s) := (blk_cell HS.out.act 3).trans rfl
  have c4 : (((w.alloc (.cells #[.int .i64 x.kind, .int .i64 x.f, .int .i64 x.d, .int .i64 x.s, .int .u8 x.v.k, .int .u64 x.v.b, .int .i64 x.v.d, .int .i64 x.v.s, .int .u64 x.bits, .int .u8 x.op, .slice x.A x.ns.length x.c] 29)).alloc (.cells #[.int .u8 0, .int .u64 0, .int .i64 0, .int .i64 0] 26)).alloc (.cells #[.int .u8 0, .int .u64 0, .int .i64 0, .int .i64 0] 26)).cell? ⟨w.heap.size, 4, none⟩ = some (.int .u8 x.v.k) := (blk_cell HS.out.act 4).trans rfl
  have c5 : (((w.alloc (.cells #[.int .i64 x.kind, .int .i64 x.f, .int .i64 x.d, .int .i64 x.s, .int .u8 x.v.k, .int .u64 x.v.b, .int .i64 x.v.d, .int .i64 x.v.s, .int .u64 x.bits, .int .u8 x.op, .slice x.A x.ns.length x.c] 29)).alloc (.cells #[.int .u8 0, .int .u64 0, .int .i64 0, .int .i64 0] 26)).alloc (.cells #[.int .u8 0, .int .u64 0, .int .i64 0, .int .i64 0] 26)).cell? ⟨w.heap.size, 5, none⟩ = some (.int .u64 x.v.b) := (blk_cell HS.out.act 5).trans rfl
  have c6 : (((w.alloc (.cells #[.int .i64 x.kind, .int .i64 x.f, .int .i64 x.d, .int .i64 x.s, .int .u8 x.v.k, .int .u64 x.v.b, .int .i64 x.v.d, .int .i64 x.v.s, .int .u64 x.bits, .int .u8 x.op, .slice x.A x.ns.length x.c] 29)).alloc (.cells #[.int .u8 0, .int .u64 0, .int .i64 0, .int .i64 0] 26)).alloc (.cells #[.int .u8 0, .int .u64 0, .int .i64 0, .int .i64 0] 26)).cell? ⟨w.heap.size, 6, none⟩ = some (.int .i64 x.v.d) := (blk_cell HS.out.act 6).trans rfl
  have c7 : (((w.alloc (.cells #[.int .i64 x.kind, .int .i64 x.f, .int .i64 x.d, .int .i64 x.s, .int .u8 x.v.k, .int .u64 x.v.b, .int .i64 x.v.d, .int .i64 x.v.s, .int .u64 x.bits, .int .u8 x.op, .slice x.A x.ns.length x.c] 29)).alloc (.cells #[.int .u8 0, .int .u64 0, .int .i64 0, .int .i64 0] 26)).alloc (.cells #[.int .u8 0, .int .u64 0, .int .i64 0, .int .i64 0] 26)).cell? ⟨w.heap.size, 7, none⟩ = some (.int .i64 x.v.s) := (blk_cell HS.out.act 7).trans rfl
  have c8 : (((w.alloc (.cells #[.int .i64 x.kind, .int .i64 x.f, .int .i64 x.d, .int .i64 x.s, .int .u8 x.v.k, .int .u64 x.v.b, .int .i64 x.v.d, .int .i64 x.v.s, .int .u64 x.bits, .int .u8 x.op, .slice x.A x.ns.length x.c] 29)).alloc (.cells #[.int .u8 0, .int .u64 0, .int .i64 0, .int .i64 0] 26)).alloc (.cells #[.int .u8 0, .int .u64 0, .int .i64 0, .int .i64 0] 26)).cell? ⟨w.heap.size, 8, none⟩ = some (.int .u64 x.bits) := (blk_cell HS.out.act 8).trans rfl
  have c9 : (((w.alloc (.cells #[.int .i64 x.kind, .int .i64 x.f, .int .i64 x.d, .int .i64 x.s, .int .u8 x.v.k, .int .u64 x.v.b, .int .i64 x.v.d, .int .i64 x.v.s, .int .u64 x.bits, .int .u8 x.op, .slice x.A x.ns.length x.c] 29)).alloc (.cells #[.int .u8 0, .int .u64 0, .int .i64 0, .int .i64 0] 26)).alloc (.cells #[.int .u8 0, .int .u64 0, .int .i64 0, .int .i64 0] 26)).cell? ⟨w.heap.size, 9, none⟩ = some (.int .u8 x.op) := (blk_cell HS.out.act 9).trans rfl
  have c10 : (((w.alloc (.cells #[.int .i64 x.kind, .int .i64 x.f, .int .i64 x.d, .int .i64 x.s, .int .u8 x.v.k, .int .u64 x.v.b, .int .i64 x.v.d, .int .i64 x.v.s, .int .u64 x.bits, .int .u8 x.op, .slice x.A x.ns.length x.c] 29)).alloc (.cells #[.int .u8 0, .int .u64 0, .int .i64 0, .int .i64 0] 26)).alloc (.cells #[.int .u8 0, .int .u64 0, .int .i64 0, .int .i64 0] 26)).cell? ⟨w.heap.size, 10, none⟩ = some (.slice x.A x.ns.length x.c) := (blk_cell HS.out.act 10).trans rfl
  have k0 : (x.kind == 0) = false := by rw [hk]; rfl
  have k1 : (x.kind == 1) = false := by rw [hk]; rfl
  have k2 : (x.kind == 2) = true := by rw [hk]; rfl
  clear h hs hz hx hk hE hR hV
  go_enter Tryd.func14, Tryd.ntmps14
  go_wp2_with (go_at_call 44; refine (HC.out _ HS.out.below).mono ?_; rintro e w5 ⟨A', c', rfl, g1, g2, g3⟩; have H5 := Aside0.mk (HS.out.step g3); have G1 := Aside0.mk g1; have G2 := Aside0.mk g2; clear g1 g2 g3)
  clear c0 c1 c2 c3 c4 c5 c6 c7 c8 c9 c10
  have u0 : w5.cell? ⟨w.heap.size + 1 + 1, 0, none⟩ = some (.int .u8 0) := (blk_cell H5.out.val 0).trans rfl
  have u1 : w5.cell? ⟨w.heap.size + 1 + 1, 1, none⟩ = some (.int .u64 0) := (blk_cell H5.out.val 1).trans rfl
  have u2 : w5.cell? ⟨w.heap.size + 1 + 1, 2, none⟩ = some (.int .i64 0) := (blk_cell H5.out.val 2).trans rfl
  have u3 : w5.cell? ⟨w.heap.size + 1 + 1, 3, none⟩ = some (.int .i64 0) := (blk_cell H5.out.val 3).trans rfl
  have z0 : w5.cell? ⟨w.heap.size + 1, 0, none⟩ = some (.int .u8 0) := (blk_cell H5.out.out 0).trans rfl
  have z1 : w5.cell? ⟨w.heap.size + 1, 1, none⟩ = some (.int .u64 0) := (blk_cell H5.out.out 1).trans rfl
  have z2 : w5.cell? ⟨w.heap.size + 1, 2, none⟩ = some (.int .i64 0) := (blk_cell H5.out.out 2).trans rfl
  have z3 : w5.cell? ⟨w.heap.size + 1, 3, none⟩ = some (.int .i64 0) := (blk_cell H5.out.out 3).trans rfl
  have y0 := blk_frozen H5.out.out 0
  have y1 := blk_frozen H5.out.out 1
  have y2 := blk_frozen H5.out.out 2
  have y3 := blk_frozen H5.out.out 3
  refine start_ (n := 6) (S := fun w' => w'.cell? ⟨w.heap.size + 1 + 1, 0, none⟩ = some (.int .u8 0) ∧ w'.cell? ⟨w.heap.size + 1 + 1, 1, none⟩ = some (.int .u64 0) ∧ w'.cell? ⟨w.heap.size + 1 + 1, 2, none⟩ = some (.int .i64 0) ∧ w'.cell? ⟨w.heap.size + 1 + 1, 3, none⟩ = some (.int .i64 0)) (ds := [4]) #[false, false, false, false, false, false] (by kernel_rfl) rfl rfl ⟨u0, u1, u2, u3⟩ (fun hHeld => ?_)
  refine pure_ (i := 0) (N := some 96) (v := ?_) (a' := ?_) #[true, false, false, false, false, false] rfl rfl (by kernel_rfl) (fun _ _ _ h => h) (Or.inl ⟨by rfl, ?_⟩) ?_ ?_
  rotate_left
  · intro w'
    go_simp
    with_reducible rfl
  rotate_left
  · simp only [Act.put, List.setIfInBounds_toArray, List.set_cons_zero, List.set_cons_succ, i64_w, i32_w]
    rfl
  refine pure_ (i := 2) (N := some 98) (v := ?_) (a' := ?_) #[true, false, true, false, false, false] rfl rfl (by kernel_rfl) (fun _ _ _ h => h) (Or.inl ⟨by rfl, ?_⟩) ?_ ?_
  rotate_left
  · intro w'
    go_simp
    with_reducible rfl
  rotate_left
  · simp only [Act.put, List.setIfInBounds_toArray, List.set_cons_zero, List.set_cons_succ, i64_w, i32_w]
    rfl
  refine pure_ (i := 3) (N := some 6) (v := ?_) (a' := ?_) #[true, false, true, true, false, false] rfl rfl (by kernel_rfl) (fun _ _ _ h => h) (Or.inl ⟨by rfl, ?_⟩) ?_ ?_
  rotate_left
  · intro w'
    go_simp
    with_reducible rfl
  rotate_left
  · simp only [Act.put, List.setIfInBounds_toArray, List.set_cons_zero, List.set_cons_succ, i64_w, i32_w]
    rfl
  refine take_ (i := 1) (N := some 97) (v := ?_) (a' := ?_) #[true, true, true, true, false, false] rfl rfl (by kernel_rfl) (fun _ _ _ h => h) (Or.inl ⟨by rfl, ?_⟩) hHeld ?_ ?_
  rotate_left
  · rintro w' ⟨s0, s1, s2, s3⟩
    go_simp
    with_reducible rfl
  rotate_left
  · simp only [Act.put, List.setIfInBounds_toArray, List.set_cons_zero, List.set_cons_succ, i64_w, i32_w]
    rfl
  refine last_ (i := 4) (N := none) #[true, true, true, true, true, false] rfl rfl (by kernel_rfl) (by decide) (fun K hK => ?_)
  refine skip_ (w1 := ?_) (by rfl) rfl ?_ ?_
  rotate_left
  · go_simp
    rfl
  refine hK.out _ _ ?_
  clear hK K
  refine pure_ (i := 5) (N := some 8) (v := ?_) (a' := ?_) #[true, true, true, true, true, true] rfl rfl (by kernel_rfl) (fun _ _ _ h => h) (Or.inl ⟨by rfl, ?_⟩) ?_ ?_
  rotate_left
  · intro w'
    go_simp
    with_reducible rfl
  rotate_left
  · simp only [Act.put, List.setIfInBounds_toArray, List.set_cons_zero, List.set_cons_succ, i64_w, i32_w]
    rfl
  refine done_ (by kernel_rfl) ?_
  clear hHeld
  go_wp2
  have hfin := blk_set4 (.int .u8 0) (.int .u64 0) (.int .i64 0) (.int .i64 0) H5.out.out
  refine ⟨rfl, _, results_tct Tryd.results14 _ _ (w.heap.size + 1) 26 _ (0, 0) _ rfl hfin Tryd.underlying26 rfl (by kernel_rfl), ?_⟩
  have hbf := below_set4 (.int .u8 0) (.int .u64 0) (.int .i64 0) (.int .i64 0) H5.out.below (show w.heap.size ≤ w.heap.size + 1 from Nat.le_succ _)
  have hsame := set4_same H5.out.out
  exact HD.out _ _ ⟨A', c', rfl, by rw [hsame]; exact Kd.C_drew G1.out, G2.out, below_drew hbf⟩
set_option maxRecDepth 100000 in
set_option maxHeartbeats 2000000 in
theorem does_get (a : Nat) (t : List Ent) (A : Option Addr) (c : Nat) (l : List Fr) (x : Ac) (w : World) (h : IsRow w a t A c l) (hs : SmallR l) (hz : tSize t x.f ≤ 1000000) (hx : AcOk w x) (hk : x.kind = 3) :
    Calls Tryd.prog 14 #[.pointer (some ⟨a, 0, none⟩), .slice A l.length c, .agg #[.int .i64 x.kind, .int .i64 x.f, .int .i64 x.d, .int .i64 x.s, .int .u8 x.v.k, .int .u64 x.v.b, .int .i64 x.v.d, .int .i64 x.v.s, .int .u64 x.bits, .int .u8 x.op, .slice x.A x.ns.length x.c]] w (DoesPost t l x w) := by
  have HS := Aside0.mk (DoW.start w x)
  have HC := Aside0.mk (fun (W : World) (hB : Below w.heap.size w W) => (Get_calls a t A c l x.d x.s W (h.below hB)))
  have HRw := Aside0.mk (fun (W : World) (hB : Below w.heap.size w W) => (h.below hB).rows)
  have HCp := Aside0.mk h.cap
  have hE : actE t l x = getE l x.d x.s := by unfold actE; rw [hk]; rfl
  have hR : actRow t l x = l := by unfold actRow; rw [hk]; rfl
  have hV : actVal t l x = askVal t l (getE l x.d x.s) (vl (fr l x.d).l x.s) := by unfold actVal; rw [hk]; rfl
  have hL : chRow t l (getE l x.d x.s) l = l := by unfold chRow; split <;> rfl
  have HD := Aside0.mk (show ∀ e w', (∃ A' c', e = .returned (.tuple #[.slice A' l.length c', .agg #[.int .u8 (askVal t l (getE l x.d x.s) (vl (fr l x.d).l x.s)).k, .int .u64 (askVal t l (getE l x.d x.s) (vl (fr l x.d).l x.s)).b, .int .i64 (askVal t l (getE l x.d x.s) (vl (fr l x.d).l x.s)).d, .int .i64 (askVal t l (getE l x.d x.s) (vl (fr l x.d).l x.s)).s], .int .i64 (chErr t l (getE l x.d x.s))]) ∧ kFr.C w' A' l.length l ∧ l.length ≤ c' ∧ Below w.heap.size w w') → DoesPost t l x w e w' from fun e w' hh => by unfold DoesPost; rw [hE, hR, hV, hL]; exact hh)
  generalize askVal t l (getE l x.d x.s) (vl (fr l x.d).l x.s) = V at *
  generalize chErr t l (getE l x.d x.s) = X at *
  clear hL
  generalize DoesPost t l x w = Post at *
  have HK := Aside0.mk hk
  have c0 : (((w.alloc (.cells #[.int .i64 x.kind, .int .i64 x.f, .int .i64 x.d, .int .i64 x.s, .int .u8 x.v.k, .int .u64 x.v.b, .int .i64 x.v.d, .int .i64 x.v.s, .int .u64 x.bits, .int .u8 x.op, .slice x.A x.ns.length x.c] 29)).alloc (.cells #[.int .u8 0, .int .u64 0, .int .i64 0, .int .i64 0] 26)).alloc (.cells #[.int .u8 0, .int .u64 0, .int .i64 0, .int .i64 0] 26)).cell? ⟨w.heap.size, 0, none⟩ = some (.int .i64 x.kind) := (blk_cell HS.out.act 0).trans rfl
  have c1 : (((w.alloc (.cells #[.int .i64 x.kind, .int .i64 x.f, .int .i64 x.d, .int .i64 x.s, .int .u8 x.v.k, .int .u64 x.v.b, .int .i64 x.v.d, .int .i64 x.v.s, .int .u64 x.bits, .int .u8 x.op, .slice x.A x.ns.length x.c] 29)).alloc (.cells #[.int .u8 0, .int .u64 0, .int .i64 0, .int .i64 0] 26)).alloc (.cells #[.int .u8 0, .int .u64 0, .int .i64 0, .int .i64 0] 26)).cell? ⟨w.heap.size, 1, none⟩ = some (.int .i64 x.f) := (blk_cell HS.out.act 1).trans rfl
  have c2 : (((w.alloc (.cells #[.int .i64 x.kind, .int .i64 x.f, .int .i64 x.d, .int .i64 x.s, .int .u8 x.v.k, .int .u64 x.v.b, .int .i64 x.v.d, .int .i64 x.v.s, .int .u64 x.bits, .int .u8 x.op, .slice x.A x.ns.length x.c] 29)).alloc (.cells #[.int .u8 0, .int .u64 0, .int .i64 0, .int .i64 0] 26)).alloc (.cells #[.int .u8 0, .int .u64 0, .int .i64 0, .int .i64 0] 26)).cell? ⟨w.heap.size, 2, none⟩ = some (.int .i64 x.d) := (blk_cell HS.out.act 2).trans rfl
  have c3 : (((w.alloc (.cells #[.int .i64 x.kind, .int .i64 x.f, .int .i64 x.d, .int .i64 x.s, .int .u8 x.v.k, .int .u64 x.v.b, .int .i64 x.v.d, .int .i64 x.v.s, .int .u64 x.bits, .int .u8 x.op, .slice x.A x.ns.length x.c] 29)).alloc (.cells #[.int .u8 0, .int .u64 0, .int .i64 0, .int .i64 0] 26)).alloc (.cells #[.int .u8 0, .int .u64 0, .int .i64 0, .int .i64 0] 26)).cell? ⟨w.heap.size, 3, none⟩ = some (.int .i64 x.s) := (blk_cell HS.out.act 3).trans rfl
  have c4 : (((w.alloc (.cells #[.int .i64 x.kind, .int .i64 x.f, .int .i64 x.d, .int .i64 x.s, .int .u8 x.v.k, .int .u64 x.v.b, .int .i64 x.v.d, .int .i64 x.v.s, .int .u64 x.bits, .int .u8 x.op, .slice x.A x.ns.length x.c] 29)).alloc (.cells #[.int .u8 0, .int .u64 0, .int .i64 0, .int .i64 0] 26)).alloc (.cells #[.int .u8 0, .int .u64 0, .int .i64 0, .int .i64 0] 26)).cell? ⟨w.heap.size, 4, none⟩ = some (.int .u8 x.v.k) := (blk_cell HS.out.act 4).trans rfl
  have c5 : (((w.alloc (.cells #[.int .i64 x.kind, .int .i64 x.f, .int .i64 x.d, .int .i64 x.s, .int .u8 x.v.k, .int .u64 x.v.b, .int .i64 x.v.d, .int .i64 x.v.s, .int .u64 x.bits, .int .u8 x.op, .slice x.A x.ns.length x.c] 29)).alloc (.cells #[.int .u8 0, .int .u64 0, .int .i64 0, .int .i64 0] 26)).alloc (.cells #[.int .u8 0, .int .u64 0, .int .i64 0, .int .i64 0] 26)).cell? ⟨w.heap.size, 5, none⟩ = some (.int .u64 x.v.b) := (blk_cell HS.out.act 5).trans rfl
  have c6 : (((w.alloc (.cells #[.int .i64 x.kind, .int .i64 x.f, .int .i64 x.d, .int .i64 x.s, .int .u8 x.v.k, .int .u64 x.v.b, .int .i64 x.v.d, .int .i64 x.v.s, .int .u64 x.bits, .int .u8 x.op, .slice x.A x.ns.length x.c] 29)).alloc (.cells #[.int .u8 0, .int .u64 0, .int .i64 0, .int .i64 0] 26)).alloc (.cells #[.int .u8 0, .int .u64 0, .int .i64 0, .int .i64 0] 26)).cell? ⟨w.heap.size, 6, none⟩ = some (.int .i64 x.v.d) := (blk_cell HS.out.act 6).trans rfl
  have c7 : (((w.alloc (.cells #[.int .i64 x.kind, .int .i64 x.f, .int .i64 x.d, .int .i64 x.s, .int .u8 x.v.k, .int .u64 x.v.b, .int .i64 x.v.d, .int .i64 x.v.s, .int .u64 x.bits, .int .u8 x.op, .slice x.A x.ns.length x.c] 29)).alloc (.cells #[.int .u8 0, .int .u64 0, .int .i64 0, .int .i64 0] 26)).alloc (.cells #[.int .u8 0, .int .u64 0, .int .i64 0, .int .i64 0] 26)).cell? ⟨w.heap.size, 7, none⟩ = some (.int .i64 x.v.s) := (blk_cell HS.out.act 7).trans rfl
  have c8 : (((w.alloc (.cells #[.int .i64 x.kind, .int .i64 x.f, .int .i64 x.d, .int .i64 x.s, .int .u8 x.v.k, .int .u64 x.v.b, .int .i64 x.v.d, .int .i64 x.v.s, .int .u64 x.bits, .int .u8 x.op, .slice x.A x.ns.length x.c] 29)).alloc (.cells #[.int .u8 0, .int .u64 0, .int .i64 0, .int .i64 0] 26)).alloc (.cells #[.int .u8 0, .int .u64 0, .int .i64 0, .int .i64 0] 26)).cell? ⟨w.heap.size, 8, none⟩ = some (.int .u64 x.bits) := (blk_cell HS.out.act 8).trans rfl
  have c9 : (((w.alloc (.cells #[.int .i64 x.kind, .int .i64 x.f, .int .i64 x.d, .int .i64 x.s, .int .u8 x.v.k, .int .u64 x.v.b, .int .i64 x.v.d, .int .i64 x.v.s, .int .u64 x.bits, .int .u8 x.op, .slice x.A x.ns.length x.c] 29)).alloc (.cells #[.int .u8 0, .int .u64 0, .int .i64 0, .int .i64 0] 26)).alloc (.cells #[.int .u8 0, .int .u64 0, .int .i64 0, .int .i64 0] 26)).cell? ⟨w.heap.size, 9, none⟩ = some (.int .u8 x.op) := (blk_cell HS.out.act 9).trans rfl
  have c10 : (((w.alloc (.cells #[.int .i64 x.kind, .int .i64 x.f, .int .i64 x.d, .int .i64 x.s, .int .u8 x.v.k, .int .u64 x.v.b, .int .i64 x.v.d, .int .i64 x.v.s, .int .u64 x.bits, .int .u8 x.op, .slice x.A x.ns.length x.c] 29)).alloc (.cells #[.int .u8 0, .int .u64 0, .int .i64 0, .int .i64 0] 26)).alloc (.cells #[.int .u8 0, .int .u64 0, .int .i64 0, .int .i64 0] 26)).cell? ⟨w.heap.size, 10, none⟩ = some (.slice x.A x.ns.length x.c) := (blk_cell HS.out.act 10).trans rfl
  have k0 : (x.kind == 0) = false := by rw [hk]; rfl
  have k1 : (x.kind == 1) = false := by rw [hk]; rfl
  have k2 : (x.kind == 2) = false := by rw [hk]; rfl
  have k3 : (x.kind == 3) = true := by rw [hk]; rfl
  clear h hs hz hx hk hE hR hV
  go_enter Tryd.func14, Tryd.ntmps14
  go_wp2_with (go_at_call 45; refine (HC.out _ HS.out.below).mono ?_; rintro e w4 ⟨rfl, g3⟩; have H4 := Aside0.mk (HS.out.step g3); clear g3; have z0 := (blk_cell H4.out.val 0).trans rfl; have z1 := (blk_cell H4.out.val 1).trans rfl; have z2 := (blk_cell H4.out.val 2).trans rfl; have z3 := (blk_cell H4.out.val 3).trans rfl; have y0 := blk_frozen H4.out.val 0; have y1 := blk_frozen H4.out.val 1; have y2 := blk_frozen H4.out.val 2; have y3 := blk_frozen H4.out.val 3)
  have H5 := Aside0.mk (DoW.put V H4.out)
  generalize (((w4.setCell ⟨w.heap.size + 1 + 1, 0, none⟩ (.int .u8 V.k)).setCell ⟨w.heap.size + 1 + 1, 1, none⟩ (.int .u64 V.b)).setCell ⟨w.heap.size + 1 + 1, 2, none⟩ (.int .i64 V.d)).setCell ⟨w.heap.size + 1 + 1, 3, none⟩ (.int .i64 V.s) = w5 at *
  clear z0 z1 z2 z3 y0 y1 y2 y3
  clear c0 c1 c2 c3 c4 c5 c6 c7 c8 c9 c10
  have u0 : w5.cell? ⟨w.heap.size + 1 + 1, 0, none⟩ = some (.int .u8 V.k) := (blk_cell H5.out.val 0).trans rfl
  have u1 : w5.cell? ⟨w.heap.size + 1 + 1, 1, none⟩ = some (.int .u64 V.b) := (blk_cell H5.out.val 1).trans rfl
  have u2 : w5.cell? ⟨w.heap.size + 1 + 1, 2, none⟩ = some (.int .i64 V.d) := (blk_cell H5.out.val 2).trans rfl
  have u3 : w5.cell? ⟨w.heap.size + 1 + 1, 3, none⟩ = some (.int .i64 V.s) := (blk_cell H5.out.val 3).trans rfl
  have z0 : w5.cell? ⟨w.heap.size + 1, 0, none⟩ = some (.int .u8 0) := (blk_cell H5.out.out 0).trans rfl
  have z1 : w5.cell? ⟨w.heap.size + 1, 1, none⟩ = some (.int .u64 0) := (blk_cell H5.out.out 1).trans rfl
  have z2 : w5.cell? ⟨w.heap.size + 1, 2, none⟩ = some (.int .i64 0) := (blk_cell H5.out.out 2).trans rfl
  have z3 : w5.cell? ⟨w.heap.size + 1, 3, none⟩ = some (.int .i64 0) := (blk_cell H5.out.out 3).trans rfl
  have y0 := blk_frozen H5.out.out 0
  have y1 := blk_frozen H5.out.out 1
  have y2 := blk_frozen H5.out.out 2
  have y3 := blk_frozen H5.out.out 3
  refine start_ (n := 6) (S := fun w' => w'.cell? ⟨w.heap.size + 1 + 1, 0, none⟩ = some (.int .u8 V.k) ∧ w'.cell? ⟨w.heap.size + 1 + 1, 1, none⟩ = some (.int .u64 V.b) ∧ w'.cell? ⟨w.heap.size + 1 + 1, 2, none⟩ = some (.int .i64 V.d) ∧ w'.cell? ⟨w.heap.size + 1 + 1, 3, none⟩ = some (.int .i64 V.s)) (ds := [4]) #[false, false, false, false, false, false] (by kernel_rfl) rfl rfl ⟨u0, u1, u2, u3⟩ (fun hHeld => ?_)
  refine pure_ (i := 0) (N := some 96) (v := ?_) (a' := ?_) #[true, false, false, false, false, false] rfl rfl (by kernel_rfl) (fun _ _ _ h => h) (Or.inl ⟨by rfl, ?_⟩) ?_ ?_
  rotate_left
  · intro w'
    go_simp
    with_reducible rfl
  rotate_left
  · simp only [Act.put, List.setIfInBounds_toArray, List.set_cons_zero, List.set_cons_succ, i64_w, i32_w]
    rfl
  refine pure_ (i := 2) (N := some 98) (v := ?_) (a' := ?_) #[true, false, true, false, false, false] rfl rfl (by kernel_rfl) (fun _ _ _ h => h) (Or.inl ⟨by rfl, ?_⟩) ?_ ?_
  rotate_left
  · intro w'
    go_simp
    with_reducible rfl
  rotate_left
  · simp only [Act.put, List.setIfInBounds_toArray, List.set_cons_zero, List.set_cons_succ, i64_w, i32_w]
    rfl
  refine pure_ (i := 3) (N := some 6) (v := ?_) (a' := ?_) #[true, false, true, true, false, false] rfl rfl (by kernel_rfl) (fun _ _ _ h => h) (Or.inl ⟨by rfl, ?_⟩) ?_ ?_
  rotate_left
  · intro w'
    go_simp
    with_reducible rfl
  rotate_left
  · simp only [Act.put, List.setIfInBounds_toArray, List.set_cons_zero, List.set_cons_succ, i64_w, i32_w]
    rfl
  refine take_ (i := 1) (N := some 97) (v := ?_) (a' := ?_) #[true, true, true, true, false, false] rfl rfl (by kernel_rfl) (fun _ _ _ h => h) (Or.inl ⟨by rfl, ?_⟩) hHeld ?_ ?_
  rotate_left
  · rintro w' ⟨s0, s1, s2, s3⟩
    go_simp
    with_reducible rfl
  rotate_left
  · simp only [Act.put, List.setIfInBounds_toArray, List.set_cons_zero, List.set_cons_succ, i64_w, i32_w]
    rfl
  refine last_ (i := 4) (N := none) #[true, true, true, true, true, false] rfl rfl (by kernel_rfl) (by decide) (fun K hK => ?_)
  refine skip_ (w1 := ?_) (by rfl) rfl ?_ ?_
  rotate_left
  · go_simp
    rfl
  refine hK.out _ _ ?_
  clear hK K
  refine pure_ (i := 5) (N := some 8) (v := ?_) (a' := ?_) #[true, true, true, true, true, true] rfl rfl (by kernel_rfl) (fun _ _ _ h => h) (Or.inl ⟨by rfl, ?_⟩) ?_ ?_
  rotate_left
  · intro w'
    go_simp
    with_reducible rfl
  rotate_left
  · simp only [Act.put, List.setIfInBounds_toArray, List.set_cons_zero, List.set_cons_succ, i64_w, i32_w]
    rfl
  refine done_ (by kernel_rfl) ?_
  clear hHeld
  go_wp2
  have hfin := blk_set4 (.int .u8 V.k) (.int .u64 V.b) (.int .i64 V.d) (.int .i64 V.s) H5.out.out
  refine ⟨rfl, _, results_tct Tryd.results14 _ _ (w.heap.size + 1) 26 _ (0, 0) _ rfl hfin Tryd.underlying26 rfl (by kernel_rfl), ?_⟩
  have hbf := below_set4 (.int .u8 V.k) (.int .u64 V.b) (.int .i64 V.d) (.int .i64 V.s) H5.out.below (show w.heap.size ≤ w.heap.size + 1 from Nat.le_succ _)
  exact HD.out _ _ ⟨A, c, rfl, HRw.out _ (below_drew hbf), HCp.out, below_drew hbf⟩
set_option maxRecDepth 100000 in
set_option maxHeartbeats 2000000 in
theorem does_load (a : Nat) (t : List Ent) (A : Option Addr) (c : Nat) (l : List Fr) (x : Ac) (w : World) (h : IsRow w a t A c l) (hs : SmallR l) (hz : tSize t x.f ≤ 1000000) (hx : AcOk w x) (hk : x.kind = 4) :
    Calls Tryd.prog 14 #[.pointer (some ⟨a, 0, none⟩), .slice A l.length c, .agg #[.int .i64 x.kind, .int .i64 x.f, .int .i64 x.d, .int .i64 x.s, .int .u8 x.v.k, .int .u64 x.v.b, .int .i64 x.v.d, .int .i64 x.v.s, .int .u64 x.bits, .int .u8 x.op, .slice x.A x.ns.length x.c]] w (DoesPost t l x w) := by
  have HS := Aside0.mk (DoW.start w x)
  have HC := Aside0.mk (fun (W : World) (hB : Below w.heap.size w W) => (Load_calls a t A c l x.d x.s W (h.below hB) hx.s))
  have HRw := Aside0.mk (fun (W : World) (hB : Below w.heap.size w W) => (h.below hB).rows)
  have HCp := Aside0.mk h.cap
  have hE : actE t l x = refE t l x.d x.s := by unfold actE; rw [hk]; rfl
  have hR : actRow t l x = l := by unfold actRow; rw [hk]; rfl
  have hV : actVal t l x = askVal t l (refE t l x.d x.s) (loadV l x.d x.s) := by unfold actVal; rw [hk]; rfl
  have hL : chRow t l (refE t l x.d x.s) l = l := by unfold chRow; split <;> rfl
  have HD := Aside0.mk (show ∀ e w', (∃ A' c', e = .returned (.tuple #[.slice A' l.length c', .agg #[.int .u8 (askVal t l (refE t l x.d x.s) (loadV l x.d x.s)).k, .int .u64 (askVal t l (refE t l x.d x.s) (loadV l x.d x.s)).b, .int .i64 (askVal t l (refE t l x.d x.s) (loadV l x.d x.s)).d, .int .i64 (askVal t l (refE t l x.d x.s) (loadV l x.d x.s)).s], .int .i64 (chErr t l (refE t l x.d x.s))]) ∧ kFr.C w' A' l.length l ∧ l.length ≤ c' ∧ Below w.heap.size w w') → DoesPost t l x w e w' from fun e w' hh => by unfold DoesPost; rw [hE, hR, hV, hL]; exact hh)
  generalize askVal t l (refE t l x.d x.s) (loadV l x.d x.s) = V at *
  generalize chErr t l (refE t l x.d x.s) = X at *
  clear hL
  generalize DoesPost t l x w = Post at *
  have HK := Aside0.mk hk
  have c0 : (((w.alloc (.cells #[.int .i64 x.kind, .int .i64 x.f, .int .i64 x.d, .int .i64 x.s, .int .u8 x.v.k, .int .u64 x.v.b, .int .i64 x.v.d, .int .i64 x.v.s, .int .u64 x.bits, .int .u8 x.op, .slice x.A x.ns.length x.c] 29)).alloc (.cells #[.int .u8 0, .int .u64 0, .int .i64 0, .int .i64 0] 26)).alloc (.cells #[.int .u8 0, .int .u64 0, .int .i64 0, .int .i64 0] 26)).cell? ⟨w.heap.size, 0, none⟩ = some (.int .i64 x.kind) := (blk_cell HS.out.act 0).trans rfl
  have c1 : (((w.alloc (.cells #[.int .i64 x.kind, .int .i64 x.f, .int .i64 x.d, .int .i64 x.s, .int .u8 x.v.k, .int .u64 x.v.b, .int .i64 x.v.d, .int .i64 x.v.s, .int .u64 x.bits, .int .u8 x.op, .slice x.A x.ns.length x.c] 29)).alloc (.cells #[.int .u8 0, .int .u64 0, .int .i64 0, .int .i64 0] 26)).alloc (.cells #[.int .u8 0, .int .u64 0, .int .i64 0, .int .i64 0] 26)).cell? ⟨w.heap.size, 1, none⟩ = some (.int .i64 x.f) := (blk_cell HS.out.act 1).trans rfl
  have c2 : (((w.alloc (.cells #[.int .i64 x.kind, .int .i64 x.f, .int .i64 x.d, .int .i64 x.s, .int .u8 x.v.k, .int .u64 x.v.b, .int .i64 x.v.d, .int .i64 x.v.s, .int .u64 x.bits, .int .u8 x.op, .slice x.A x.ns.length x.c] 29)).alloc (.cells #[.int .u8 0, .int .u64 0, .int .i64 0, .int .i64 0] 26)).alloc (.cells #[.int .u8 0, .int .u64 0, .int .i64 0, .int .i64 0] 26)).cell? ⟨w.heap.size, 2, none⟩ = some (.int .i64 x.d) := (blk_cell HS.out.act 2).trans rfl
  have c3 : (((w.alloc (.cells #[.int .i64 x.kind, .int .i64 x.f, .int .i64 x.d, .int .i64 x.s, .int .u8 x.v.k, .int .u64 x.v.b, .int .i64 x.v.d, .int .i64 x.v.s, .int .u64 x.bits, .int .u8 x.op, .slice x.A x.ns.length x.c] 29)).alloc (.cells #[.int .u8 0, .int .u64 0, .int .i64 0, .int .i64 0] 26)).alloc (.cells #[.int .u8 0, .int .u64 0, .int .i64 0, .int .i64 0] 26)).cell? ⟨w.heap.size, 3, none⟩ = some (.int .i64 x.s) := (blk_cell HS.out.act 3).trans rfl
  have c4 : (((w.alloc (.cells #[.int .i64 x.kind, .int .i64 x.f, .int .i64 x.d, .int .i64 x.s, .int .u8 x.v.k, .int .u64 x.v.b, .int .i64 x.v.d, .int .i64 x.v.s, .int .u64 x.bits, .int .u8 x.op, .slice x.A x.ns.length x.c] 29)).alloc (.cells #[.int .u8 0, .int .u64 0, .int .i64 0, .int .i64 0] 26)).alloc (.cells #[.int .u8 0, .int .u64 0, .int .i64 0, .int .i64 0] 26)).cell? ⟨w.heap.size, 4, none⟩ = some (.int .u8 x.v.k) := (blk_cell HS.out.act 4).trans rfl
  have c5 : (((w.alloc (.cells #[.int .i64 x.kind, .int .i64 x.f, .int .i64 x.d, .int .i64 x.s, .int .u8 x.v.k, .int .u64 x.v.b, .int .i64 x.v.d, .int .i64 x.v.s, .int .u64 x.bits, .int .u8 x.op, .slice x.A x.ns.length x.c] 29)).alloc (.cells #[.int .u8 0, .int .u64 0, .int .i64 0, .int .i64 0] 26)).alloc (.cells #[.int .u8 0, .int .u64 0, .int .i64 0, .int .i64 0] 26)).cell? ⟨w.heap.size, 5, none⟩ = some (.int .u64 x.v.b) := (blk_cell HS.out.act 5).trans rfl
  have c6 : (((w.alloc (.cells #[.int .i64 x.kind, .int .i64 x.f, .int .i64 x.d, .int .i64 x.s, .int .u8 x.v.k, .int .u64 x.v.b, .int .i64 x.v.d, .int .i64 x.v.s, .int .u64 x.bits, .int .u8 x.op, .slice x.A x.ns.length x.c] 29)).alloc (.cells #[.int .u8 0, .int .u64 0, .int .i64 0, .int .i64 0] 26)).alloc (.cells #[.int .u8 0, .int .u64 0, .int .i64 0, .int .i64 0] 26)).cell? ⟨w.heap.size, 6, none⟩ = some (.int .i64 x.v.d) := (blk_cell HS.out.act 6).trans rfl
  have c7 : (((w.alloc (.cells #[.int .i64 x.kind, .int .i64 x.f, .int .i64 x.d, .int .i64 x.s, .int .u8 x.v.k, .int .u64 x.v.b, .int .i64 x.v.d, .int .i64 x.v.s, .int .u64 x.bits, .int .u8 x.op, .slice x.A x.ns.length x.c] 29)).alloc (.cells #[.int .u8 0, .int .u64 0, .int .i64 0, .int .i64 0] 26)).alloc (.cells #[.int .u8 0, .int .u64 0, .int .i64 0, .int .i64 0] 26)).cell? ⟨w.heap.size, 7, none⟩ = some (.int .i64 x.v.s) := (blk_cell HS.out.act 7).trans rfl
  have c8 : (((w.alloc (.cells #[.int .i64 x.kind, .int .i64 x.f, .int .i64 x.d, .int .i64 x.s, .int .u8 x.v.k, .int .u64 x.v.b, .int .i64 x.v.d, .int .i64 x.v.s, .int .u64 x.bits, .int .u8 x.op, .slice x.A x.ns.length x.c] 29)).alloc (.cells #[.int .u8 0, .int .u64 0, .int .i64 0, .int .i64 0] 26)).alloc (.cells #[.int .u8 0, .int .u64 0, .int .i64 0, .int .i64 0] 26)).cell? ⟨w.heap.size, 8, none⟩ = some (.int .u64 x.bits) := (blk_cell HS.out.act 8).trans rfl
  have c9 : (((w.alloc (.cells #[.int .i64 x.kind, .int .i64 x.f, .int .i64 x.d, .int .i64 x.s, .int .u8 x.v.k, .int .u64 x.v.b, .int .i64 x.v.d, .int .i64 x.v.s, .int .u64 x.bits, .int .u8 x.op, .slice x.A x.ns.length x.c] 29)).alloc (.cells #[.int .u8 0, .int .u64 0, .int .i64 0, .int .i64 0] 26)).alloc (.cells #[.int .u8 0, .int .u64 0, .int .i64 0, .int .i64 0] 26)).cell? ⟨w.heap.size, 9, none⟩ = some (.int .u8 x.op) := (blk_cell HS.out.act 9).trans rfl
  have c10 : (((w.alloc (.cells #[.int .i64 x.kind, .int .i64 x.f, .int .i64 x.d, .int .i64 x.s, .int .u8 x.v.k, .int .u64 x.v.b, .int .i64 x.v.d, .int .i64 x.v.s, .int .u64 x.bits, .int .u8 x.op, .slice x.A x.ns.length x.c] 29)).alloc (.cells #[.int .u8 0, .int .u64 0, .int .i64 0, .int .i64 0] 26)).alloc (.cells #[.int .u8 0, .int .u64 0, .int .i64 0, .int .i64 0] 26)).cell? ⟨w.heap.size, 10, none⟩ = some (.slice x.A x.ns.length x.c) := (blk_cell HS.out.act 10).trans rfl
  have k0 : (x.kind == 0) = false := by rw [hk]; rfl
  have k1 : (x.kind == 1) = false := by rw [hk]; rfl
  have k2 : (x.kind == 2) = false := by rw [hk]; rfl
  have k3 : (x.kind == 3) = false := by rw [hk]; rfl
  have k4 : (x.kind == 4) = true := by rw [hk]; rfl
  clear h hs hz hx hk hE hR hV
  go_enter Tryd.func14, Tryd.ntmps14
  go_wp2_with (go_at_call 46; refine (HC.out _ HS.out.below).mono ?_; rintro e w4 ⟨rfl, g3⟩; have H4 := Aside0.mk (HS.out.step g3); clear g3; have z0 := (blk_cell H4.out.val 0).trans rfl; have z1 := (blk_cell H4.out.val 1).trans rfl; have z2 := (blk_cell H4.out.val 2).trans rfl; have z3 := (blk_cell H4.out.val 3).trans rfl; have y0 := blk_frozen H4.out.val 0; have y1 := blk_frozen H4.out.val 1; have y2 := blk_frozen H4.out.val 2; have y3 := blk_frozen H4.out.val 3)
  have H5 := Aside0.mk (DoW.put V H4.out)
  generalize (((w4.setCell ⟨w.heap.size + 1 + 1, 0, none⟩ (.int .u8 V.k)).setCell ⟨w.heap.size + 1 + 1, 1, none⟩ (.int .u64 V.b)).setCell ⟨w.heap.size + 1 + 1, 2, none⟩ (.int .i64 V.d)).setCell ⟨w.heap.size + 1 + 1, 3, none⟩ (.int .i64 V.s) = w5 at *
  clear z0 z1 z2 z3 y0 y1 y2 y3
  clear c0 c1 c2 c3 c4 c5 c6 c7 c8 c9 c10
  have u0 : w5.cell? ⟨w.heap.size + 1 + 1, 0, none⟩ = some (.int .u8 V.k) := (blk_cell H5.out.val 0).trans rfl
  have u1 : w5.cell? ⟨w.heap.size + 1 + 1, 1, none⟩ = some (.int .u64 V.b) := (blk_cell H5.out.val 1).trans rfl
  have u2 : w5.cell? ⟨w.heap.size + 1 + 1, 2, none⟩ = some (.int .i64 V.d) := (blk_cell H5.out.val 2).trans rfl
  have u3 : w5.cell? ⟨w.heap.size + 1 + 1, 3, none⟩ = some (.int .i64 V.s) := (blk_cell H5.out.val 3).trans rfl
  have z0 : w5.cell? ⟨w.heap.size + 1, 0, none⟩ = some (.int .u8 0) := (blk_cell H5.out.out 0).trans rfl
  have z1 : w5.cell? ⟨w.heap.size + 1, 1, none⟩ = some (.int .u64 0) := (blk_cell H5.out.out 1).trans rfl
  have z2 : w5.cell? ⟨w.heap.size + 1, 2, none⟩ = some (.int .i64 0) := (blk_cell H5.out.out 2).trans rfl
  have z3 : w5.cell? ⟨w.heap.size + 1, 3, none⟩ = some (.int .i64 0) := (blk_cell H5.out.out 3).trans rfl
  have y0 := blk_frozen H5.out.out 0
  have y1 := blk_frozen H5.out.out 1
  have y2 := blk_frozen H5.out.out 2
  have y3 := blk_frozen H5.out.out 3
  refine start_ (n := 6) (S := fun w' => w'.cell? ⟨w.heap.size + 1 + 1, 0, none⟩ = some (.int .u8 V.k) ∧ w'.cell? ⟨w.heap.size + 1 + 1, 1, none⟩ = some (.int .u64 V.b) ∧ w'.cell? ⟨w.heap.size + 1 + 1, 2, none⟩ = some (.int .i64 V.d) ∧ w'.cell? ⟨w.heap.size + 1 + 1, 3, none⟩ = some (.int .i64 V.s)) (ds := [4]) #[false, false, false, false, false, false] (by kernel_rfl) rfl rfl ⟨u0, u1, u2, u3⟩ (fun hHeld => ?_)
  refine pure_ (i := 0) (N := some 96) (v := ?_) (a' := ?_) #[true, false, false, false, false, false] rfl rfl (by kernel_rfl) (fun _ _ _ h => h) (Or.inl ⟨by rfl, ?_⟩) ?_ ?_
  rotate_left
  · intro w'
    go_simp
    with_reducible rfl
  rotate_left
  · simp only [Act.put, List.setIfInBounds_toArray, List.set_cons_zero, List.set_cons_succ, i64_w, i32_w]
    rfl
  refine pure_ (i := 2) (N := some 98) (v := ?_) (a' := ?_) #[true, false, true, false, false, false] rfl rfl (by kernel_rfl) (fun _ _ _ h => h) (Or.inl ⟨by rfl, ?_⟩) ?_ ?_
  rotate_left
  · intro w'
    go_simp
    with_reducible rfl
  rotate_left
  · simp only [Act.put, List.setIfInBounds_toArray, List.set_cons_zero, List.set_cons_succ, i64_w, i32_w]
    rfl
  refine pure_ (i := 3) (N := some 6) (v := ?_) (a' := ?_) #[true, false, true, true, false, false] rfl rfl (by kernel_rfl) (fun _ _ _ h => h) (Or.inl ⟨by rfl, ?_⟩) ?_ ?_
  rotate_left
  · intro w'
    go_simp
    with_reducible rfl
  rotate_left
  · simp only [Act.put, List.setIfInBounds_toArray, List.set_cons_zero, List.set_cons_succ, i64_w, i32_w]
    rfl
  refine take_ (i := 1) (N := some 97) (v := ?_) (a' := ?_) #[true, true, true, true, false, false] rfl rfl (by kernel_rfl) (fun _ _ _ h => h) (Or.inl ⟨by rfl, ?_⟩) hHeld ?_ ?_
  rotate_left
  · rintro w' ⟨s0, s1, s2, s3⟩
    go_simp
    with_reducible rfl
  rotate_left
  · simp only [Act.put, List.setIfInBounds_toArray, List.set_cons_zero, List.set_cons_succ, i64_w, i32_w]
    rfl
  refine last_ (i := 4) (N := none) #[true, true, true, true, true, false] rfl rfl (by kernel_rfl) (by decide) (fun K hK => ?_)
  refine skip_ (w1 := ?_) (by rfl) rfl ?_ ?_
  rotate_left
  · go_simp
    rfl
  refine hK.out _ _ ?_
  clear hK K
  refine pure_ (i := 5) (N := some 8) (v := ?_) (a' := ?_) #[true, true, true, true, true, true] rfl rfl (by kernel_rfl) (fun _ _ _ h => h) (Or.inl ⟨by rfl, ?_⟩) ?_ ?_
  rotate_left
  · intro w'
    go_simp
    with_reducible rfl
  rotate_left
  · simp only [Act.put, List.setIfInBounds_toArray, List.set_cons_zero, List.set_cons_succ, i64_w, i32_w]
    rfl
  refine done_ (by kernel_rfl) ?_
  clear hHeld
  go_wp2
  have hfin := blk_set4 (.int .u8 V.k) (.int .u64 V.b) (.int .i64 V.d) (.int .i64 V.s) H5.out.out
  refine ⟨rfl, _, results_tct Tryd.results14 _ _ (w.heap.size + 1) 26 _ (0, 0) _ rfl hfin Tryd.underlying26 rfl (by kernel_rfl), ?_⟩
  have hbf := below_set4 (.int .u8 V.k) (.int .u64 V.b) (.int .i64 V.d) (.int .i64 V.s) H5.out.below (show w.heap.size ≤ w.heap.size + 1 from Nat.le_succ _)
  exact HD.out _ _ ⟨A, c, rfl, HRw.out _ (below_drew hbf), HCp.out, below_drew hbf⟩
set_option maxRecDepth 100000 in
set_option maxHeartbeats 2000000 in
theorem does_write (a : Nat) (t : List Ent) (A : Option Addr) (c : Nat) (l : List Fr) (x : Ac) (w : World) (h : IsRow w a t A c l) (hs : SmallR l) (hz : tSize t x.f ≤ 1000000) (hx : AcOk w x) (hk : x.kind = 5) :
    Calls Tryd.prog 14 #[.pointer (some ⟨a, 0, none⟩), .slice A l.length c, .agg #[.int .i64 x.kind, .int .i64 x.f, .int .i64 x.d, .int .i64 x.s, .int .u8 x.v.k, .int .u64 x.v.b, .int .i64 x.v.d, .int .i64 x.v.s, .int .u64 x.bits, .int .u8 x.op, .slice x.A x.ns.length x.c]] w (DoesPost t l x w) := by
  have HS := Aside0.mk (DoW.start w x)
  have HC := Aside0.mk (fun (W : World) (hB : Below w.heap.size w W) => (Write_calls a t A c l x.d x.s x.bits W (h.below hB) hs hx.s : Calls _ _ _ W (ChPost W (chRow t l (writeE t l x.d x.s) (writeRow l x.d x.s x.bits)) (chErr t l (writeE t l x.d x.s)))))
  have hE : actE t l x = writeE t l x.d x.s := by unfold actE; rw [hk]; rfl
  have hR : actRow t l x = writeRow l x.d x.s x.bits := by unfold actRow; rw [hk]; rfl
  have hV : actVal t l x = zVl := by unfold actVal; rw [hk]; rfl
  have HD := Aside0.mk (show ∀ e w', (∃ A' c', e = .returned (.tuple #[.slice A' (chRow t l (writeE t l x.d x.s) (writeRow l x.d x.s x.bits)).length c', .agg #[.int .u8 0, .int .u64 0, .int .i64 0, .int .i64 0], .int .i64 (chErr t l (writeE t l x.d x.s))]) ∧ kFr.C w' A' (chRow t l (writeE t l x.d x.s) (writeRow l x.d x.s x.bits)).length (chRow t l (writeE t l x.d x.s) (writeRow l x.d x.s x.bits)) ∧ (chRow t l (writeE t l x.d x.s) (writeRow l x.d x.s x.bits)).length ≤ c' ∧ Below w.heap.size w w') → DoesPost t l x w e w' from fun e w' hh => by unfold DoesPost; rw [hE, hR, hV]; exact hh)
  generalize chRow t l (writeE t l x.d x.s) (writeRow l x.d x.s x.bits) = L at *
  generalize chErr t l (writeE t l x.d x.s) = X at *
  generalize DoesPost t l x w = Post at *
  have HK := Aside0.mk hk
  have c0 : (((w.alloc (.cells #[.int .i64 x.kind, .int .i64 x.f, .int .i64 x.d, .int .i64 x.s, .int .u8 x.v.k, .int .u64 x.v.b, .int .i64 x.v.d, .int .i64 x.v.s, .int .u64 x.bits, .int .u8 x.op, .slice x.A x.ns.length x.c] 29)).alloc (.cells #[.int .u8 0, .int .u64 0, .int .i64 0, .int .i64 0] 26)).alloc (.cells #[.int .u8 0, .int .u64 0, .int .i64 0, .int .i64 0] 26)).cell? ⟨w.heap.size, 0, none⟩ = some (.int .i64 x.kind) := (blk_cell HS.out.act 0).trans rfl
  have c1 : (((w.alloc (.cells #[.int .i64 x.kind, .int .i64 x.f, .int .i64 x.d, .int .i64 x.s, .int .u8 x.v.k, .int .u64 x.v.b, .int .i64 x.v.d, .int .i64 x.v.s, .int .u64 x.bits, .int .u8 x.op, .slice x.A x.ns.length x.c] 29)).alloc (.cells #[.int .u8 0, .int .u64 0, .int .i64 0, .int .i64 0] 26)).alloc (.cells #[.int .u8 0, .int .u64 0, .int .i64 0, .int .i64 0] 26)).cell? ⟨w.heap.size, 1, none⟩ = some (.int .i64 x.f) := (blk_cell HS.out.act 1).trans rfl
  have c2 : (((w.alloc (.cells #[.int .i64 x.kind, .int .i64 x.f, .int .i64 x.d, .int .i64 x.s, .int .u8 x.v.k, .int .u64 x.v.b, .int .i64 x.v.d, .int .i64 x.v.s, .int .u64 x.bits, .int .u8 x.op, .slice x.A x.ns.length x.c] 29)).alloc (.cells #[.int .u8 0, .int .u64 0, .int .i64 0, .int .i64 0] 26)).alloc (.cells #[.int .u8 0, .int .u64 0, .int .i64 0, .int .i64 0] 26)).cell? ⟨w.heap.size, 2, none⟩ = some (.int .i64 x.d) := (blk_cell HS.out.act 2).trans rfl
  have c3 : (((w.alloc (.cells #[.int .i64 x.kind, .int .i64 x.f, .int .i64 x.d, .int .i64 x.s, .int .u8 x.v.k, .int .u64 x.v.b, .int .i64 x.v.d, .int .i64 x.v.s, .int .u64 x.bits, .int .u8 x.op, .slice x.A x.ns.length x.c] 29)).alloc (.cells #[.int .u8 0, .int .u64 0, .int .i64 0, .int .i64 0] 26)).alloc (.cells #[.int .u8 0, .int .u64 0, .int .i64 0, .int .i64 0] 26)).cell? ⟨w.heap.size, 3, none⟩ = some (.int .i64 x.s) := (blk_cell HS.out.act 3).trans rfl
  have c4 : (((w.alloc (.cells #[.int .i64 x.kind, .int .i64 x.f, .int .i64 x.d, .int .i64 x.s, .int .u8 x.v.k, .int .u64 x.v.b, .int .i64 x.v.d, .int .i64 x.v.s, .int .u64 x.bits, .int .u8 x.op, .slice x.A x.ns.length x.c] 29)).alloc (.cells #[.int .u8 0, .int .u64 0, .int .i64 0, .int .i64 0] 26)).alloc (.cells #[.int .u8 0, .int .u64 0, .int .i64 0, .int .i64 0] 26)).cell? ⟨w.heap.size, 4, none⟩ = some (.int .u8 x.v.k) := (blk_cell HS.out.act 4).trans rfl
  have c5 : (((w.alloc (.cells #[.int .i64 x.kind, .int .i64 x.f, .int .i64 x.d, .int .i64 x.s, .int .u8 x.v.k, .int .u64 x.v.b, .int .i64 x.v.d, .int .i64 x.v.s, .int .u64 x.bits, .int .u8 x.op, .slice x.A x.ns.length x.c] 29)).alloc (.cells #[.int .u8 0, .int .u64 0, .int .i64 0, .int .i64 0] 26)).alloc (.cells #[.int .u8 0, .int .u64 0, .int .i64 0, .int .i64 0] 26)).cell? ⟨w.heap.size, 5, none⟩ = some (.int .u64 x.v.b) := (blk_cell HS.out.act 5).trans rfl
  have c6 : (((w.alloc (.cells #[.int .i64 x.kind, .int .i64 x.f, .int .i64 x.d, .int .i64 x.s, .int .u8 x.v.k, .int .u64 x.v.b, .int .i64 x.v.d, .int .i64 x.v.s, .int .u64 x.bits, .int .u8 x.op, .slice x.A x.ns.length x.c] 29)).alloc (.cells #[.int .u8 0, .int .u64 0, .int .i64 0, .int .i64 0] 26)).alloc (.cells #[.int .u8 0, .int .u64 0, .int .i64 0, .int .i64 0] 26)).cell? ⟨w.heap.size, 6, none⟩ = some (.int .i64 x.v.d) := (blk_cell HS.out.act 6).trans rfl
  have c7 : (((w.alloc (.cells #[.int .i64 x.kind, .int .i64 x.f, .int .i64 x.d, .int .i64 x.s, .int .u8 x.v.k, .int .u64 x.v.b, .int .i64 x.v.d, .int .i64 x.v.s, .int .u64 x.bits, .int .u8 x.op, .slice x.A x.ns.length x.c] 29)).alloc (.cells #[.int .u8 0, .int .u64 0, .int .i64 0, .int .i64 0] 26)).alloc (.cells #[.int .u8 0, .int .u64 0, .int .i64 0, .int .i64 0] 26)).cell? ⟨w.heap.size, 7, none⟩ = some (.int .i64 x.v.s) := (blk_cell HS.out.act 7).trans rfl
  have c8 : (((w.alloc (.cells #[.int .i64 x.kind, .int .i64 x.f, .int .i64 x.d, .int .i64 x.s, .int .u8 x.v.k, .int .u64 x.v.b, .int .i64 x.v.d, .int .i64 x.v.s, .int .u64 x.bits, .int .u8 x.op, .slice x.A x.ns.length x.c] 29)).alloc (.cells #[.int .u8 0, .int .u64 0, .int .i64 0, .int .i64 0] 26)).alloc (.cells #[.int .u8 0, .int .u64 0, .int .i64 0, .int .i64 0] 26)).cell? ⟨w.heap.size, 8, none⟩ = some (.int .u64 x.bits) := (blk_cell HS.out.act 8).trans rfl
  have c9 : (((w.alloc (.cells #[.int .i64 x.kind, .int .i64 x.f, .int .i64 x.d, .int .i64 x.s, .int .u8 x.v.k, .int .u64 x.v.b, .int .i64 x.v.d, .int .i64 x.v.s, .int .u64 x.bits, .int .u8 x.op, .slice x.A x.ns.length x.c] 29)).alloc (.cells #[.int .u8 0, .int .u64 0, .int .i64 0, .int .i64 0] 26)).alloc (.cells #[.int .u8 0, .int .u64 0, .int .i64 0, .int .i64 0] 26)).cell? ⟨w.heap.size, 9, none⟩ = some (.int .u8 x.op) := (blk_cell HS.out.act 9).trans rfl
  have c10 : (((w.alloc (.cells #[.int .i64 x.kind, .int .i64 x.f, .int .i64 x.d, .int .i64 x.s, .int .u8 x.v.k, .int .u64 x.v.b, .int .i64 x.v.d, .int .i64 x.v.s, .int .u64 x.bits, .int .u8 x.op, .slice x.A x.ns.length x.c] 29)).alloc (.cells #[.int .u8 0, .int .u64 0, .int .i64 0, .int .i64 0] 26)).alloc (.cells #[.int .u8 0, .int .u64 0, .int .i64 0, .int .i64 0] 26)).cell? ⟨w.heap.size, 10, none⟩ = some (.slice x.A x.ns.length x.c) := (blk_cell HS.out.act 10).trans rfl
  have k0 : (x.kind == 0) = false := by rw [hk]; rfl
  have k1 : (x.kind == 1) = false := by rw [hk]; rfl
  have k2 : (x.kind == 2) = false := by rw [hk]; rfl
  have k3 : (x.kind == 3) = false := by rw [hk]; rfl
  have k4 : (x.kind == 4) = false := by rw [hk]; rfl
  have k5 : (x.kind == 5) = true := by rw [hk]; rfl
  clear h hs hz hx hk hE hR hV
  go_enter Tryd.func14, Tryd.ntmps14
  go_wp2_with (go_at_call 47; refine (HC.out _ HS.out.below).mono ?_; rintro e w5 ⟨A', c', rfl, g1, g2, g3⟩; have H5 := Aside0.mk (HS.out.step g3); have G1 := Aside0.mk g1; have G2 := Aside0.mk g2; clear g1 g2 g3)
  clear c0 c1 c2 c3 c4 c5 c6 c7 c8 c9 c10
  have u0 : w5.cell? ⟨w.heap.size + 1 + 1, 0, none⟩ = some (.int .u8 0) := (blk_cell H5.out.val 0).trans rfl
  have u1 : w5.cell? ⟨w.heap.size + 1 + 1, 1, none⟩ = some (.int .u64 0) := (blk_cell H5.out.val 1).trans rfl
  have u2 : w5.cell? ⟨w.heap.size + 1 + 1, 2, none⟩ = some (.int .i64 0) := (blk_cell H5.out.val 2).trans rfl
  have u3 : w5.cell? ⟨w.heap.size + 1 + 1, 3, none⟩ = some (.int .i64 0) := (blk_cell H5.out.val 3).trans rfl
  have z0 : w5.cell? ⟨w.heap.size + 1, 0, none⟩ = some (.int .u8 0) := (blk_cell H5.out.out 0).trans rfl
  have z1 : w5.cell? ⟨w.heap.size + 1, 1, none⟩ = some (.int .u64 0) := (blk_cell H5.out.out 1).trans rfl
  have z2 : w5.cell? ⟨w.heap.size + 1, 2, none⟩ = some (.int .i64 0) := (blk_cell H5.out.out 2).trans rfl
  have z3 : w5.cell? ⟨w.heap.size + 1, 3, none⟩ = some (.int .i64 0) := (blk_cell H5.out.out 3).trans rfl
  have y0 := blk_frozen H5.out.out 0
  have y1 := blk_frozen H5.out.out 1
  have y2 := blk_frozen H5.out.out 2
  have y3 := blk_frozen H5.out.out 3
  refine start_ (n := 6) (S := fun w' => w'.cell? ⟨w.heap.size + 1 + 1, 0, none⟩ = some (.int .u8 0) ∧ w'.cell? ⟨w.heap.size + 1 + 1, 1, none⟩ = some (.int .u64 0) ∧ w'.cell? ⟨w.heap.size + 1 + 1, 2, none⟩ = some (.int .i64 0) ∧ w'.cell? ⟨w.heap.size + 1 + 1, 3, none⟩ = some (.int .i64 0)) (ds := [4]) #[false, false, false, false, false, false] (by kernel_rfl) rfl rfl ⟨u0, u1, u2, u3⟩ (fun hHeld => ?_)
  refine pure_ (i := 0) (N := some 96) (v := ?_) (a' := ?_) #[true, false, false, false, false, false] rfl rfl (by kernel_rfl) (fun _ _ _ h => h) (Or.inl ⟨by rfl, ?_⟩) ?_ ?_
  rotate_left
  · intro w'
    go_simp
    with_reducible rfl
  rotate_left
  · simp only [Act.put, List.setIfInBounds_toArray, List.set_cons_zero, List.set_cons_succ, i64_w, i32_w]
    rfl
  refine pure_ (i := 2) (N := some 98) (v := ?_) (a' := ?_) #[true, false, true, false, false, false] rfl rfl (by kernel_rfl) (fun _ _ _ h => h) (Or.inl ⟨by rfl, ?_⟩) ?_ ?_
  rotate_left
  · intro w'
    go_simp
    with_reducible rfl
  rotate_left
  · simp only [Act.put, List.setIfInBounds_toArray, List.set_cons_zero, List.set_cons_succ, i64_w, i32_w]
    rfl
  refine pure_ (i := 3) (N := some 6) (v := ?_) (a' := ?_) #[true, false, true, true, false, false] rfl rfl (by kernel_rfl) (fun _ _ _ h => h) (Or.inl ⟨by rfl, ?_⟩) ?_ ?_
  rotate_left
  · intro w'
    go_simp
    with_reducible rfl
  rotate_left
  · simp only [Act.put, List.setIfInBounds_toArray, List.set_cons_zero, List.set_cons_succ, i64_w, i32_w]
    rfl
  refine take_ (i := 1) (N := some 97) (v := ?_) (a' := ?_) #[true, true, true, true, false, false] rfl rfl (by kernel_rfl) (fun _ _ _ h => h) (Or.inl ⟨by rfl, ?_⟩) hHeld ?_ ?_
  rotate_left
  · rintro w' ⟨s0, s1, s2, s3⟩
    go_simp
    with_reducible rfl
  rotate_left
  · simp only [Act.put, List.setIfInBounds_toArray, List.set_cons_zero, List.set_cons_succ, i64_w, i32_w]
    rfl
  refine last_ (i := 4) (N := none) #[true, true, true, true, true, false] rfl rfl (by kernel_rfl) (by decide) (fun K hK => ?_)
  refine skip_ (w1 := ?_) (by rfl) rfl ?_ ?_
  rotate_left
  · go_simp
    rfl
  refine hK.out _ _ ?_
  clear hK K
  refine pure_ (i := 5) (N := some 8) (v := ?_) (a' := ?_) #[true, true, true, true, true, true] rfl rfl (by kernel_rfl) (fun _ _ _ h => h) (Or.inl ⟨by rfl, ?_⟩) ?_ ?_
  rotate_left
  · intro w'
    go_simp
    with_reducible rfl
  rotate_left
  · simp only [Act.put, List.setIfInBounds_toArray, List.set_cons_zero, List.set_cons_succ, i64_w, i32_w]
    rfl
  refine done_ (by kernel_rfl) ?_
  clear hHeld
  go_wp2
  have hfin := blk_set4 (.int .u8 0) (.int .u64 0) (.int .i64 0) (.int .i64 0) H5.out.out
  refine ⟨rfl, _, results_tct Tryd.results14 _ _ (w.heap.size + 1) 26 _ (0, 0) _ rfl hfin Tryd.underlying26 rfl (by kernel_rfl), ?_⟩
  have hbf := below_set4 (.int .u8 0) (.int .u64 0) (.int .i64 0) (.int .i64 0) H5.out.below (show w.heap.size ≤ w.heap.size + 1 from Nat.le_succ _)
  have hsame := set4_same H5.out.out
  exact HD.out _ _ ⟨A', c', rfl, by rw [hsame]; exact Kd.C_drew G1.out, G2.out, below_drew hbf⟩
set_option maxRecDepth 100000 in
set_option maxHeartbeats 2000000 in
theorem does_calc (a : Nat) (t : List Ent) (A : Option Addr) (c : Nat) (l : List Fr) (x : Ac) (w : World) (h : IsRow w a t A c l) (hs : SmallR l) (hz : tSize t x.f ≤ 1000000) (hx : AcOk w x) (hk : ¬ x.kind = 0 ∧ ¬ x.kind = 1 ∧ ¬ x.kind = 2 ∧ ¬ x.kind = 3 ∧ ¬ x.kind = 4 ∧ ¬ x.kind = 5) :
    Calls Tryd.prog 14 #[.pointer (some ⟨a, 0, none⟩), .slice A l.length c, .agg #[.int .i64 x.kind, .int .i64 x.f, .int .i64 x.d, .int .i64 x.s, .int .u8 x.v.k, .int .u64 x.v.b, .int .i64 x.v.d, .int .i64 x.v.s, .int .u64 x.bits, .int .u8 x.op, .slice x.A x.ns.length x.c]] w (DoesPost t l x w) := by
  have HS := Aside0.mk (DoW.start w x)
  have HC := Aside0.mk (fun (W : World) (hB : Below w.heap.size w W) => (CalcM_calls a t A c l x.op x.d x.A x.c x.ns W (h.below hB) hs hx.ns (Kd.C_below hx.row hB) : Calls _ _ _ W (ChPost W (chRow t l (calcErr t l x.op x.d x.ns) (calcRow l x.op x.d x.ns)) (chErr t l (calcErr t l x.op x.d x.ns)))))
  have hE : actE t l x = calcErr t l x.op x.d x.ns := by unfold actE; rw [if_neg hk.1, if_neg hk.2.1, if_neg hk.2.2.1, if_neg hk.2.2.2.1, if_neg hk.2.2.2.2.1, if_neg hk.2.2.2.2.2]
  have hR : actRow t l x = calcRow l x.op x.d x.ns := by unfold actRow; rw [if_neg hk.1, if_neg hk.2.1, if_neg hk.2.2.1, if_neg hk.2.2.2.1, if_neg hk.2.2.2.2.1, if_neg hk.2.2.2.2.2]
  have hV : actVal t l x = zVl := by unfold actVal; rw [if_neg hk.2.2.2.1, if_neg hk.2.2.2.2.1]
  have HD := Aside0.mk (show ∀ e w', (∃ A' c', e = .returned (.tuple #[.slice A' (chRow t l (calcErr t l x.op x.d x.ns) (calcRow l x.op x.d x.ns)).length c', .agg #[.int .u8 0, .int .u64 0, .int .i64 0, .int .i64 0], .int .i64 (chErr t l (calcErr t l x.op x.d x.ns))]) ∧ kFr.C w' A' (chRow t l (calcErr t l x.op x.d x.ns) (calcRow l x.op x.d x.ns)).length (chRow t l (calcErr t l x.op x.d x.ns) (calcRow l x.op x.d x.ns)) ∧ (chRow t l (calcErr t l x.op x.d x.ns) (calcRow l x.op x.d x.ns)).length ≤ c' ∧ Below w.heap.size w w') → DoesPost t l x w e w' from fun e w' hh => by unfold DoesPost; rw [hE, hR, hV]; exact hh)
  generalize chRow t l (calcErr t l x.op x.d x.ns) (calcRow l x.op x.d x.ns) = L at *
  generalize chErr t l (calcErr t l x.op x.d x.ns) = X at *
  generalize DoesPost t l x w = Post at *
  have HK := Aside0.mk hk
  have c0 : (((w.alloc (.cells #[.int .i64 x.kind, .int .i64 x.f, .int .i64 x.d, .int .i64 x.s, .int .u8 x.v.k, .int .u64 x.v.b, .int .i64 x.v.d, .int .i64 x.v.s, .int .u64 x.bits, .int .u8 x.op, .slice x.A x.ns.length x.c] 29)).alloc (.cells #[.int .u8 0, .int .u64 0, .int .i64 0, .int .i64 0] 26)).alloc (.cells #[.int .u8 0, .int .u64 0, .int .i64 0, .int .i64 0] 26)).cell? ⟨w.heap.size, 0, none⟩ = some (.int .i64 x.kind) := (blk_cell HS.out.act 0).trans rfl
  have c1 : (((w.alloc (.cells #[.int .i64 x.kind, .int .i64 x.f, .int .i64 x.d, .int .i64 x.s, .int .u8 x.v.k, .int .u64 x.v.b, .int .i64 x.v.d, .int .i64 x.v.s, .int .u64 x.bits, .int .u8 x.op, .slice x.A x.ns.length x.c] 29)).alloc (.cells #[.int .u8 0, .int .u64 0, .int .i64 0, .int .i64 0] 26)).alloc (.cells #[.int .u8 0, .int .u64 0, .int .i64 0, .int .i64 0] 26)).cell? ⟨w.heap.size, 1, none⟩ = some (.int .i64 x.f) := (blk_cell HS.out.act 1).trans rfl
  have c2 : (((w.alloc (.cells #[.int .i64 x.kind, .int .i64 x.f, .int .i64 x.d, .int .i64 x.s, .int .u8 x.v.k, .int .u64 x.v.b, .int .i64 x.v.d, .int .i64 x.v.s, .int .u64 x.bits, .int .u8 x.op, .slice x.A x.ns.length x.c] 29)).alloc (.cells #[.int .u8 0, .int .u64 0, .int .i64 0, .int .i64 0] 26)).alloc (.cells #[.int .u8 0, .int .u64 0, .int .i64 0, .int .i64 0] 26)).cell? ⟨w.heap.size, 2, none⟩ = some (.int .i64 x.d) := (blk_cell HS.out.act 2).trans rfl
  have c3 : (((w.alloc (.cells #[.int .i64 x.kind, .int .i64 x.f, .int .i64 x.d, .int .i64 x.s, .int .u8 x.v.k, .int .u64 x.v.b, .int .i64 x.v.d, .int .i64 x.v.s, .int .u64 x.bits, .int .u8 x.op, .slice x.A x.ns.length x.c] 29)).alloc (.cells #[.int .u8 0, .int .u64 0, .int .i64 0, .int .i64 0] 26)).alloc (.cells #[.int .u8 0, .int .u64 0, .int .i64 0, .int .i64 0] 26)).cell? ⟨w.heap.size, 3, none⟩ = some (.int .i64 x.s) := (blk_cell HS.out.act 3).trans rfl
  have c4 : (((w.alloc (.cells #[.int .i64 x.kind, .int .i64 x.f, .int .i64 x.d, .int .i64 x.s, .int .u8 x.v.k, .int .u64 x.v.b, .int .i64 x.v.d, .int .i64 x.v.s, .int .u64 x.bits, .int .u8 x.op, .slice x.A x.ns.length x.c] 29)).alloc (.cells #[.int .u8 0, .int .u64 0, .int .i64 0, .int .i64 0] 26)).alloc (.cells #[.int .u8 0, .int .u64 0, .int .i64 0, .int .i64 0] 26)).cell? ⟨w.heap.size, 4, none⟩ = some (.int .u8 x.v.k) := (blk_cell HS.out.act 4).trans rfl
  have c5 : (((w.alloc (.cells #[.int .i64 x.kind, .int .i64 x.f, .int .i64 x.d, .int .i64 x.s, .int .u8 x.v.k, .int .u64 x.v.b, .int .i64 x.v.d, .int .i64 x.v.s, .int .u64 x.bits, .int .u8 x.op, .slice x.A x.ns.length x.c] 29)).alloc (.cells #[.int .u8 0, .int .u64 0, .int .i64 0, .int .i64 0] 26)).alloc (.cells #[.int .u8 0, .int .u64 0, .int .i64 0, .int .i64 0] 26)).cell? ⟨w.heap.size, 5, none⟩ = some (.int .u64 x.v.b) := (blk_cell HS.out.act 5).trans rfl
  have c6 : (((w.alloc (.cells #[.int .i64 x.kind, .int .i64 x.f, .int .i64 x.d, .int .i64 x.s, .int .u8 x.v.k, .int .u64 x.v.b, .int .i64 x.v.d, .int .i64 x.v.s, .int .u64 x.bits, .int .u8 x.op, .slice x.A x.ns.length x.c] 29)).alloc (.cells #[.int .u8 0, .int .u64 0, .int .i64 0, .int .i64 0] 26)).alloc (.cells #[.int .u8 0, .int .u64 0, .int .i64 0, .int .i64 0] 26)).cell? ⟨w.heap.size, 6, none⟩ = some (.int .i64 x.v.d) := (blk_cell HS.out.act 6).trans rfl
  have c7 : (((w.alloc (.cells #[.int .i64 x.kind, .int .i64 x.f, .int .i64 x.d, .int .i64 x.s, .int .u8 x.v.k, .int .u64 x.v.b, .int .i64 x.v.d, .int .i64 x.v.s, .int .u64 x.bits, .int .u8 x.op, .slice x.A x.ns.length x.c] 29)).alloc (.cells #[.int .u8 0, .int .u64 0, .int .i64 0, .int .i64 0] 26)).alloc (.cells #[.int .u8 0, .int .u64 0, .int .i64 0, .int .i64 0] 26)).cell? ⟨w.heap.size, 7, none⟩ = some (.int .i64 x.v.s) := (blk_cell HS.out.act 7).trans rfl
  have c8 : (((w.alloc (.cells #[.int .i64 x.kind, .int .i64 x.f, .int .i64 x.d, .int .i64 x.s, .int .u8 x.v.k, .int .u64 x.v.b, .int .i64 x.v.d, .int .i64 x.v.s, .int .u64 x.bits, .int .u8 x.op, .slice x.A x.ns.length x.c] 29)).alloc (.cells #[.int .u8 0, .int .u64 0, .int .i64 0, .int .i64 0] 26)).alloc (.cells #[.int .u8 0, .int .u64 0, .int .i64 0, .int .i64 0] 26)).cell? ⟨w.heap.size, 8, none⟩ = some (.int .u64 x.bits) := (blk_cell HS.out.act 8).trans rfl
  have c9 : (((w.alloc (.cells #[.int .i64 x.kind, .int .i64 x.f, .int .i64 x.d, .int .i64 x.s, .int .u8 x.v.k, .int .u64 x.v.b, .int .i64 x.v.d, .int .i64 x.v.s, .int .u64 x.bits, .int .u8 x.op, .slice x.A x.ns.length x.c] 29)).alloc (.cells #[.int .u8 0, .int .u64 0, .int .i64 0, .int .i64 0] 26)).alloc (.cells #[.int .u8 0, .int .u64 0, .int .i64 0, .int .i64 0] 26)).cell? ⟨w.heap.size, 9, none⟩ = some (.int .u8 x.op) := (blk_cell HS.out.act 9).trans rfl
  have c10 : (((w.alloc (.cells #[.int .i64 x.kind, .int .i64 x.f, .int .i64 x.d, .int .i64 x.s, .int .u8 x.v.k, .int .u64 x.v.b, .int .i64 x.v.d, .int .i64 x.v.s, .int .u64 x.bits, .int .u8 x.op, .slice x.A x.ns.length x.c] 29)).alloc (.cells #[.int .u8 0, .int .u64 0, .int .i64 0, .int .i64 0] 26)).alloc (.cells #[.int .u8 0, .int .u64 0, .int .i64 0, .int .i64 0] 26)).cell? ⟨w.heap.size, 10, none⟩ = some (.slice x.A x.ns.length x.c) := (blk_cell HS.out.act 10).trans rfl
  have k0 : (x.kind == 0) = false := beq_eq_false_iff_ne.2 hk.1
  have k1 : (x.kind == 1) = false := beq_eq_false_iff_ne.2 hk.2.1
  have k2 : (x.kind == 2) = false := beq_eq_false_iff_ne.2 hk.2.2.1
  have k3 : (x.kind == 3) = false := beq_eq_false_iff_ne.2 hk.2.2.2.1
  have k4 : (x.kind == 4) = false := beq_eq_false_iff_ne.2 hk.2.2.2.2.1
  have k5 : (x.kind == 5) = false := beq_eq_false_iff_ne.2 hk.2.2.2.2.2
  clear h hs hz hx hk hE hR hV
  go_enter Tryd.func14, Tryd.ntmps14
  go_wp2_with (go_at_call 48; refine (HC.out _ HS.out.below).mono ?_; rintro e w5 ⟨A', c', rfl, g1, g2, g3⟩; have H5 := Aside0.mk (HS.out.step g3); have G1 := Aside0.mk g1; have G2 := Aside0.mk g2; clear g1 g2 g3)
  clear c0 c1 c2 c3 c4 c5 c6 c7 c8 c9 c10
  have u0 : w5.cell? ⟨w.heap.size + 1 + 1, 0, none⟩ = some (.int .u8 0) := (blk_cell H5.out.val 0).trans rfl
  have u1 : w5.cell? ⟨w.heap.size + 1 + 1, 1, none⟩ = some (.int .u64 0) := (blk_cell H5.out.val 1).trans rfl
  have u2 : w5.cell? ⟨w.heap.size + 1 + 1, 2, none⟩ = some (.int .i64 0) := (blk_cell H5.out.val 2).trans rfl
  have u3 : w5.cell? ⟨w.heap.size + 1 + 1, 3, none⟩ = some (.int .i64 0) := (blk_cell H5.out.val 3).trans rfl
  have z0 : w5.cell? ⟨w.heap.size + 1, 0, none⟩ = some (.int .u8 0) := (blk_cell H5.out.out 0).trans rfl
  have z1 : w5.cell? ⟨w.heap.size + 1, 1, none⟩ = some (.int .u64 0) := (blk_cell H5.out.out 1).trans rfl
  have z2 : w5.cell? ⟨w.heap.size + 1, 2, none⟩ = some (.int .i64 0) := (blk_cell H5.out.out 2).trans rfl
  have z3 : w5.cell? ⟨w.heap.size + 1, 3, none⟩ = some (.int .i64 0) := (blk_cell H5.out.out 3).trans rfl
  have y0 := blk_frozen H5.out.out 0
  have y1 := blk_frozen H5.out.out 1
  have y2 := blk_frozen H5.out.out 2
  have y3 := blk_frozen H5.out.out 3
  refine start_ (n := 6) (S := fun w' => w'.cell? ⟨w.heap.size + 1 + 1, 0, none⟩ = some (.int .u8 0) ∧ w'.cell? ⟨w.heap.size + 1 + 1, 1, none⟩ = some (.int .u64 0) ∧ w'.cell? ⟨w.heap.size + 1 + 1, 2, none⟩ = some (.int .i64 0) ∧ w'.cell? ⟨w.heap.size + 1 + 1, 3, none⟩ = some (.int .i64 0)) (ds := [4]) #[false, false, false, false, false, false] (by kernel_rfl) rfl rfl ⟨u0, u1, u2, u3⟩ (fun hHeld => ?_)
  refine pure_ (i := 0) (N := some 96) (v := ?_) (a' := ?_) #[true, false, false, false, false, false] rfl rfl (by kernel_rfl) (fun _ _ _ h => h) (Or.inl ⟨by rfl, ?_⟩) ?_ ?_
  rotate_left
  · intro w'
    go_simp
    with_reducible rfl
  rotate_left
  · simp only [Act.put, List.setIfInBounds_toArray, List.set_cons_zero, List.set_cons_succ, i64_w, i32_w]
    rfl
  refine pure_ (i := 2) (N := some 98) (v := ?_) (a' := ?_) #[true, false, true, false, false, false] rfl rfl (by kernel_rfl) (fun _ _ _ h => h) (Or.inl ⟨by rfl, ?_⟩) ?_ ?_
  rotate_left
  · intro w'
    go_simp
    with_reducible rfl
  rotate_left
  · simp only [Act.put, List.setIfInBounds_toArray, List.set_cons_zero, List.set_cons_succ, i64_w, i32_w]
    rfl
  refine pure_ (i := 3) (N := some 6) (v := ?_) (a' := ?_) #[true, false, true, true, false, false] rfl rfl (by kernel_rfl) (fun _ _ _ h => h) (Or.inl ⟨by rfl, ?_⟩) ?_ ?_
  rotate_left
  · intro w'
    go_simp
    with_reducible rfl
  rotate_left
  · simp only [Act.put, List.setIfInBounds_toArray, List.set_cons_zero, List.set_cons_succ, i64_w, i32_w]
    rfl
  refine take_ (i := 1) (N := some 97) (v := ?_) (a' := ?_) #[true, true, true, true, false, false] rfl rfl (by kernel_rfl) (fun _ _ _ h => h) (Or.inl ⟨by rfl, ?_⟩) hHeld ?_ ?_
  rotate_left
  · rintro w' ⟨s0, s1, s2, s3⟩
    go_simp
    with_reducible rfl
  rotate_left
  · simp only [Act.put, List.setIfInBounds_toArray, List.set_cons_zero, List.set_cons_succ, i64_w, i32_w]
    rfl
  refine last_ (i := 4) (N := none) #[true, true, true, true, true, false] rfl rfl (by kernel_rfl) (by decide) (fun K hK => ?_)
  refine skip_ (w1 := ?_) (by rfl) rfl ?_ ?_
  rotate_left
  · go_simp
    rfl
  refine hK.out _ _ ?_
  clear hK K
  refine pure_ (i := 5) (N := some 8) (v := ?_) (a' := ?_) #[true, true, true, true, true, true] rfl rfl (by kernel_rfl) (fun _ _ _ h => h) (Or.inl ⟨by rfl, ?_⟩) ?_ ?_
  rotate_left
  · intro w'
    go_simp
    with_reducible rfl
  rotate_left
  · simp only [Act.put, List.setIfInBounds_toArray, List.set_cons_zero, List.set_cons_succ, i64_w, i32_w]
    rfl
  refine done_ (by kernel_rfl) ?_
  clear hHeld
  go_wp2
  have hfin := blk_set4 (.int .u8 0) (.int .u64 0) (.int .i64 0) (.int .i64 0) H5.out.out
  refine ⟨rfl, _, results_tct Tryd.results14 _ _ (w.heap.size + 1) 26 _ (0, 0) _ rfl hfin Tryd.underlying26 rfl (by kernel_rfl), ?_⟩
  have hbf := below_set4 (.int .u8 0) (.int .u64 0) (.int .i64 0) (.int .i64 0) H5.out.below (show w.heap.size ≤ w.heap.size + 1 from Nat.le_succ _)
  have hsame := set4_same H5.out.out
  exact HD.out _ _ ⟨A', c', rfl, by rw [hsame]; exact Kd.C_drew G1.out, G2.out, below_drew hbf⟩
end Go.Proofs.YtfaghjadjpiaiaaDoor.Sh
namespace Go.Proofs.YtfaghjadjpiaiaaDoor.Sh
open Go.RowKit Go.Shelf Go.Proofs.YtfaghjadjpiaiaaDoorW.PrintWords Go.Proofs.YtfaghjadjpiaiaaDoorW.PrintLast Go.Proofs.YtfaghjadjpiaiaaDoorW.PrintMore
set_option linter.unusedVariables false
set_option linter.unusedSimpArgs false
theorem Does_calls (a : Nat) (t : List Ent) (A : Option Addr) (c : Nat) (l : List Fr) (x : Ac) (w : World) (h : IsRow w a t A c l) (hs : SmallR l) (hz : tSize t x.f ≤ 1000000) (hx : AcOk w x) :
    Calls Tryd.prog 14 #[.pointer (some ⟨a, 0, none⟩), .slice A l.length c, .agg #[.int .i64 x.kind, .int .i64 x.f, .int .i64 x.d, .int .i64 x.s, .int .u8 x.v.k, .int .u64 x.v.b, .int .i64 x.v.d, .int .i64 x.v.s, .int .u64 x.bits, .int .u8 x.op, .slice x.A x.ns.length x.c]] w (DoesPost t l x w) := by
  by_cases h0 : x.kind = 0
  · exact does_call a t A c l x w h hs hz hx h0
  by_cases h1 : x.kind = 1
  · exact does_ret a t A c l x w h hs hz hx h1
  by_cases h2 : x.kind = 2
  · exact does_set a t A c l x w h hs hz hx h2
  by_cases h3 : x.kind = 3
  · exact does_get a t A c l x w h hs hz hx h3
  by_cases h4 : x.kind = 4
  · exact does_load a t A c l x w h hs hz hx h4
  by_cases h5 : x.kind = 5
  · exact does_write a t A c l x w h hs hz hx h5
  exact does_calc a t A c l x w h hs hz hx ⟨h0, h1, h2, h3, h4, h5⟩
theorem tab_ent {l : List Fn0} {t : List Ent} (h : TabOk l t) {f : Int} (hf : tHas t f = true) : ∃ g ∈ l, l[f.toNat]? = some g ∧ EntOk g (ent t f) := by
  have hf2 : 0 ≤ f ∧ f < t.length := by unfold tHas at hf; simpa using hf
  have ht : f.toNat < t.length := by omega
  have hl : f.toNat < l.length := by rw [← h.1]; exact ht
  refine ⟨l[f.toNat], List.getElem_mem hl, List.getElem?_eq_getElem hl, h.2 f.toNat _ _ (List.getElem?_eq_getElem hl) ?_⟩
  simp [ent, List.getElem?_eq_getElem ht]
theorem tab_size {l : List Fn0} {t : List Ent} (hn : newB l = true) (h : TabOk l t) (f : Int) : tSize t f ≤ 1000000 := by
  unfold tSize
  by_cases hf : tHas t f = true
  · rw [if_pos hf]
    obtain ⟨g, hg, _, he⟩ := tab_ent h hf
    rw [he.size]
    simp only [newB, Bool.and_eq_true, decide_eq_true_eq] at hn
    have h3 := hn.2.2
    have hm : mayB g = true := by
      have : (l.any fun f => !mayB f) = false := by simpa using h3
      have := List.any_eq_false.1 this g hg
      simpa using this
    simp only [mayB, Bool.and_eq_true, decide_eq_true_eq] at hm
    omega
  · rw [if_neg hf]
    omega
theorem tab_all {l : List Fn0} {t : List Ent} (h : TabOk l t) : AllE t := by
  intro e he
  obtain ⟨i, hi, rfl⟩ := List.getElem_of_mem he
  have hl : i < l.length := by rw [← h.1]; exact hi
  exact (h.2 i _ _ (List.getElem?_eq_getElem hl) (List.getElem?_eq_getElem hi)).all
theorem C_oneF (w : World) : kFn.C (w.alloc (.cells #[.int .i64 0, .slice none 0 0] 88)) (some ⟨w.heap.size, 0, none⟩) ([⟨0, []⟩] : List Fn0).length [⟨0, []⟩] := by
  refine ⟨rfl, by simp, fun _ => ⟨_, rfl, fun j p hj => ?_⟩⟩
  match j, hj with
  | 0, hj =>
    simp at hj
    subst hj
    refine ⟨[.int .i64 0, .slice none 0 0], rfl, ⟨[.int .i64 0], [.slice none 0 0], rfl, rfl, ⟨none, 0, rfl, by simp, Kd.C_nil _ _⟩⟩, fun i u hu => ?_⟩
    have hadd : (⟨w.heap.size, 0, none⟩ : Addr).add (0 * kFn.sz + i) = ⟨w.heap.size, i, none⟩ := by rw [Nat.zero_mul, Nat.zero_add]; exact add_plain _ _
    rw [hadd]
    have h := blk_cell (heap_alloc_new w (.cells #[.int .i64 0, .slice none 0 0] 88)) i
    rw [h, ← hu]
    simp
theorem one_size {t : List Ent} (h : TabOk [⟨0, []⟩] t) : tSize t 0 = 0 := by
  have hl : t.length = 1 := h.1
  have hh : tHas t 0 = true := by unfold tHas; rw [hl]; decide
  obtain ⟨g, hg, _, he⟩ := tab_ent h hh
  unfold tSize
  rw [if_pos hh, he.size]
  simp at hg
  rw [hg]
theorem right_nil (t : List Ent) : rightE t [] = 0 := by simp [rightE, allErrs, firstNZ]
theorem right_one {t : List Ent} (h : tSize t 0 = 0) : rightE t [newFr t 0] = 0 := by
  have e : newFr t 0 = ⟨0, []⟩ := by unfold newFr; rw [h]; rfl
  rw [e]
  simp [rightE, allErrs, slotErrs, firstNZ, shapeOk, h, fr]
set_option maxRecDepth 100000 in
set_option maxHeartbeats 1000000 in
theorem awake_calls (w : World) (hT : Tab64 w) :
    Calls Tryd.prog 12 #[] w fun e w' => e = .returned (.bool true) ∧ Below w.heap.size w w' := by
  have hb1 : Below w.heap.size w (w.alloc (.cells #[.int .i64 0, .slice none 0 0] 88)) := below_alloc (Below.refl _ _) _
  have HN := Aside0.mk (New_ok (some ⟨w.heap.size, 0, none⟩) 1 [⟨0, []⟩] (w.alloc (.cells #[.int .i64 0, .slice none 0 0] 88)) (by intro f hf; simp at hf; subst hf; exact ⟨⟨by decide, by decide⟩, (fun x hx => by cases hx), by decide⟩) (hT.below hb1) (C_oneF w) (Nat.le_refl _) (by decide))
  have HB1 := Aside0.mk hb1
  clear hb1 hT
  go_enter Tryd.func12, Tryd.ntmps12
  go_wp2_with first
    | (go_at_call 9
       refine HN.out.mono ?_
       rintro e w2 ⟨a, t, rfl, hT, hO, ha, hb⟩
       have HT2 := Aside0.mk hT
       have HO := Aside0.mk hO
       have HB2 := Aside0.mk (below_then HB1.out HB1.out.size hb)
       clear hT hO ha hb)
    | (go_at_call 40
       have hsz := one_size HO.out
       have hb3 : Below w2.heap.size w2 (w2.alloc (.cells #[] 80)) := below_alloc (Below.refl _ _) _
       have hI : IsRow (w2.alloc (.cells #[] 80)) a t (some ⟨w2.heap.size, 0, none⟩) 0 [] := ⟨HT2.out.below hb3, tab_all HO.out, ⟨rfl, by simp, fun h => absurd h (by simp)⟩, Nat.le_refl _⟩
       refine (Calls.cast (Call_calls a t (some ⟨w2.heap.size, 0, none⟩) 0 [] 0 _ hI ⟨by simp, fun f hf => by cases hf⟩ (by rw [hsz]; decide)) rfl).mono ?_
       have e1 : callE t 0 = 0 := by unfold callE; rw [hsz]; rfl
       rw [e1, show chErr t [] 0 = 0 from if_pos (right_nil t), show chRow t [] 0 ([] ++ [newFr t 0]) = [newFr t 0] from if_pos ⟨right_nil t, rfl⟩]
       rintro e w4 ⟨A4, c4, rfl, g1, g2, g3⟩
       have HB4 := Aside0.mk (below_then HB2.out HB2.out.size (below_then hb3 hb3.size g3))
       have HI4 := Aside0.mk (show IsRow w4 a t A4 c4 [newFr t 0] from ⟨(HT2.out.below hb3).below g3, tab_all HO.out, g1, g2⟩)
       have HRg := Aside0.mk (right_one hsz)
       have hsl : (newFr t 0).l.length ≤ 1000000 := by unfold newFr; rw [hsz]; simp [slotsOf]
       have HSl := Aside0.mk hsl
       clear hsz hb3 hI e1 g1 g2 g3 hsl)
    | (go_at_call 41
       refine (Calls.cast (Return_calls a t A4 c4 [newFr t 0] _ HI4.out ⟨by simp, fun f hf => by simp at hf; subst hf; exact HSl.out⟩) rfl).mono ?_
       rw [show retE [newFr t 0] = 8 from rfl, show chErr t [newFr t 0] 8 = 8 from if_pos HRg.out]
       rintro e w5 ⟨A5, c5, rfl, g1, g2, g3⟩
       have HB5 := Aside0.mk (below_then HB4.out HB4.out.size g3)
       clear g1 g2 g3)
  go_ret
  exact ⟨rfl, HB5.out⟩
end Go.Proofs.YtfaghjadjpiaiaaDoor.Sh
namespace Go.Proofs.YtfaghjadjpiaiaaDoor.Sh
open Go.RowKit Go.Shelf Go.Proofs.YtfaghjadjpiaiaaDoorW.PrintWords Go.Proofs.YtfaghjadjpiaiaaDoorW.PrintLast Go.Proofs.YtfaghjadjpiaiaaDoorW.PrintMore
set_option linter.unusedVariables false
set_option linter.unusedSimpArgs false
theorem firstNZ_all : ∀ {L : List Int}, (∀ x ∈ L, x = 0) → firstNZ L = 0
  | [], _ => rfl
  | y :: L, h => by
    unfold firstNZ
    rw [if_pos (h y (by simp))]
    exact firstNZ_all (fun x hx => h x (by simp [hx]))
theorem right_of {t : List Ent} {l : List Fr} (h1 : ∀ f ∈ l, 0 ≤ tSize t f.f ∧ tSize t f.f = (f.l.length : Int)) (h2 : ∀ d s : Int, hasS l d s = true → fitsE t l d s (vl (fr l d).l s) = 0) : rightE t l = 0 := by
  unfold rightE
  rw [if_pos]
  · refine firstNZ_all (fun x hx => ?_)
    unfold allErrs at hx
    rw [List.mem_flatMap] at hx
    obtain ⟨d, hd, hx⟩ := hx
    unfold slotErrs at hx
    rw [List.mem_map] at hx
    obtain ⟨s, hs, rfl⟩ := hx
    simp at hd hs
    exact h2 d s (hasS_iff.2 ⟨by omega, by omega, by omega, by omega⟩)
  · rw [List.all_eq_true]
    intro f hf
    unfold shapeOk
    have := h1 f hf
    simp [this.1, this.2]
/-- What it says that a value fits. -/
theorem fits_iff {t : List Ent} {l : List Fr} {d s : Int} {v : Vl} : fitsE t l d s v = 0 ↔ mayV v = true ∧ tPtr t (fr l d).f s = (v.k != 1) ∧ (v.k = 2 → hasS l v.d v.s = true ∧ v.d ≤ d) := by
  unfold fitsE
  by_cases g1 : mayV v = false
  · rw [if_pos g1]; simp [g1]
  rw [if_neg g1]
  have g1' : mayV v = true := by simpa using g1
  by_cases g2 : (tPtr t (fr l d).f s == (v.k != 1)) = false
  · rw [if_pos g2]
    have : ¬ tPtr t (fr l d).f s = (v.k != 1) := by simpa using g2
    simp [this]
  rw [if_neg g2]
  have g2' : tPtr t (fr l d).f s = (v.k != 1) := by simpa using g2
  by_cases g3 : v.k = 2
  · rw [if_pos g3]
    by_cases g4 : hasS l v.d v.s = false
    · rw [if_pos g4]; simp [g4, g3]
    rw [if_neg g4]
    by_cases g5 : d < v.d
    · rw [if_pos g5]
      simp [g3]; intros; omega
    · rw [if_neg g5]
      have g4' : hasS l v.d v.s = true := by simpa using g4
      simp only [true_iff]
      exact ⟨g1', g2', fun _ => ⟨g4', by omega⟩⟩
  · rw [if_neg g3]
    simp only [true_iff]
    exact ⟨g1', g2', fun h => absurd h g3⟩
/-- A row one of whose slots has something else that fits is right. -/
theorem fr_set (l : List Fr) (d s : Int) (v : Vl) (i : Int) : fr (setRow l d s v) i = if i.toNat = d.toNat ∧ d.toNat < l.length then ⟨(fr l d).f, (fr l d).l.set s.toNat v⟩ else fr l i := by
  by_cases h : i.toNat = d.toNat ∧ d.toNat < l.length
  · rw [if_pos h]
    show (l.set d.toNat ⟨(fr l d).f, (fr l d).l.set s.toNat v⟩).getD i.toNat zFr = _
    rw [h.1, List.getD_eq_getElem?_getD, List.getElem?_set_self h.2]
    rfl
  · rw [if_neg h]
    show (l.set d.toNat ⟨(fr l d).f, (fr l d).l.set s.toNat v⟩).getD i.toNat zFr = l.getD i.toNat zFr
    by_cases hd : i.toNat = d.toNat
    · have hl : l.length ≤ d.toNat := by
        rcases Nat.lt_or_ge d.toNat l.length with hlt | hge
        · exact absurd ⟨hd, hlt⟩ h
        · exact hge
      rw [List.set_eq_of_length_le hl]
    · rw [List.getD_eq_getElem?_getD, List.getElem?_set_ne (fun e => hd e.symm), List.getD_eq_getElem?_getD]
theorem fr_set_f (l : List Fr) (d s : Int) (v : Vl) (i : Int) : (fr (setRow l d s v) i).f = (fr l i).f := by
  rw [fr_set]
  by_cases h : i.toNat = d.toNat ∧ d.toNat < l.length
  · rw [if_pos h]
    have : fr l i = fr l d := by unfold fr; rw [h.1]
    rw [this]
  · rw [if_neg h]
theorem fr_set_len (l : List Fr) (d s : Int) (v : Vl) (i : Int) : (fr (setRow l d s v) i).l.length = (fr l i).l.length := by
  rw [fr_set]
  by_cases h : i.toNat = d.toNat ∧ d.toNat < l.length
  · rw [if_pos h]
    have : fr l i = fr l d := by unfold fr; rw [h.1]
    rw [this]
    simp
  · rw [if_neg h]
theorem hasS_set (l : List Fr) (d s : Int) (v : Vl) (i j : Int) : hasS (setRow l d s v) i j = hasS l i j := by
  unfold hasS
  rw [fr_set_len, setRow_length]
theorem vl_set (l : List Fr) (d s : Int) (v : Vl) (i j : Int) : vl (fr (setRow l d s v) i).l j = vl (fr l i).l j ∨ (i.toNat = d.toNat ∧ j.toNat = s.toNat ∧ vl (fr (setRow l d s v) i).l j = v) := by
  rw [fr_set]
  by_cases h : i.toNat = d.toNat ∧ d.toNat < l.length
  · rw [if_pos h]
    have e : fr l i = fr l d := by unfold fr; rw [h.1]
    rw [e]
    unfold vl
    simp only [List.getD_eq_getElem?_getD, List.getElem?_set]
    by_cases hj : s.toNat = j.toNat
    · by_cases h2 : s.toNat < (fr l d).l.length
      · right
        refine ⟨h.1, hj.symm, ?_⟩
        rw [if_pos hj]; simp [h2]
      · left
        rw [if_pos hj]
        have e2 : (fr l d).l[s.toNat]? = none := List.getElem?_eq_none (by omega)
        simp [h2, ← hj, e2]
    · left
      rw [if_neg hj]
  · rw [if_neg h]
    left; rfl
theorem right_set {t : List Ent} {l : List Fr} (h : rightE t l = 0) {d s : Int} {v : Vl} (hh : hasS l d s = true) (hv : fitsE t l d s v = 0) : rightE t (setRow l d s v) = 0 := by
  obtain ⟨b0, b1, b2, b3⟩ := hasS_iff.1 hh
  refine right_of ?_ ?_
  · intro f hf
    obtain ⟨i, hi, rfl⟩ := List.getElem_of_mem hf
    have e : (setRow l d s v)[i] = fr (setRow l d s v) (i : Int) := by simp [fr, hi]
    rw [e, fr_set_f, fr_set_len]
    rw [setRow_length] at hi
    exact right_shape h (fr_mem (by omega) (by omega))
  · intro i j hij
    rw [hasS_set] at hij
    obtain ⟨c0, c1, c2, c3⟩ := hasS_iff.1 hij
    rw [fits_iff, fr_set_f]
    rcases vl_set l d s v i j with he | ⟨hi, hj, he⟩
    · rw [he]
      have := fits_iff.1 (right_fits h hij)
      refine ⟨this.1, this.2.1, fun hk => ?_⟩
      rw [hasS_set]
      exact this.2.2 hk
    · have hi' : i = d := by omega
      have hj' : j = s := by omega
      subst hi'; subst hj'
      rw [he]
      have := fits_iff.1 hv
      refine ⟨this.1, this.2.1, fun hk => ?_⟩
      rw [hasS_set]
      exact this.2.2 hk
end Go.Proofs.YtfaghjadjpiaiaaDoor.Sh
namespace Go.Proofs.YtfaghjadjpiaiaaDoor.Sh
open Go.RowKit Go.Shelf Go.Proofs.YtfaghjadjpiaiaaDoorW.PrintWords Go.Proofs.YtfaghjadjpiaiaaDoorW.PrintLast Go.Proofs.YtfaghjadjpiaiaaDoorW.PrintMore
set_option linter.unusedVariables false
set_option linter.unusedSimpArgs false
theorem fr_take (l : List Fr) (m : Nat) (i : Int) (h : i.toNat < m) : fr (l.take m) i = fr l i := by
  unfold fr
  rw [List.getD_eq_getElem?_getD, List.getElem?_take_of_lt h, List.getD_eq_getElem?_getD]
theorem hasS_take {l : List Fr} {m : Nat} {d s : Int} : hasS (l.take m) d s = true ↔ hasS l d s = true ∧ d < m := by
  constructor
  · intro h
    obtain ⟨h0, h1, h2, h3⟩ := hasS_iff.1 h
    have hm : (d : Int) < m ∧ d < l.length := by rw [List.length_take] at h1; omega
    rw [fr_take l m d (by omega)] at h3
    exact ⟨hasS_iff.2 ⟨h0, hm.2, h2, h3⟩, hm.1⟩
  · rintro ⟨h, hm⟩
    obtain ⟨h0, h1, h2, h3⟩ := hasS_iff.1 h
    refine hasS_iff.2 ⟨h0, by rw [List.length_take]; omega, h2, ?_⟩
    rw [fr_take l m d (by omega)]
    exact h3
theorem right_take {t : List Ent} {l : List Fr} (h : rightE t l = 0) (m : Nat) : rightE t (l.take m) = 0 := by
  refine right_of (fun f hf => right_shape h (List.mem_of_mem_take hf)) ?_
  intro d s hh
  obtain ⟨hl, hm⟩ := hasS_take.1 hh
  obtain ⟨h0, h1, h2, h3⟩ := hasS_iff.1 hl
  rw [fits_iff, fr_take l m d (by omega)]
  have := fits_iff.1 (right_fits h hl)
  refine ⟨this.1, this.2.1, fun hk => ?_⟩
  obtain ⟨k1, k2⟩ := this.2.2 hk
  exact ⟨hasS_take.2 ⟨k1, by omega⟩, k2⟩
theorem fr_app (l : List Fr) (x : Fr) (i : Int) (h : i.toNat < l.length) : fr (l ++ [x]) i = fr l i := by
  unfold fr
  rw [List.getD_eq_getElem?_getD, List.getElem?_append_left h, List.getD_eq_getElem?_getD]
theorem fr_app_new (l : List Fr) (x : Fr) (i : Int) (h : i.toNat = l.length) : fr (l ++ [x]) i = x := by
  unfold fr
  rw [List.getD_eq_getElem?_getD, List.getElem?_append_right (by omega), h]
  simp
theorem vl_slots (t : List Ent) (f : Int) (n : Nat) (s : Int) (h0 : 0 ≤ s) (h1 : s < n) : vl (slotsOf t f n n) s = slotAt t f n s.toNat := by
  unfold vl
  rw [List.getD_eq_getElem?_getD, slotsOf_get t f (by omega)]
  rfl
theorem right_call {t : List Ent} {l : List Fr} (h : rightE t l = 0) {f : Int} (hf : 0 ≤ tSize t f) : rightE t (l ++ [newFr t f]) = 0 := by
  have hlen : ((newFr t f).l.length : Int) = tSize t f := by unfold newFr; rw [slotsOf_length]; omega
  refine right_of ?_ ?_
  · intro g hg
    rcases List.mem_append.1 hg with hg | hg
    · exact right_shape h hg
    · simp at hg
      subst hg
      exact ⟨hf, hlen.symm⟩
  · intro d s hh
    obtain ⟨h0, h1, h2, h3⟩ := hasS_iff.1 hh
    have up : ∀ a b : Int, hasS l a b = true → hasS (l ++ [newFr t f]) a b = true := by
      intro a b hab
      obtain ⟨k0, k1, k2, k3⟩ := hasS_iff.1 hab
      refine hasS_iff.2 ⟨k0, by simp; omega, k2, ?_⟩
      rw [fr_app _ _ _ (by omega)]
      exact k3
    by_cases hd : d.toNat < l.length
    · rw [fr_app _ _ _ hd] at h3
      have hl : hasS l d s = true := hasS_iff.2 ⟨h0, by omega, h2, h3⟩
      rw [fits_iff, fr_app _ _ _ hd]
      have := fits_iff.1 (right_fits h hl)
      refine ⟨this.1, this.2.1, fun hk => ?_⟩
      obtain ⟨k1, k2⟩ := this.2.2 hk
      exact ⟨up _ _ k1, k2⟩
    · have hde : d.toNat = l.length := by simp at h1; omega
      rw [fr_app_new _ _ _ hde] at h3
      rw [fits_iff, fr_app_new _ _ _ hde]
      have hs : s < ((tSize t f).toNat : Int) := by omega
      have hv : vl (newFr t f).l s = slotAt t f (tSize t f).toNat s.toNat := vl_slots t f _ s h2 hs
      rw [hv]
      have es : ((s.toNat : Nat) : Int) = s := by omega
      unfold slotAt
      rw [es]
      by_cases hp : tPtr t f s = false
      · rw [if_pos ⟨by omega, hp⟩]
        exact ⟨rfl, hp, fun hk => absurd hk (by decide)⟩
      · rw [if_neg (fun hh => hp hh.2)]
        refine ⟨rfl, ?_, fun hk => absurd hk (by decide)⟩
        have hp' : tPtr t f s = true := by simpa using hp
        show tPtr t f s = _
        rw [hp']
        rfl
theorem bits_fits {t : List Ent} {l : List Fr} (h : rightE t l = 0) {d s : Int} (b : Int) (hh : hasS l d s = true) (hp : tPtr t (fr l d).f s = false) : fitsE t l d s (bitsV (vl (fr l d).l s) b) = 0 := by
  have h1 := fits_iff.1 (right_fits h hh)
  obtain ⟨m, p, _⟩ := h1
  rw [hp] at p
  have hk : (vl (fr l d).l s).k = 1 := by simpa using p.symm
  rw [fits_iff]
  have hm : mayV (bitsV (vl (fr l d).l s) b) = true := by
    unfold mayV at m ⊢
    unfold bitsV
    simp only at *
    rw [hk] at m ⊢
    simpa using m
  refine ⟨hm, ?_, fun hk2 => ?_⟩
  · rw [hp]
    show false = ((vl (fr l d).l s).k != 1)
    rw [hk]
    rfl
  · have : (vl (fr l d).l s).k = 2 := hk2
    omega
theorem act_right {t : List Ent} {l : List Fr} (x : Ac) (h : rightE t l = 0) (he : actE t l x = 0) : rightE t (actRow t l x) = 0 := by
  unfold actE at he
  unfold actRow
  by_cases h0 : x.kind = 0
  · rw [if_pos h0] at he ⊢
    unfold callE at he
    by_cases hz : 0 ≤ tSize t x.f
    · exact right_call h hz
    · rw [if_neg hz] at he; exact absurd he (by decide)
  rw [if_neg h0] at he ⊢
  by_cases h1 : x.kind = 1
  · rw [if_pos h1] at he ⊢
    exact right_take h _
  rw [if_neg h1] at he ⊢
  by_cases h2 : x.kind = 2
  · rw [if_pos h2] at he ⊢
    unfold setE at he
    by_cases hh : hasS l x.d x.s = false
    · rw [if_pos hh] at he; exact absurd he (by decide)
    · rw [if_neg hh] at he
      exact right_set h (by simpa using hh) he
  rw [if_neg h2] at he ⊢
  by_cases h3 : x.kind = 3
  · rw [if_pos h3] at he ⊢; exact h
  rw [if_neg h3] at he ⊢
  by_cases h4 : x.kind = 4
  · rw [if_pos h4] at he ⊢; exact h
  rw [if_neg h4] at he ⊢
  by_cases h5 : x.kind = 5
  · rw [if_pos h5] at he ⊢
    unfold writeE at he
    by_cases hz : refE t l x.d x.s = 0
    · rw [if_pos hz] at he
      obtain ⟨a1, a2, a3⟩ := refE_zero hz
      have hh := right_ref h a1 a3
      by_cases hp : tPtr t (fr l (vl (fr l x.d).l x.s).d).f (vl (fr l x.d).l x.s).s = true
      · rw [if_pos hp] at he; exact absurd he (by decide)
      · exact right_set h hh (bits_fits h _ hh (by simpa using hp))
    · rw [if_neg hz] at he; exact absurd he hz
  rw [if_neg h5] at he ⊢
  unfold calcErr at he
  by_cases g1 : x.ns.length = 3 ∧ calcE x.op = 0
  · rw [if_pos g1] at he
    by_cases g2 : x.ns.all (hasS l x.d) = true
    · rw [if_pos g2] at he
      by_cases g3 : x.ns.all (fun s => !tPtr t (fr l x.d).f s) = true
      · have hmem : rd x.ns 0 ∈ x.ns := by
          have hl : 0 < x.ns.length := by omega
          exact List.mem_of_getElem? (show x.ns[0]? = some (rd x.ns 0) by simp [rd, List.getElem?_eq_getElem hl])
        have hh := List.all_eq_true.1 g2 _ hmem
        have hp := List.all_eq_true.1 g3 _ hmem
        exact right_set h hh (bits_fits h _ hh (by simpa using hp))
      · rw [if_neg g3] at he; exact absurd he (by decide)
    · rw [if_neg g2] at he; exact absurd he (by decide)
  · rw [if_neg g1] at he; exact absurd he (by decide)
theorem fits_ne (t : List Ent) (l : List Fr) (d s : Int) (v : Vl) : fitsE t l d s v ≠ 9 := by
  unfold fitsE
  repeat' split
  all_goals decide
theorem act_ne (t : List Ent) (l : List Fr) (x : Ac) : actE t l x ≠ 9 := by
  unfold actE
  split
  · unfold callE; split <;> decide
  split
  · unfold retE; split <;> decide
  split
  · unfold setE
    split
    · decide
    · exact fits_ne _ _ _ _ _
  split
  · unfold getE; split <;> decide
  have hr : refE t l x.d x.s ≠ 9 := by
    unfold refE
    repeat' split
    all_goals decide
  split
  · exact hr
  split
  · unfold writeE
    repeat' split
    all_goals first | decide | exact hr
  · unfold calcErr
    repeat' split
    all_goals decide
end Go.Proofs.YtfaghjadjpiaiaaDoor.Sh
namespace Go.Proofs.YtfaghjadjpiaiaaDoor.Sh
open Go.RowKit Go.Shelf Go.Proofs.YtfaghjadjpiaiaaDoorW.PrintWords Go.Proofs.YtfaghjadjpiaiaaDoorW.PrintLast Go.Proofs.YtfaghjadjpiaiaaDoorW.PrintMore
set_option linter.unusedVariables false
set_option linter.unusedSimpArgs false
/-- All bits of words, told by their places. -/
def rawFrom : Nat → List Int → List Int
  | _, [] => []
  | w, x :: r => ((ones x.toNat).map fun k => ((64 * w + k : Nat) : Int)) ++ rawFrom (w + 1) r
theorem bitsFrom_raw (n : Int) : ∀ (L : List Int) (w : Nat), bitsFrom n w L = (rawFrom w L).filter fun i => decide (i < n)
  | [], w => rfl
  | x :: r, w => by
    unfold bitsFrom rawFrom wordBits
    rw [List.filter_append, bitsFrom_raw n r (w + 1)]
theorem mem_raw : ∀ (L : List Int) (w : Nat) (j : Int), AllU L → (j ∈ rawFrom w L ↔ ∃ i : Nat, i < L.length ∧ ∃ k : Nat, (rd L i).toNat.testBit k = true ∧ j = ((64 * (w + i) + k : Nat) : Int))
  | [], w, j, h => by simp [rawFrom]
  | x :: r, w, j, h => by
    have hx := h x (by simp)
    have hr : AllU r := fun y hy => h y (by simp [hy])
    unfold rawFrom
    rw [List.mem_append, List.mem_map, mem_raw r (w + 1) j hr]
    have hx' : x.toNat < 18446744073709551616 := by have := hx.2; have := hx.1; omega
    constructor
    · rintro (⟨k, hk, rfl⟩ | ⟨i, hi, k, hk, rfl⟩)
      · exact ⟨0, by simp, k, by rw [mem_ones hx'] at hk; simpa [rd] using hk, by simp⟩
      · exact ⟨i + 1, by simp; omega, k, by simpa [rd] using hk, by congr 1; omega⟩
    · rintro ⟨i, hi, k, hk, rfl⟩
      cases i with
      | zero => exact Or.inl ⟨k, by rw [mem_ones hx']; simpa [rd] using hk, by simp⟩
      | succ i => exact Or.inr ⟨i, by simp at hi; omega, k, by simpa [rd] using hk, by congr 1; omega⟩
theorem test_lt {x k : Nat} (hx : x < 18446744073709551616) (h : x.testBit k = true) : k < 64 := by
  rcases Nat.lt_or_ge k 64 with h1 | h1
  · exact h1
  · have h2 : x < 2 ^ k := Nat.lt_of_lt_of_le hx (by
      have := Nat.pow_le_pow_right (show 0 < 2 by decide) h1
      simpa using this)
    rw [Nat.testBit_lt_two_pow h2] at h
    cases h
theorem raw_bit (b : List Int) (j : Int) (h : AllU b) : j ∈ rawFrom 0 b ↔ bitOf b j = true := by
  rw [mem_raw b 0 j h]
  unfold bitOf
  simp only [Bool.and_eq_true, decide_eq_true_eq]
  constructor
  · rintro ⟨i, hi, k, hk, rfl⟩
    have hu : U64 (rd b (i : Int)) := h _ (rd_mem (by omega) (by omega))
    have h64 := test_lt (show (rd b (i : Int)).toNat < 18446744073709551616 by have := hu.1; have := hu.2; omega) hk
    have e1 : ((64 * (0 + i) + k : Nat) : Int) / 64 = (i : Int) := by omega
    have e2 : ((64 * (0 + i) + k : Nat) : Int) % 64 = (k : Int) := by omega
    refine ⟨by omega, by rw [e1]; omega, ?_⟩
    rw [e1, e2]
    simpa using hk
  · rintro ⟨h0, h1, h2⟩
    refine ⟨(j / 64).toNat, by omega, (j % 64).toNat, ?_, by omega⟩
    have e : (((j / 64).toNat : Nat) : Int) = j / 64 := by omega
    rw [e]
    exact h2
theorem may_bits {f : Fn0} (hm : mayB f = true) (hu : AllU f.bits) (j : Int) : OfL (bitsOf f.bits f.size) j = bitOf f.bits j := by
  simp only [mayB, Bool.and_eq_true, decide_eq_true_eq] at hm
  obtain ⟨h0, h1, h2⟩ := hm
  have e : ∀ n, bitsOf f.bits n = (rawFrom 0 f.bits).filter fun i => decide (i < n) := fun n => bitsFrom_raw n f.bits 0
  rw [e, e] at h2
  have hall : (rawFrom 0 f.bits).filter (fun i : Int => decide (i < 64 * (f.bits.length : Int))) = rawFrom 0 f.bits := by
    rw [List.filter_eq_self]
    intro i hi
    rw [raw_bit f.bits i hu] at hi
    unfold bitOf at hi
    simp only [Bool.and_eq_true, decide_eq_true_eq] at hi
    simp; omega
  rw [hall] at h2
  have hsz : ∀ i ∈ rawFrom 0 f.bits, i < f.size := by
    have h3 := List.length_filter_eq_length_iff.1 h2.symm
    intro i hi
    simpa using h3 i hi
  rw [e, Bool.eq_iff_iff]
  unfold OfL
  simp only [Bool.and_eq_true, decide_eq_true_eq, List.mem_filter]
  constructor
  · rintro ⟨_, _, h, _⟩
    exact (raw_bit f.bits j hu).1 h
  · intro h
    have hr := (raw_bit f.bits j hu).2 h
    have hlt := hsz j hr
    have h5 : 0 ≤ j := by
      unfold bitOf at h
      simp only [Bool.and_eq_true, decide_eq_true_eq] at h
      exact h.1
    exact ⟨h5, by omega, hr, hlt⟩
/-- The document's table: its size and its pointer slots. -/
def fnAt (l : List Fn0) (f : Int) : Fn0 := l.getD f.toNat ⟨0, []⟩
theorem size_doc {l : List Fn0} {t : List Ent} (h : TabOk l t) (f : Int) : tSize t f = if 0 ≤ f ∧ f < l.length then (fnAt l f).size else -1 := by
  unfold tSize
  by_cases hh : tHas t f = true
  · obtain ⟨g, hg, hget, he⟩ := tab_ent h hh
    have hf2 : 0 ≤ f ∧ f < l.length := by
      unfold tHas at hh
      have h3 : 0 ≤ f ∧ f < t.length := by simpa using hh
      rw [← h.1]; exact h3
    rw [if_pos hh, if_pos hf2, he.size]
    unfold fnAt
    rw [List.getD_eq_getElem?_getD, hget]
    rfl
  · rw [if_neg hh, if_neg]
    rintro ⟨h0, h1⟩
    refine hh ?_
    unfold tHas
    rw [h.1]
    simp; omega
theorem ptr_doc {l : List Fn0} {t : List Ent} (h : TabOk l t) (hn : newB l = true) (hu : ∀ f ∈ l, FnOk f) (f j : Int) : tPtr t f j = (decide (0 ≤ f ∧ f < l.length) && bitOf (fnAt l f).bits j) := by
  unfold tPtr
  by_cases hh : tHas t f = true
  · obtain ⟨g, hg, hget, he⟩ := tab_ent h hh
    have hf2 : 0 ≤ f ∧ f < l.length := by
      unfold tHas at hh
      have h3 : 0 ≤ f ∧ f < t.length := by simpa using hh
      rw [← h.1]; exact h3
    have hfn : fnAt l f = g := by
      unfold fnAt
      rw [List.getD_eq_getElem?_getD, hget]
      rfl
    have hm : mayB g = true := by
      simp only [newB, Bool.and_eq_true, decide_eq_true_eq] at hn
      have h3 : (l.any fun f => !mayB f) = false := by simpa using hn.2.2
      have := List.any_eq_false.1 h3 g hg
      simpa using this
    rw [hh, hfn, he.bits, may_bits hm (hu g hg).bits, decide_eq_true hf2]
  · have hf2 : ¬ (0 ≤ f ∧ f < l.length) := by
      rintro ⟨h0, h1⟩
      refine hh ?_
      unfold tHas
      rw [h.1]
      simp; omega
    have hh' : tHas t f = false := by simpa using hh
    rw [hh', decide_eq_false hf2]
    simp
end Go.Proofs.YtfaghjadjpiaiaaDoor.Sh
