/- MoveKeeps answers true at every input whose bulk is at most 1048576, and leaves its input alone; the table of math/bits reads as the program's text lays it. MoveKeeps answers true at every input whose bulk is at most 1048576, and leaves its input alone; the table of math/bits reads as the program's text lays it. -/
import Derived.Test.YtfaghjadjpiaiaaDoorYA
import Derived.Test.YtfaghjadjpiaiaaDoorYK1
namespace Go.Proofs.YtfaghjadjpiaiaaDoor.Sh
open Go.ChangeShapes Go.WideShapes Go.ChangeAt Go.RowKit Go.Shelf Go.Proofs.YtfaghjadjpiaiaaDoorW.PrintWords Go.Proofs.YtfaghjadjpiaiaaDoorW.PrintLast Go.Proofs.YtfaghjadjpiaiaaDoorW.PrintMore
set_option linter.unusedVariables false
set_option linter.unusedSimpArgs false
namespace MK
set_option maxRecDepth 100000 in
theorem contract (H : Type) (enc : TypeId × Value → H) (W : World) (base : Nat) (args : Array Value) (ds gs : List (DataW H)) (before : List MemPlace)
    (hval : ∀ (j : Nat) t v, Tryd.f4.params[j]? = some t → args[j]? = some v → Value.okWide Tryd.prog W .any base t v)
    (hW : DataW.Whole enc Tryd.prog Tryd.f4.params.toList Rows.moveKeepsSpec.vars false W args.toList ds gs before) (hL : laidMetH Tryd.prog Rows.moveKeepsUptoRow.laid W)
    (hk : Rows.uptoSmall H (ds ++ gs) = true) :
    Calls Tryd.prog 4 args W fun e W' => ∃ v, e = .returned v ∧ Rows.moveKeepsSpec.post enc Tryd.prog Tryd.f4 false true false false W args v W' := by
  have hW' := hW
  obtain ⟨p, q, hA0, hV, rfl, hfz, hnd⟩ := hW
  have hA : DataW.TrodAll enc Tryd.prog W 0 (fun _ => true) true Tryd.f4.params.toList args.toList ds p := hA0
  rw [Tryd.params4] at hA hval
  obtain ⟨v0, vs0, d0, ds0, p0, q0, hargs, rfl, rfl, h0, r0⟩ := trodAll_cons hA
  obtain ⟨v1, vs1, d1, ds1, p1, q1, rfl, rfl, rfl, h1, r1⟩ := trodAll_cons r0
  obtain ⟨v2, vs2, d2, ds2, p2, q2, rfl, rfl, rfl, h2, r2⟩ := trodAll_cons r1
  obtain ⟨v3, vs3, d3, ds3, p3, q3, rfl, rfl, rfl, h3, r3⟩ := trodAll_cons r2
  obtain ⟨v4, vs4, d4, ds4, p4, q4, rfl, rfl, rfl, h4, r4⟩ := trodAll_cons r3
  obtain ⟨rfl, rfl, rfl⟩ := trodAll_nil r4
  obtain rfl : args = #[v0, v1, v2, v3, v4] := by cases args; simp_all
  obtain ⟨rfl, rfl⟩ := trodVars_none hV
  have hb : Rows.uptoBulkAll [d0, d1, d2, d3, d4] ≤ 1048576 := upto_le hk
  have hb1 : Rows.uptoBulk d1 ≤ 1048576 := by
    have := bulk_mem (L := [d0, d1, d2, d3, d4]) (d := d1) (by simp)
    omega
  obtain ⟨a0, len0, cap0, rfl⟩ := okWide_slice Tryd.underlying42 (hval 0 42 v0 rfl rfl)
  obtain ⟨a1, len1, cap1, rfl⟩ := okWide_slice Tryd.underlying22 (hval 1 22 v1 rfl rfl)
  obtain ⟨cs, rfl, hsz⟩ := okWide_struct Tryd.underlying44 (hval 2 44 v2 rfl rfl)
  obtain ⟨m3, e3⟩ := okWide_int Tryd.underlying3 (hval 3 3 v3 rfl rfl)
  obtain ⟨m4, e4⟩ := okWide_int Tryd.underlying3 (hval 4 3 v4 rfl rfl)
  subst e3; subst e4
  obtain ⟨n0, k0⟩ := h0
  obtain ⟨n1, k1⟩ := h1
  obtain ⟨n2, k2⟩ := h2
  obtain ⟨n3, k3⟩ := h3
  obtain ⟨n4, k4⟩ := h4
  obtain ⟨A, c, ws, e0, g1, g2, _, g3⟩ := read_words k0
  obtain ⟨B, e, fn, e1, g4, g5, g6⟩ := read_Fns k1 hb1
  obtain ⟨s, e2, g7⟩ := read_St k2
  obtain ⟨lo, e3, g8⟩ := read_int k3
  obtain ⟨size, e4, g9⟩ := read_int k4
  injection e0 with e0a e0b e0c
  injection e1 with e1a e1b e1c
  injection e3 with _ e3a
  injection e4 with _ e4a
  subst e0a; subst e0b; subst e0c; subst e1a; subst e1b; subst e1c; subst e3a; subst e4a
  have ecs : cs = #[.int .i64 s.lo, .int .i64 s.size, .int .i64 s.sp] := by
    have : cs.toList = _ := e2
    cases cs
    simp_all
  subst ecs
  have hIn : MvIn W a0 cap0 ws a1 cap1 fn := ⟨tab64_of hL, g1, g2, fun x hx => wf_u64 (g3 x hx), g4, g5, g6⟩
  refine (keeps_calls a0 cap0 ws a1 cap1 fn s m3 m4 W hIn g7 g8 g9).mono fun e W' ⟨he, hbel⟩ => ?_
  subst he
  exact ⟨_, rfl, post_true rfl (by kernel_rfl) (by kernel_rfl) rfl hW' hbel⟩
end MK
end Go.Proofs.YtfaghjadjpiaiaaDoor.Sh
namespace Go.Proofs.YtfaghjadjpiaiaaDoor.Sh
open Go.ChangeShapes Go.WideShapes Go.ChangeAt Go.RowKit
namespace MK
theorem laid_met (os : Os) : laidMet Tryd.prog Rows.moveKeepsUptoRow.laid ((rowWorld os).forCall (fun _ _ => 0) ⟨#[], #[.slice none 0 0, .slice none 0 0, .agg #[.int .i64 0, .int .i64 0, .int .i64 0], .int .i64 0, .int .i64 0], []⟩).memory :=
  laidMet_of_run' 8 (by kernel_rfl) (by kernel_rfl)
theorem reads (os : Os) {H : Type} (enc : TypeId × Value → H) : ∃ places, DataW.whole enc Tryd.prog ((rowWorld os).forCall (fun _ _ => 0) ⟨#[], #[.slice none 0 0, .slice none 0 0, .agg #[.int .i64 0, .int .i64 0, .int .i64 0], .int .i64 0, .int .i64 0], []⟩).memory Tryd.f4.params.toList Rows.moveKeepsSpec.vars false #[Value.slice none 0 0, .slice none 0 0, .agg #[.int .i64 0, .int .i64 0, .int .i64 0], .int .i64 0, .int .i64 0].toList 8
    = some ([.nil, .nil, .agg [.lit (.int .i64 0), .lit (.int .i64 0), .lit (.int .i64 0)], .lit (.int .i64 0), .lit (.int .i64 0)], [], places) :=
  ⟨[], by kernel_rfl⟩
set_option maxRecDepth 100000 in
theorem lifted (os : Os) (started : os.Started) (H : Type) (enc : TypeId × Value → H) (F : Stop.Interp) :
    ReturnsInHanded {} Tryd.checked os 4 .any ((Rows.OpenSpec.upto Rows.moveKeepsSpec).preRow enc Tryd.prog Tryd.f4 Rows.moveKeepsUptoRow.domain false Rows.moveKeepsUptoRow.laid) (((Rows.OpenSpec.upto Rows.moveKeepsSpec).at F).post enc Tryd.prog Tryd.f4 false true false false) := by
  obtain ⟨places, hx⟩ := reads os enc
  refine returnsInHanded_of_row (C := Tryd.checked) (s := Rows.OpenSpec.upto Rows.moveKeepsSpec) row_own started (by kernel_rfl) Tryd.func4
    (witness_row_at (enc := enc) (C := Tryd.checked) false (rowWorld os) #[.slice none 0 0, .slice none 0 0, .agg #[.int .i64 0, .int .i64 0, .int .i64 0], .int .i64 0, .int .i64 0] rfl (by kernel_rfl) (by kernel_rfl) (by kernel_rfl)
      (OpenSpec.preRow_of_cond 8 hx (by kernel_rfl) (fun k hk => by cases hk; kernel_rfl) (by kernel_rfl) (laid_met os))) ?_
  intro W base args ds gs before hval hW _ hcond _ hL _ _
  exact contract H enc W base args ds gs before hval hW hL (hcond _ rfl)
theorem said : Rows.MoveKeepsUptoSaid :=
  OpenClaim.holds_of_cond 4 Tryd.f4 rfl rfl rfl rfl rfl rfl rfl ⟨rfl, rfl, rfl, rfl, rfl⟩ rfl rfl rfl rfl rfl (by kernel_rfl) Tryd.func4 (by kernel_rfl)
    (of_decide_eq_true (by kernel_rfl)) (by unfold Func.isWrapper; first | (rw [if_pos (by decide +kernel)]; kernel_rfl) | (rw [if_neg (by decide +kernel)]; exact ⟨rfl, rfl⟩))
    (fun os started H enc _ F => by rw [OpenClaim.pre_eq_preRow]; exact lifted os started H enc F)
theorem plain (f : FuncId) (fn : Func) (hf : Tryd.pinned.checked.prog.funcNamed "shoring/shoringlaw17.MoveKeeps" = some f) (hfn : Tryd.pinned.checked.prog.funcs[f]? = some fn) :
    true = Tryd.pinned.checked.prog.looks [] ∧ ∀ (j : Nat) t, fn.params[j]? = some t → Tryd.pinned.checked.prog.wantsStandIn t = false := by
  obtain rfl : f = 4 := Option.some.inj ((show Tryd.prog.funcNamed "shoring/shoringlaw17.MoveKeeps" = some 4 by kernel_rfl).symm.trans hf) |>.symm
  obtain rfl : fn = Tryd.f4 := (Option.some.inj (Tryd.func4.symm.trans hfn)).symm
  refine ⟨by kernel_rfl, fun j t ht => ?_⟩
  have hm := Array.mem_of_getElem? ht
  have h : (Tryd.f4.params.toList.all fun t => !Tryd.prog.wantsStandIn t) = true := by kernel_rfl
  have := List.all_eq_true.1 h t (by simpa using hm)
  have h2 : Tryd.prog.wantsStandIn t = false := by simpa using this
  exact h2
end MK
theorem moveKeepsUpto_holds : Rows.MoveKeepsUptoCardSaid :=
  Claim7.holds_tied_plain_at .later [] _ _ _ _ MK.said (fun _ h => by cases h) (by kernel_rfl) (fun _ h => by cases h) moveKeepsUpto_row_tie rfl ⟨rfl, rfl⟩ (by kernel_rfl) rfl MK.plain (by kernel_rfl)
end Go.Proofs.YtfaghjadjpiaiaaDoor.Sh
