/- A part of the proof that SuperstableBelow answers true (text 12 of 12): own walks and plain laws; no conditions. -/
import Derived.Below
import Derived.ChangeOld
import Derived.Lib.SmallJoins
import Derived.OpenShut
import Derived.ProofKit
import Derived.ShutString
import Derived.SizedLaws
import Derived.Test.YtffdiakgjakngaaChecked
import Derived.Test.YtffdiakgjakngaaRows
import Derived.WalkKit
import Derived.Test.YtffdiakgjakngaaBelow11
namespace Go.Proofs.Ytffdiakgjakngaa.P
open Go.ChangeShapes Go.WideShapes Go.ChangeAt Go.RowKit Go.Deep Go.Joins
open Go.Proofs.YtffdiakgjakngaaW.PrintWords Go.Proofs.YtffdiakgjakngaaW.PrintLast Go.Proofs.YtffdiakgjakngaaW.PrintMore
set_option linter.unusedVariables false
set_option linter.unusedSimpArgs false
set_option maxHeartbeats 8000000
set_option maxRecDepth 100000
section
set_option maxRecDepth 100000
section
variable {H : Type} {enc : TypeId × Value → H} {W : World} {base : Nat} {spare : Nat → Bool} {held : Bool}
instance : Inhabited S66 := ⟨⟨0, 0, 0⟩⟩
theorem open_edge {n : Nat} {cs : List Value} {x : DataW H × List MemPlace} (h : DataW.trod enc Try.prog W base spare held n 66 cs = some x) :
  ∃ e : S66, cs = [.int .i64 e.f0, .int .i64 e.f1, .int .i64 e.f2] := by
 obtain ⟨y0, y1, y2, m, _, hl, h0, h1, h2⟩ := trod_struct3 Try.underlying66 h
 have hl3 : cs.length = 3 := hl.trans (by kernel_rfl)
 match cs, hl3 with
 | [u, v, t], _ =>
  obtain ⟨a, ha, _⟩ := DataW.trod_int Try.underlying3 (by simpa using h0)
  obtain ⟨b, hb, _⟩ := DataW.trod_int Try.underlying3 (by simpa using h1)
  obtain ⟨c, hc, _⟩ := DataW.trod_int Try.underlying3 (by simpa using h2)
  have h1c : Try.prog.cellsOf 3 = 1 := by kernel_rfl
  rw [h1c] at ha hb hc
  simp only [List.take_succ_cons, List.take_zero, List.cons.injEq, and_true] at ha hb hc
  exact ⟨⟨a, b, c⟩, by rw [ha, hb, hc]⟩
theorem open_edges {n : Nat} {v : Value} {y : DataW H × List MemPlace} (h : DataW.trod enc Try.prog W base spare held n 22 [v] = some y) :
  ∃ (A : Option Addr) (c : Nat) (l : List S66), v = .slice A l.length c ∧ Kd.C k66 W A l.length l ∧ l.length ≤ c := by
 rcases open_slice Try.underlying22 h with ⟨hcs, _⟩ | ⟨a, len, cap, m, n', D, Pl, hcs, _, hl, hm, hmm, _, hx⟩
 ·simp at hcs
  exact ⟨none, 0, [], hcs, ⟨rfl, by decide, fun h => absurd h (by decide)⟩, Nat.le_refl _⟩
 ·have hlm : len ≤ m := by rw [hmm]; split <;> omega
  have hc3 : Try.prog.cellsOf 66 = 3 := by kernel_rfl
  have each : ∀ i, i < len → ∃ e : S66, W.cells? base (a.add (i * 3)) 3 = some [.int .i64 e.f0, .int .i64 e.f1, .int .i64 e.f2] := fun i hi => by
   obtain ⟨cs', h1, h2⟩ := hx i (by omega)
   rw [hc3] at h1
   obtain ⟨e, rfl⟩ := open_edge h2
   exact ⟨e, h1⟩
  obtain ⟨f, hf⟩ := choose_lt each
  simp at hcs
  subst hcs
  refine ⟨some a, cap, (List.range len).map f, by simp, ⟨by simp, by simp only [List.length_map, List.length_range]; unfold maxLen at hm; omega, fun _ => ⟨a, rfl, fun j p hj => ?_⟩⟩, by simpa using hl⟩
  have hjl : j < len := by
   have := List.getElem?_eq_some_iff.1 hj
   obtain ⟨h, _⟩ := this
   simpa using h
  have hp : f j = p := by simpa [hjl] using hj
  subst hp
  refine ⟨[.int .i64 (f j).f0, .int .i64 (f j).f1, .int .i64 (f j).f2], rfl, k66_mk W (f j), fun i u hi => ?_⟩
  obtain ⟨_, _, hcell⟩ := World.cells?_some (hf j hjl)
  have hi3 : i < 3 := by
   obtain ⟨h, _⟩ := List.getElem?_eq_some_iff.1 hi
   simpa using h
  have := hcell i hi3
  rw [Deep.add_add] at this
  exact this.trans hi
theorem open_graph {r : Reach} {b0 : Nat} {v : Value} {d : DataW H} {p : List MemPlace} (hv : Value.okWide Try.prog W r b0 24 v) (h : DataW.Trod enc Try.prog W base spare held 24 v d p) :
  ∃ (N : Int) (A : Option Addr) (c : Nat) (l : List S66), v = .agg #[.int .i64 N, .slice A l.length c] ∧ Kd.C k66 W A l.length l ∧ l.length ≤ c := by
 obtain ⟨v0, v1, y0, y1, n, rfl, _, _, h0, h1⟩ := open_agg2 Try.underlying24 (by kernel_rfl) (by kernel_rfl) hv h
 obtain ⟨N, hN, _⟩ := DataW.trod_int Try.underlying3 h0
 simp at hN
 subst hN
 obtain ⟨A, c, l, rfl, hC, hl⟩ := open_edges h1
 exact ⟨N, A, c, l, rfl, hC, hl⟩
end
end
end Go.Proofs.Ytffdiakgjakngaa.P
namespace Go.Proofs.Ytffdiakgjakngaa.superstableBelow
open Go.ChangeShapes Go.WideShapes Go.ChangeAt Go.RowKit Go.Proofs.Ytffdiakgjakngaa.P
set_option linter.unusedVariables false
theorem own : ownKnob Try.prog.godebug = none := by kernel_rfl
theorem laidOut : laidOutB Try.prog = true := by kernel_rfl
set_option maxRecDepth 100000 in
theorem lifted (os : Os) (started : os.Started) (H : Type) (enc : TypeId × Value → H) :
    ReturnsInHanded {} Try.checked os 8 .any (Rows.superstableBelowSpec.pre6 enc Try.prog Try.f8 Rows.superstableBelowRow.domain false) (Rows.superstableBelowSpec.post enc Try.prog Try.f8 false true false false) := by
  refine returnsInHanded_of_change_sized (C := Try.checked) own started (by kernel_rfl) Try.func8
    (ChangeSpec.witness6 (enc := enc) (C := Try.checked) false ⟨#[], #[.agg #[.int .i64 0, .slice none 0 0], .int .i64 0], []⟩ 8 (by kernel_rfl) (by kernel_rfl) (by kernel_rfl) (by kernel_rfl)) ?_
  intro W base args ds gs before hval0 hW hcnd hsz0 _
  have hval : ∀ (j : Nat) t v, Try.f8.params[j]? = some t → args[j]? = some v → Value.okWide Try.prog W .any base t v := hval0
  have hW' := hW
  obtain ⟨p, q, hA0, hV, rfl, hfz, hnd⟩ := hW
  have hA : DataW.TrodAll enc Try.prog W 0 (fun _ => true) true Try.f8.params.toList args.toList ds p := hA0
  rw [Try.params8] at hA hval
  obtain ⟨v0, vs0, d0, ds0, p0, q0, hargs, rfl, rfl, h0, r0⟩ := trodAll_cons hA
  obtain ⟨v1, vs1, d1, ds1, p1, q1, rfl, rfl, rfl, h1, r1⟩ := trodAll_cons r0
  obtain ⟨rfl, rfl, rfl⟩ := trodAll_nil r1
  obtain rfl : args = #[v0, v1] := by cases args; simp_all
  obtain ⟨rfl, rfl⟩ := trodVars_none hV
  have k0 := h0
  have lt0 : ∀ x ∈ p0, x.block < W.heap.size := by obtain ⟨m, hm⟩ := k0; exact DataW.trod_lt m _ _ _ hm
  obtain ⟨N, A, c, l, rfl, hC, hl⟩ := open_graph (hval 0 24 v0 rfl rfl) h0
  obtain ⟨q, rfl, rfl, rfl, hq⟩ := open_int Try.underlying3 (hval 1 3 v1 rfl rfl) h1
  clear hA0 hval0 hsz0
  refine (below_calls N A c l q W hC hl).mono fun e W' ⟨he, bel⟩ => ?_
  subst he
  exact ⟨_, rfl, _, _, _, [], _, [], hW', trodAll_mk1 (shut_bool Try.underlying4 _), (trodAll_cons_mk (Below.trod laidOut (by kernel_rfl) (of_decide_eq_true (by kernel_rfl)) k0 bel lt0) (trodAll_cons_mk (Below.trod laidOut (by kernel_rfl) (of_decide_eq_true (by kernel_rfl)) h1 bel (by simp)) trodAll_mk0)), rfl, bel.frame _, fun h => by cases h⟩
theorem over : Rows.superstableBelowRow.holds Try.pinned (OpenSpec.ofChange Rows.superstableBelowSpec) :=
  OpenClaim.holds_of_wide 8 Try.f8 rfl rfl rfl rfl rfl rfl rfl ⟨rfl, rfl, rfl, rfl, rfl⟩ rfl rfl rfl rfl rfl (by kernel_rfl) Try.func8 (by kernel_rfl)
    (of_decide_eq_true (by kernel_rfl)) (by unfold Func.isWrapper; first | (rw [if_pos (by decide +kernel)]; kernel_rfl) | (rw [if_neg (by decide +kernel)]; exact ⟨rfl, rfl⟩))
    (fun os started H enc _ => lifted os started H enc)
theorem proved : Rows.SuperstableBelowSaid := over
#print axioms proved
end Go.Proofs.Ytffdiakgjakngaa.superstableBelow
namespace Go.Proofs.Ytffdiakgjakngaa
theorem superstableBelow_holds : Rows.SuperstableBelowSaid := superstableBelow.proved
end Go.Proofs.Ytffdiakgjakngaa
