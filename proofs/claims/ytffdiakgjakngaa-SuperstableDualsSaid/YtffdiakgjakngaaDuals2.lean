/- A part of the proof that SuperstableDuals answers true (text 2 of 15): own walks and plain laws; no conditions. -/
import Derived.ArgAppend
import Derived.Below
import Derived.BigQuiet
import Derived.Deep.AppendLies
import Derived.Deep.CutBlock
import Derived.Deep.DeepCutAuto
import Derived.Deep.Draws
import Derived.Deep.LoopGhost
import Derived.Deep.OwnRows
import Derived.Deep.QuietTactic
import Derived.Deep.RegionHeld3
import Derived.KernelRfl
import Derived.Laws.BitsLemmas
import Derived.Laws.BytesArg
import Derived.Laws.IdiomCopy
import Derived.Laws.MakeOwn
import Derived.Laws.OwnMore
import Derived.Laws.Rows
import Derived.Laws.Slices
import Derived.Lib.AppendStr
import Derived.Lib.ConvBytes
import Derived.Maps.AppendAt
import Derived.OrdersHeld
import Derived.OwnWalk
import Derived.RowKit
import Derived.RowKit3
import Derived.Tactics
import Derived.Test.YtffdiakgjakngaaProg
import Derived.WalkKit
import Derived.WideLaws
import Derived.Test.YtffdiakgjakngaaDuals1
namespace Go.Proofs.Ytffdiakgjakngaa.P
open Go.RowKit Go.Proofs.YtffdiakgjakngaaW.PrintWords Go.Proofs.YtffdiakgjakngaaW.PrintLast Go.Proofs.YtffdiakgjakngaaW.PrintMore
set_option linter.unusedVariables false
set_option linter.unusedSimpArgs false
set_option maxHeartbeats 8000000
set_option maxRecDepth 100000
section
section
variable {w W W0 W' : World}
theorem zB (h : Below w.heap.size w W := by repeat (first | (with_reducible first | exact Aside0.out (by assumption) | apply below_alloc | apply pw_below_drewN | apply below_drew1 | refine below_set ?_ (Aside0.out (by assumption))) | exact Aside0.out (by assumption))) : Below w.heap.size w W := h
theorem zS (HB : Aside0 (Below w.heap.size w W0)) (hb : Below W.heap.size W W') (h : Below w.heap.size w W := by repeat (first | (with_reducible first | exact Aside0.out (by assumption) | apply below_alloc | apply pw_below_drewN | apply below_drew1 | refine below_set ?_ (Aside0.out (by assumption))) | exact Aside0.out (by assumption))) : Aside0 (Below w.heap.size w W') := ⟨below_step h hb⟩
theorem zG {g : Nat} (HB : Aside0 (Below w.heap.size w W0)) (hg : g = W.heap.size) (h : Below w.heap.size w W := by repeat (first | (with_reducible first | exact Aside0.out (by assumption) | apply below_alloc | apply pw_below_drewN | apply below_drew1 | refine below_set ?_ (Aside0.out (by assumption))) | exact Aside0.out (by assumption))) : Aside0 (w.heap.size ≤ g) := ⟨by rw [hg]; exact below_size h⟩
theorem zK {g : Nat} {o : Obj} (h : Aside0 (W0.heap[g]? = some o)) (c : W0.heap[g]? = some o → W.heap[g]? = some o := by intro h; (with_reducible repeat (first | refine blk_drewN ?_ _ | refine blk_drew ?_ | refine blk_alloc ?_ _)); exact h) : W.heap[g]? = some o := c h.out
theorem zk {g : Nat} {o : Obj} (h : W0.heap[g]? = some o) (c : W0.heap[g]? = some o → W.heap[g]? = some o := by intro h; (with_reducible repeat (first | refine blk_drewN ?_ _ | refine blk_drew ?_ | refine blk_alloc ?_ _)); exact h) : W.heap[g]? = some o := c h
theorem zb {g : Nat} {o : Obj} (h : Aside0 (W0.heap[g]? = some o)) (hb : Below W.heap.size W W') (c : W0.heap[g]? = some o → W.heap[g]? = some o := by intro h; (with_reducible repeat (first | refine blk_drewN ?_ _ | refine blk_drew ?_ | refine blk_alloc ?_ _)); exact h) : Aside0 (W'.heap[g]? = some o) := ⟨blk_below (c h.out) hb⟩
section
variable {α : Type} {d : Kd α} {e base : Nat} {ok : Nat → Prop} {v : Value} {xs : List α} {A : Option Addr} {n : Nat}
theorem zR (h : Aside0 (d.R e W0 base ok v xs)) (c : d.R e W0 base ok v xs → d.R e W base ok v xs := by intro h; (with_reducible repeat (first | apply Kd.R_alloc | apply Kd.R_drewN | apply Kd.R_drew)); exact h) : d.R e W base ok v xs := c h.out
theorem zN (h : Aside0 (d.N e W0 base ok v xs)) (c : d.N e W0 base ok v xs → d.N e W base ok v xs := by intro h; (with_reducible repeat (first | apply Kd.N_alloc | apply Kd.N_drewN | apply Kd.N_drew)); exact h) : d.N e W base ok v xs := c h.out
theorem zbR (h : Aside0 (d.R e W0 base ok v xs)) (hb : Below W.heap.size W W') (c : d.R e W0 base ok v xs → d.R e W base ok v xs := by intro h; (with_reducible repeat (first | apply Kd.R_alloc | apply Kd.R_drewN | apply Kd.R_drew)); exact h) : Aside0 (d.R e W' base ok v xs) := ⟨Kd.R_below (c h.out) hb⟩
section
variable {β : Type} {d2 : Kd β} {e2 : Nat} {ok2 : Nat → Prop} {u : Value} {ys : List β} {w2 : World}
theorem zeRR (h : Aside0 (d.R e W0 base ok v xs)) (hb : d2.R e2 w2 W.heap.size ok2 u ys) (hB : Below W.heap.size W W') (c : d.R e W0 base ok v xs → d.R e W base ok v xs := by intro h; (with_reducible repeat (first | apply Kd.R_alloc | apply Kd.R_drewN | apply Kd.R_drew)); exact h) : Aside0 (d.R e W' base (fun k => ok k ∧ some k ≠ u.ownBlock) v xs) := ⟨Kd.R_elder' (c h.out) (Kd.R_base hb) hB⟩
theorem zeNR (h : Aside0 (d.N e W0 base ok v xs)) (hb : d2.R e2 w2 W.heap.size ok2 u ys) (hB : Below W.heap.size W W') (c : d.N e W0 base ok v xs → d.N e W base ok v xs := by intro h; (with_reducible repeat (first | apply Kd.N_alloc | apply Kd.N_drewN | apply Kd.N_drew)); exact h) : Aside0 (d.N e W' base (fun k => ok k ∧ some k ≠ u.ownBlock) v xs) := ⟨Kd.N_elder' (c h.out) (Kd.R_base hb) hB⟩
theorem zeNN (h : Aside0 (d.N e W0 base ok v xs)) (hb : d2.N e2 w2 W.heap.size ok2 u ys) (hB : Below W.heap.size W W') (c : d.N e W0 base ok v xs → d.N e W base ok v xs := by intro h; (with_reducible repeat (first | apply Kd.N_alloc | apply Kd.N_drewN | apply Kd.N_drew)); exact h) : Aside0 (d.N e W' base (fun k => ok k ∧ some k ≠ u.ownBlock) v xs) := ⟨Kd.N_elder' (c h.out) (Kd.N_base hb) hB⟩
end
theorem zC (h : d.C W0 A n xs) (c : d.C W0 A n xs → d.C W A n xs := by intro h; repeat (first | exact h | (with_reducible refine Kd.C_alloc ?_ _) | (with_reducible refine Kd.C_drewN ?_ _) | (with_reducible refine Kd.C_drew ?_))) : d.C W A n xs := c h
end
section
variable {g : Nat} {a b c : Value} {l : List Value} {t : TypeId}
theorem z0 (h : Aside0 (W.heap[g]? = some (.cells (List.toArray (a :: l)) t (0, 0)))) : W.cell? ⟨g, 0, none⟩ = some a := (blk_cell h.out 0).trans rfl
theorem z1 (h : Aside0 (W.heap[g]? = some (.cells (List.toArray (a :: b :: l)) t (0, 0)))) : W.cell? ⟨g, 1, none⟩ = some b := (blk_cell h.out 1).trans rfl
theorem z2 (h : Aside0 (W.heap[g]? = some (.cells (List.toArray (a :: b :: c :: l)) t (0, 0)))) : W.cell? ⟨g, 2, none⟩ = some c := (blk_cell h.out 2).trans rfl
theorem zD2 (h : Aside0 (W.heap[g]? = some (.cells #[a, b] t (0, 0)))) : W.cell? ⟨g, 0, none⟩ = some a ∧ W.cell? ⟨g, 1, none⟩ = some b ∧ W.frozen? ⟨g, 0, none⟩ = false ∧ W.frozen? ⟨g, 1, none⟩ = false := ⟨z0 h, z1 h, blk_frozen h.out 0, blk_frozen h.out 1⟩
theorem zD3 (h : Aside0 (W.heap[g]? = some (.cells #[a, b, c] t (0, 0)))) : W.cell? ⟨g, 0, none⟩ = some a ∧ W.cell? ⟨g, 1, none⟩ = some b ∧ W.cell? ⟨g, 2, none⟩ = some c ∧ W.frozen? ⟨g, 0, none⟩ = false ∧ W.frozen? ⟨g, 1, none⟩ = false ∧ W.frozen? ⟨g, 2, none⟩ = false := ⟨z0 h, z1 h, z2 h, blk_frozen h.out 0, blk_frozen h.out 1, blk_frozen h.out 2⟩
end
end
theorem zE {p : Prop} (h : p := by first | rfl | (simp [errW_none, errW_some] <;> rfl) | (simp [*, errW_none, errW_some] <;> rfl)) : p := h
theorem zT {p : Prop} (h : p := by first | rfl | (simp; done) | (simp [*]; done)) : p := h
section
variable {P : Program} {ops : Array Oper} {Q : Exit → Act → World → Prop}
theorem zL {rest : List Oper} {oi : Oper} {a : Act} {w : World} {f : FuncId} {fn : Func} {aa : Array Operand} {ts : Array TypeId} (N : Option Tmp) (hf : P.funcs[f]? = some fn) (args : Array Value)
  (h : Calls P f args w fun e w' => ∃ v, e = .returned v ∧ wpList P ops Q rest (a.put N v) w') (hd : oi.dst = N := by exact rfl) (hg : oi.guard = none := by exact rfl) (hname : (fn.name == "runtime.NumGoroutine") = false := by kernel_rfl) (hb : fn.body.isSome = true := by exact rfl)
  (hop : oi.op = .call { callee := .value (.func f), args := aa, argTypes := ts } := by exact rfl) (hargs : aa.map a.eval = args := by (try simp only [List.map_toArray, List.map_cons, List.map_nil]); first | done | rfl | (simp only [List.length_drop, List.length_take]; rfl)) : wpList P ops Q (oi :: rest) a w :=
 goesL_ N hd hg hf hname hb args hop hargs h
theorem zX {rest : List Oper} {o : Oper} {a : Act} {W : World} (N : Tmp) (cs : Array Value) (t : TypeId)
  (h : ∀ g, g = W.heap.size → ∀ w1, w1.heap[g]? = some (.cells cs t (0, 0)) → Below W.heap.size W w1 → wpList P ops Q rest (a.put o.dst (.pointer (some ⟨g, 0, none⟩))) w1) (hg : o.guard = none := by exact rfl) (hd : o.dst = some N := by exact rfl)
  (hr : (execOp a.eval o).run P W = .ok (.value (.pointer (some ⟨W.heap.size, 0, none⟩))) (W.alloc (.cells cs t (0, 0))) := by first | (go_simp; done) | (go_simp; rfl)) : wpList P ops Q (o :: rest) a W := box_event hg hd hr h
end
end
def errW : Option Int → Value
 | none => .nilIface
 | some c => .iface 0 (.int .i64 c)
theorem errW_none : errW none = .nilIface := rfl
theorem errW_some (c : Int) : errW (some c) = .iface 0 (.int .i64 c) := rfl
theorem info3 : (Try.prog.info? 3).map (fun i => (i.zero, i.size, i.bytes)) = some (some (.int .i64 0), 1, 8) := by kernel_rfl
theorem info4 : (Try.prog.info? 4).map (fun i => (i.zero, i.size, i.bytes)) = some (some (.bool false), 1, 1) := by kernel_rfl
theorem info33 : (Try.prog.info? 33).map (fun i => (i.zero, i.size, i.bytes)) = some (some (.slice none 0 0), 1, 24) := by kernel_rfl
theorem info42 : (Try.prog.info? 42).map (fun i => (i.zero, i.size, i.bytes)) = some (some (.slice none 0 0), 1, 24) := by kernel_rfl
structure S66 where
 f0 : Int
 f1 : Int
 f2 : Int
def z66 : S66 := ⟨(0 : Int), (0 : Int), (0 : Int)⟩
def k66 : Kd S66 := Kd.iso (Kd.pair (Kd.int .i64) (Kd.pair (Kd.int .i64) (Kd.int .i64))) (fun x : S66 => (x.f0, x.f1, x.f2))
theorem k66_open {w : World} {x : S66} {cs : List Value} (h : k66.K w x cs) : cs = [.int .i64 x.f0, .int .i64 x.f1, .int .i64 x.f2] := by
 obtain ⟨_, _, rfl, rfl, ⟨_, _, rfl, rfl, rfl⟩⟩ := h
 exact rfl
theorem k66_mk (w : World) (x : S66)  : k66.K w x [.int .i64 x.f0, .int .i64 x.f1, .int .i64 x.f2] := ⟨[.int .i64 x.f0], [.int .i64 x.f1, .int .i64 x.f2], rfl, rfl, ⟨[.int .i64 x.f1], [.int .i64 x.f2], rfl, rfl, rfl⟩⟩
theorem k66_mkM (w : World) (base : Nat) (ok : Nat → Prop) (x : S66)  : k66.M w base ok x [.int .i64 x.f0, .int .i64 x.f1, .int .i64 x.f2] := ⟨[.int .i64 x.f0], [.int .i64 x.f1, .int .i64 x.f2], rfl, rfl, ⟨[.int .i64 x.f1], [.int .i64 x.f2], rfl, rfl, rfl⟩⟩
def rd_T66 (xs : List S66) (i : Int) : S66 := xs.getD i.toNat z66
theorem at_T66 {w : World} {A : Option Addr} {n : Nat} {xs : List S66} (h : Kd.C k66 w A n xs) (i : Int) (h0 : 0 ≤ i) (h1 : i < n) : ∃ ad , A = some ad ∧ w.cell? (ad.add (i.toNat * 3)) = some (.int .i64 (rd_T66 xs i).f0) ∧ w.cell? ⟨(ad.add (i.toNat * 3)).block, (ad.add (i.toNat * 3)).off + 1, none⟩ = some (.int .i64 (rd_T66 xs i).f1) ∧ w.cell? ⟨(ad.add (i.toNat * 3)).block, (ad.add (i.toNat * 3)).off + 2, none⟩ = some (.int .i64 (rd_T66 xs i).f2) := by
 obtain ⟨ad, c, e, _, hK, hc0⟩ := Kd.C_get h z66 i h0 h1
 have hc : ∀ j u, c[j]? = some u → w.cell? (ad.add (i.toNat * 3 + j)) = some u := hc0
 obtain rfl := k66_open hK
 exact ⟨ad, e, hc 0 _ rfl, by rw [← add_field _ _ 1 (by omega)]; exact hc 1 _ rfl, by rw [← add_field _ _ 2 (by omega)]; exact hc 2 _ rfl⟩
def rd_L2 (xs : List (List Int)) (i : Int) : (List Int) := xs.getD i.toNat ([] : List Int)
theorem at_L2 {w : World} {A : Option Addr} {n : Nat} {xs : List (List Int)} (h : Kd.C (Kd.slice 3 (Kd.int .i64)) w A n xs) (i : Int) (h0 : 0 ≤ i) (h1 : i < n) : ∃ ad A0 c0, A = some ad ∧ w.cell? (ad.add i.toNat) = some (.slice A0 (rd_L2 xs i).length c0) ∧ (rd_L2 xs i).length ≤ c0 ∧ (Kd.int .i64).C w A0 (rd_L2 xs i).length (rd_L2 xs i) := by
 obtain ⟨ad, c, e, _, hK, hc0⟩ := Kd.C_get h ([] : List Int) i h0 h1
 have hc : ∀ j u, c[j]? = some u → w.cell? (ad.add (i.toNat * 1 + j)) = some u := hc0
 obtain ⟨A0, c0, rfl, l0, g0⟩ := hK
 exact ⟨ad, A0, c0, e, by have hq := hc 0 _ rfl; rwa [Nat.mul_one, Nat.add_zero] at hq, l0, g0⟩
def Ev {α : Type} (f : Nat → Option α) (r : α) : Prop := ∃ B, ∀ K, B ≤ K → f K = some r
theorem Ev.const {α : Type} (r : α) : Ev (fun _ => some r) r := ⟨0, fun _ _ => rfl⟩
theorem Ev.of_succ {α : Type} {f : Nat → Option α} {r : α} (h : Ev (fun k => f (k + 1)) r) : Ev f r := by
 obtain ⟨B, h⟩ := h
 refine ⟨B + 1, fun K hK => ?_⟩
 obtain ⟨k, rfl⟩ : ∃ k, K = k + 1 := ⟨K - 1, by omega⟩
 exact h k (by omega)
theorem Ev.bind {α β : Type} {f : Nat → Option α} {g : α → Nat → Option β} {a : α} {r : β} (h1 : Ev f a) (h2 : Ev (g a) r) : Ev (fun k => (f k).bind fun t => g t k) r := by
 obtain ⟨B, h1⟩ := h1
 obtain ⟨C, h2⟩ := h2
 refine ⟨max B C, fun K hK => ?_⟩
 show (f K).bind (fun t => g t K) = some r
 rw [h1 K (by omega), Option.bind_some]
 exact h2 K (by omega)
theorem Ev.get {α : Type} {f : Nat → Option α} {r : α} (h : Ev f r) : ∃ k, f k = some r := by
 obtain ⟨B, h⟩ := h
 exact ⟨B, h B (Nat.le_refl _)⟩
theorem wrap_succ {i : Nat} (h : i ≤ 1000000) : wrap64 ((i : Int) + 1) = ((i + 1 : Nat) : Int) := by
 rw [show wrap64 ((i : Int) + 1) = (i : Int) + 1 from by unfold wrap64; omega]; omega
theorem wrap_id {x : Int} (h : -1000000000 ≤ x ∧ x ≤ 1000000000) : wrap64 x = x := by unfold wrap64; omega
def sandpileref08_Vertex.f (a0_0 : Int) (l0_1 : List (S66)) (a1 : Int) : Option (Bool) := if a1 ≥ 0 then (some (decide (a1 < a0_0))) else (some false)
theorem sandpileref08_Vertex.calls (a0_0 : Int) (A0_1 : Option Addr) (c0_1 : Nat) (l0_1 : List (S66)) (a1 : Int) (r : Bool) (w : World) (hr0_1 : Kd.C k66 w A0_1 l0_1.length l0_1) (hc0_1 : l0_1.length ≤ c0_1) (h : sandpileref08_Vertex.f a0_0 l0_1 a1 = some r) :
  Calls Try.prog 48 #[.agg #[.int .i64 a0_0, .slice A0_1 l0_1.length c0_1], .int .i64 a1] w fun e w' => e = .returned (.bool r) ∧ Below w.heap.size w w' := by
 have hu24 := Try.underlying24
 have HR0_1 := Aside0.mk hr0_1
 have HC0_1 := Aside0.mk hc0_1
 clear hr0_1 hc0_1
 have HB := Aside0.mk (Below.refl w.heap.size w)
 have H : (if a1 ≥ 0 then (some (decide (a1 < a0_0))) else (some false)) = some r := h
 clear h
 by_cases c3 : a1 ≥ 0
 ·rw [if_pos c3] at H
  have c3b0 : decide (0 ≤ a1) = true := decide_eq_true c3
  clear c3
  obtain rfl := Option.some.inj H
  go_enter Try.func48, Try.ntmps48
  go_wp2_with (first | ((with_reducible refine gate_dst (N := 2) rfl ?_); refine zX 2 #[.int .i64 a0_0, .slice A0_1 l0_1.length c0_1] 24 ?_; intro gb101 hg w4 hbox hb; have BK101 := Aside0.mk (hbox); have GW101 := zG HB hg; have GE101 := zG HB hg; replace HB := zS HB hb; clear hb hbox hg; obtain ⟨hcz5_0, hcz5_1, hfz5_0, hfz5_1⟩ := zD2 BK101))
  go_ret
  exact ⟨zE, zB⟩
 ·rw [if_neg c3] at H
  have c3b0 : decide (0 ≤ a1) = false := decide_eq_false c3
  clear c3
  obtain rfl := Option.some.inj H
  go_enter Try.func48, Try.ntmps48
  go_wp2_with (first | ((with_reducible refine gate_dst (N := 2) rfl ?_); refine zX 2 #[.int .i64 a0_0, .slice A0_1 l0_1.length c0_1] 24 ?_; intro gb101 hg w6 hbox hb; have BK101 := Aside0.mk (hbox); have GW101 := zG HB hg; have GE101 := zG HB hg; replace HB := zS HB hb; clear hb hbox hg))
  go_ret
  exact ⟨zE, zB⟩
def sandpileref08_edge.j0 : Nat → Int → Bool → Int → List (S66) → Int → Int → Int → Option (Int)
 | 0, _, _, _, _, _, _, _ => none
 | k + 1, x1, x33, x103000, x103001, x105000, x105001, x105002 => if x33 = true then (some 2) else (if x105000 > x105001 then (some 9) else (if x1 > 0 then (if 0 ≤ (wrap64 (x1 - 1)) then (if (wrap64 (x1 - 1)) < (x103001.length : Int) then (if x105000 < ((rd_T66 x103001 (wrap64 (x1 - 1))).f0) then (some 9) else (if x105000 = ((rd_T66 x103001 (wrap64 (x1 - 1))).f0) then (if x105001 ≤ ((rd_T66 x103001 (wrap64 (x1 - 1))).f1) then (some 9) else (some 0)) else (some 0))) else (none)) else (none)) else (some 0)))
def sandpileref08_edge.f (k : Nat) (a0_0 : Int) (l0_1 : List (S66)) (a1 : Int) : Option (Int) := if 0 ≤ a1 then (if a1 < (l0_1.length : Int) then ((sandpileref08_Vertex.f a0_0 l0_1 ((rd_T66 l0_1 a1).f0)).bind fun t105 => (if t105 = true then ((sandpileref08_Vertex.f a0_0 l0_1 ((rd_T66 l0_1 a1).f1)).bind fun t106 => (if t106 = true then (if ((rd_T66 l0_1 a1).f2) < 1 then (sandpileref08_edge.j0 k a1 true a0_0 l0_1 ((rd_T66 l0_1 a1).f0) ((rd_T66 l0_1 a1).f1) ((rd_T66 l0_1 a1).f2)) else (sandpileref08_edge.j0 k a1 (decide (((rd_T66 l0_1 a1).f2) > 50)) a0_0 l0_1 ((rd_T66 l0_1 a1).f0) ((rd_T66 l0_1 a1).f1) ((rd_T66 l0_1 a1).f2))) else (sandpileref08_edge.j0 k a1 true a0_0 l0_1 ((rd_T66 l0_1 a1).f0) ((rd_T66 l0_1 a1).f1) ((rd_T66 l0_1 a1).f2)))) else (sandpileref08_edge.j0 k a1 true a0_0 l0_1 ((rd_T66 l0_1 a1).f0) ((rd_T66 l0_1 a1).f1) ((rd_T66 l0_1 a1).f2)))) else (none)) else (none)
theorem sandpileref08_edge.calls (k : Nat) (a0_0 : Int) (A0_1 : Option Addr) (c0_1 : Nat) (l0_1 : List (S66)) (a1 : Int) (r : Int) (w : World) (hr0_1 : Kd.C k66 w A0_1 l0_1.length l0_1) (hc0_1 : l0_1.length ≤ c0_1) (h : sandpileref08_edge.f k a0_0 l0_1 a1 = some r) :
  Calls Try.prog 73 #[.agg #[.int .i64 a0_0, .slice A0_1 l0_1.length c0_1], .int .i64 a1] w fun e w' => e = .returned (.int .i64 r) ∧ Below w.heap.size w w' := by
 have hu24 := Try.underlying24
 have hu66 := Try.underlying66
 have HR0_1 := Aside0.mk hr0_1
 have HC0_1 := Aside0.mk hc0_1
 clear hr0_1 hc0_1
 have HB := Aside0.mk (Below.refl w.heap.size w)
 have H : (if 0 ≤ a1 then (if a1 < (l0_1.length : Int) then ((sandpileref08_Vertex.f a0_0 l0_1 ((rd_T66 l0_1 a1).f0)).bind fun t105 => (if t105 = true then ((sandpileref08_Vertex.f a0_0 l0_1 ((rd_T66 l0_1 a1).f1)).bind fun t106 => (if t106 = true then (if ((rd_T66 l0_1 a1).f2) < 1 then (sandpileref08_edge.j0 k a1 true a0_0 l0_1 ((rd_T66 l0_1 a1).f0) ((rd_T66 l0_1 a1).f1) ((rd_T66 l0_1 a1).f2)) else (sandpileref08_edge.j0 k a1 (decide (((rd_T66 l0_1 a1).f2) > 50)) a0_0 l0_1 ((rd_T66 l0_1 a1).f0) ((rd_T66 l0_1 a1).f1) ((rd_T66 l0_1 a1).f2))) else (sandpileref08_edge.j0 k a1 true a0_0 l0_1 ((rd_T66 l0_1 a1).f0) ((rd_T66 l0_1 a1).f1) ((rd_T66 l0_1 a1).f2)))) else (sandpileref08_edge.j0 k a1 true a0_0 l0_1 ((rd_T66 l0_1 a1).f0) ((rd_T66 l0_1 a1).f1) ((rd_T66 l0_1 a1).f2)))) else (none)) else (none)) = some r := h
 clear h
 by_cases c3 : 0 ≤ a1
 ·rw [if_pos c3] at H
  have c3b0 : decide (0 ≤ a1) = true := decide_eq_true c3
  clear c3
  by_cases c4 : a1 < (l0_1.length : Int)
  ·rw [if_pos c4] at H
   have c4b0 : decide (a1 < (l0_1.length : Int)) = true := decide_eq_true c4
   clear c4
   have HC5 := Aside0.mk H
   clear H
   go_enter Try.func73, Try.ntmps73
   go_upto_region 2 with (first | ((with_reducible refine gate_dst (N := 2) rfl ?_); refine zX 2 #[.int .i64 a0_0, .slice A0_1 l0_1.length c0_1] 24 ?_; intro gb102 hg w6 hbox hb; have BK102 := Aside0.mk (hbox); have GW102 := zG HB hg; have GE102 := zG HB hg; replace HB := zS HB hb; clear hb hbox hg; obtain ⟨hcz7_0, hcz7_1, hfz7_0, hfz7_1⟩ := zD2 BK102; have p103 : 0 ≤ (a1 : Int) := of_decide_eq_true ‹_›; have q103 : a1 < (l0_1.length : Int) := of_decide_eq_true ‹_›; obtain ⟨ad103, e103, hx103_0, hx103_1, hx103_2⟩ := at_T66 HR0_1.out a1 p103 q103; cases e103; replace hx103_0 := (HB.out.cell (World.block_lt_of_cell? w _ hx103_0)).trans hx103_0; replace hx103_1 := (HB.out.cell (World.block_lt_of_cell? w _ hx103_1)).trans hx103_1; replace hx103_2 := (HB.out.cell (World.block_lt_of_cell? w _ hx103_2)).trans hx103_2; replace p103 := eq_true p103; replace q103 := eq_true q103) | ((with_reducible refine gate_dst (N := 5) rfl ?_); refine zX 5 #[.int .i64 0, .int .i64 0, .int .i64 0] 66 ?_; intro gb104 hg w8 hbox hb; have BK104 := Aside0.mk (hbox); have GW104 := zG HB hg; have GE104 := zG HB hg; replace HB := zS HB hb; have NB102_104 := Aside0.mk ((by rw [hg]; exact Nat.ne_of_lt (blk_lt (g := gb102) (o := .cells #[.int .i64 a0_0, .slice (some ad103) l0_1.length c0_1] 24 (0, 0)) (zK BK102)) : gb102 ≠ gb104)); have NB104_102 := Aside0.mk ((by rw [hg]; exact Nat.ne_of_gt (blk_lt (g := gb102) (o := .cells #[.int .i64 a0_0, .slice (some ad103) l0_1.length c0_1] 24 (0, 0)) (zK BK102)) : gb104 ≠ gb102)); replace BK102 := zb BK102 hb; clear hb hbox hg; have hnb9 := NB104_102.out; have hnc9 := NB102_104.out; obtain ⟨hcz10_0, hcz10_1, hcz10_2, hfz10_0, hfz10_1, hfz10_2⟩ := zD3 BK104))
   (try simp only [Act.put, List.setIfInBounds_toArray, List.set_cons_zero, List.set_cons_succ])
   go_cut [33] (fun v33 wc => ∃ (kq : Nat) (x33_4 : Bool), v33 = .bool x33_4 ∧ Aside0 (sandpileref08_edge.j0 kq a1 x33_4 a0_0 l0_1 ((rd_T66 l0_1 a1).f0) ((rd_T66 l0_1 a1).f1) ((rd_T66 l0_1 a1).f2) = some r) ∧ Aside0 (kq ≤ k) ∧ Aside0 (wc.heap[gb102]? = some (.cells #[.int .i64 a0_0, (.slice (some ad103) l0_1.length c0_1)] 24 (0, 0))) ∧ Aside0 (wc.heap[gb104]? = some (.cells #[.int .i64 ((rd_T66 l0_1 a1).f0), .int .i64 ((rd_T66 l0_1 a1).f1), .int .i64 ((rd_T66 l0_1 a1).f2)] 66 (0, 0))) ∧ Aside0 (Below w.heap.size w wc))
   case first =>
    have H := HC5.out
    clear HC5
    replace H := Option.bind_eq_some_iff.mp H
    obtain ⟨t105, A110, H⟩ := H
    replace H : (if t105 = true then ((sandpileref08_Vertex.f a0_0 l0_1 ((rd_T66 l0_1 a1).f1)).bind fun t106 => (if t106 = true then (if ((rd_T66 l0_1 a1).f2) < 1 then (sandpileref08_edge.j0 k a1 true a0_0 l0_1 ((rd_T66 l0_1 a1).f0) ((rd_T66 l0_1 a1).f1) ((rd_T66 l0_1 a1).f2)) else (sandpileref08_edge.j0 k a1 (decide (((rd_T66 l0_1 a1).f2) > 50)) a0_0 l0_1 ((rd_T66 l0_1 a1).f0) ((rd_T66 l0_1 a1).f1) ((rd_T66 l0_1 a1).f2))) else (sandpileref08_edge.j0 k a1 true a0_0 l0_1 ((rd_T66 l0_1 a1).f0) ((rd_T66 l0_1 a1).f1) ((rd_T66 l0_1 a1).f2)))) else (sandpileref08_edge.j0 k a1 true a0_0 l0_1 ((rd_T66 l0_1 a1).f0) ((rd_T66 l0_1 a1).f1) ((rd_T66 l0_1 a1).f2))) = some r := H
    have A11 := Aside0.mk A110
    clear A110
    by_cases c12 : t105 = true
    ·subst c12
     have H1 : ((sandpileref08_Vertex.f a0_0 l0_1 ((rd_T66 l0_1 a1).f1)).bind fun t106 => (if t106 = true then (if ((rd_T66 l0_1 a1).f2) < 1 then (sandpileref08_edge.j0 k a1 true a0_0 l0_1 ((rd_T66 l0_1 a1).f0) ((rd_T66 l0_1 a1).f1) ((rd_T66 l0_1 a1).f2)) else (sandpileref08_edge.j0 k a1 (decide (((rd_T66 l0_1 a1).f2) > 50)) a0_0 l0_1 ((rd_T66 l0_1 a1).f0) ((rd_T66 l0_1 a1).f1) ((rd_T66 l0_1 a1).f2))) else (sandpileref08_edge.j0 k a1 true a0_0 l0_1 ((rd_T66 l0_1 a1).f0) ((rd_T66 l0_1 a1).f1) ((rd_T66 l0_1 a1).f2)))) = some r := by rw [if_pos rfl] at H; exact H
     clear H
     have H := H1
     clear H1
     replace H := Option.bind_eq_some_iff.mp H
     obtain ⟨t106, A130, H⟩ := H
     replace H : (if t106 = true then (if ((rd_T66 l0_1 a1).f2) < 1 then (sandpileref08_edge.j0 k a1 true a0_0 l0_1 ((rd_T66 l0_1 a1).f0) ((rd_T66 l0_1 a1).f1) ((rd_T66 l0_1 a1).f2)) else (sandpileref08_edge.j0 k a1 (decide (((rd_T66 l0_1 a1).f2) > 50)) a0_0 l0_1 ((rd_T66 l0_1 a1).f0) ((rd_T66 l0_1 a1).f1) ((rd_T66 l0_1 a1).f2))) else (sandpileref08_edge.j0 k a1 true a0_0 l0_1 ((rd_T66 l0_1 a1).f0) ((rd_T66 l0_1 a1).f1) ((rd_T66 l0_1 a1).f2))) = some r := H
     have A13 := Aside0.mk A130
     clear A130
     by_cases c14 : t106 = true
     ·subst c14
      have H1 : (if ((rd_T66 l0_1 a1).f2) < 1 then (sandpileref08_edge.j0 k a1 true a0_0 l0_1 ((rd_T66 l0_1 a1).f0) ((rd_T66 l0_1 a1).f1) ((rd_T66 l0_1 a1).f2)) else (sandpileref08_edge.j0 k a1 (decide (((rd_T66 l0_1 a1).f2) > 50)) a0_0 l0_1 ((rd_T66 l0_1 a1).f0) ((rd_T66 l0_1 a1).f1) ((rd_T66 l0_1 a1).f2))) = some r := by rw [if_pos rfl] at H; exact H
      clear H
      have H := H1
      clear H1
      by_cases c15 : ((rd_T66 l0_1 a1).f2) < 1
      ·rw [if_pos c15] at H
       have c15b0 : decide (((rd_T66 l0_1 a1).f2) < 1) = true := decide_eq_true c15
       clear c15
       (first | rw [c15b0] | (simp only [i64_w, i32_w]; rw [c15b0]) | skip)
       have H' := Aside0.mk H
       clear H
       have hnb16 := NB102_104.out
       have hnc16 := NB104_102.out
       obtain ⟨hcz17_0, hcz17_1, hfz17_0, hfz17_1⟩ := zD2 BK102
       obtain ⟨hcz18_0, hcz18_1, hcz18_2, hfz18_0, hfz18_1, hfz18_2⟩ := zD3 BK104
       go_wp2_with (first | ((with_reducible refine gate_callee (f := 48) rfl ?_); refine zL (some 15) Try.func48 #[.agg #[.int .i64 a0_0, .slice (some ad103) l0_1.length c0_1], .int .i64 ((rd_T66 l0_1 a1).f0)] ?_; (with_reducible refine (sandpileref08_Vertex.calls a0_0 _ _ l0_1 ((rd_T66 l0_1 a1).f0) true _ ?side1 ?side2 A11.out).mono ?_); (case side1 => exact Kd.C_below HR0_1.out zB); (case side2 => exact HC0_1.out); rintro e w19 ⟨rfl, hb⟩; refine ⟨_, rfl, ?_⟩; replace BK102 := Aside0.mk (blk_below (g := gb102) (o := .cells #[.int .i64 a0_0, .slice (some ad103) l0_1.length c0_1] 24 (0, 0)) (by refine zk ?_; refine blk_far ?_ NB102_104.out _; refine zk ?_; refine blk_far ?_ NB102_104.out _; refine zk ?_; refine blk_far ?_ NB102_104.out _; exact zK BK102) hb); replace BK104 := Aside0.mk (blk_below (g := gb104) (o := .cells #[.int .i64 ((rd_T66 l0_1 a1).f0), .int .i64 ((rd_T66 l0_1 a1).f1), .int .i64 ((rd_T66 l0_1 a1).f2)] 66 (0, 0)) (by refine zk ?_; refine blk_put (cs := #[.int .i64 ((rd_T66 l0_1 a1).f0), .int .i64 ((rd_T66 l0_1 a1).f1), .int .i64 0]) ?_ 2 _ rfl; refine zk ?_; refine blk_put (cs := #[.int .i64 ((rd_T66 l0_1 a1).f0), .int .i64 0, .int .i64 0]) ?_ 1 _ rfl; refine zk ?_; refine blk_put (cs := #[.int .i64 0, .int .i64 0, .int .i64 0]) ?_ 0 _ rfl; exact zK BK104) hb); replace HB := zS HB hb; (try clear hb); obtain ⟨hcz20_0, hcz20_1, hfz20_0, hfz20_1⟩ := zD2 BK102; obtain ⟨hcz21_0, hcz21_1, hcz21_2, hfz21_0, hfz21_1, hfz21_2⟩ := zD3 BK104) | (go_at_call 48; (with_reducible refine (sandpileref08_Vertex.calls a0_0 _ _ l0_1 ((rd_T66 l0_1 a1).f1) true _ ?side1 ?side2 A13.out).mono ?_); (case side1 => exact Kd.C_below HR0_1.out zB); (case side2 => exact HC0_1.out); rintro e w22 ⟨rfl, hb⟩; replace BK102 := zb BK102 hb; replace BK104 := zb BK104 hb; replace HB := zS HB hb; (try clear hb); obtain ⟨hcz23_0, hcz23_1, hcz23_2, hfz23_0, hfz23_1, hfz23_2⟩ := zD3 BK104))
       go_meet
       case rel => exact ⟨_, (true), zT, H', ⟨by first | omega | exact Nat.le_refl _⟩, ⟨zK BK102⟩, ⟨zK BK104⟩, ⟨zB⟩⟩
      ·rw [if_neg c15] at H
       have c15b0 : decide (((rd_T66 l0_1 a1).f2) < 1) = false := decide_eq_false c15
       clear c15
       (first | rw [c15b0] | (simp only [i64_w, i32_w]; rw [c15b0]) | skip)
       have H' := Aside0.mk H
       clear H
       have hnb24 := NB102_104.out
       have hnc24 := NB104_102.out
       obtain ⟨hcz25_0, hcz25_1, hfz25_0, hfz25_1⟩ := zD2 BK102
       obtain ⟨hcz26_0, hcz26_1, hcz26_2, hfz26_0, hfz26_1, hfz26_2⟩ := zD3 BK104
       go_wp2_with (first | ((with_reducible refine gate_callee (f := 48) rfl ?_); refine zL (some 15) Try.func48 #[.agg #[.int .i64 a0_0, .slice (some ad103) l0_1.length c0_1], .int .i64 ((rd_T66 l0_1 a1).f0)] ?_; (with_reducible refine (sandpileref08_Vertex.calls a0_0 _ _ l0_1 ((rd_T66 l0_1 a1).f0) true _ ?side1 ?side2 A11.out).mono ?_); (case side1 => exact Kd.C_below HR0_1.out zB); (case side2 => exact HC0_1.out); rintro e w27 ⟨rfl, hb⟩; refine ⟨_, rfl, ?_⟩; replace BK102 := Aside0.mk (blk_below (g := gb102) (o := .cells #[.int .i64 a0_0, .slice (some ad103) l0_1.length c0_1] 24 (0, 0)) (by refine zk ?_; refine blk_far ?_ NB102_104.out _; refine zk ?_; refine blk_far ?_ NB102_104.out _; refine zk ?_; refine blk_far ?_ NB102_104.out _; exact zK BK102) hb); replace BK104 := Aside0.mk (blk_below (g := gb104) (o := .cells #[.int .i64 ((rd_T66 l0_1 a1).f0), .int .i64 ((rd_T66 l0_1 a1).f1), .int .i64 ((rd_T66 l0_1 a1).f2)] 66 (0, 0)) (by refine zk ?_; refine blk_put (cs := #[.int .i64 ((rd_T66 l0_1 a1).f0), .int .i64 ((rd_T66 l0_1 a1).f1), .int .i64 0]) ?_ 2 _ rfl; refine zk ?_; refine blk_put (cs := #[.int .i64 ((rd_T66 l0_1 a1).f0), .int .i64 0, .int .i64 0]) ?_ 1 _ rfl; refine zk ?_; refine blk_put (cs := #[.int .i64 0, .int .i64 0, .int .i64 0]) ?_ 0 _ rfl; exact zK BK104) hb); replace HB := zS HB hb; (try clear hb); obtain ⟨hcz28_0, hcz28_1, hfz28_0, hfz28_1⟩ := zD2 BK102; obtain ⟨hcz29_0, hcz29_1, hcz29_2, hfz29_0, hfz29_1, hfz29_2⟩ := zD3 BK104) | (go_at_call 48; (with_reducible refine (sandpileref08_Vertex.calls a0_0 _ _ l0_1 ((rd_T66 l0_1 a1).f1) true _ ?side1 ?side2 A13.out).mono ?_); (case side1 => exact Kd.C_below HR0_1.out zB); (case side2 => exact HC0_1.out); rintro e w30 ⟨rfl, hb⟩; replace BK102 := zb BK102 hb; replace BK104 := zb BK104 hb; replace HB := zS HB hb; (try clear hb); obtain ⟨hcz31_0, hcz31_1, hcz31_2, hfz31_0, hfz31_1, hfz31_2⟩ := zD3 BK104))
       go_meet
       case rel => exact ⟨_, (decide (((rd_T66 l0_1 a1).f2) > 50)), zT, H', ⟨by first | omega | exact Nat.le_refl _⟩, ⟨zK BK102⟩, ⟨zK BK104⟩, ⟨zB⟩⟩
     ·replace c14 := Bool.eq_false_iff.mpr c14
      subst c14
      have H1 : (sandpileref08_edge.j0 k a1 true a0_0 l0_1 ((rd_T66 l0_1 a1).f0) ((rd_T66 l0_1 a1).f1) ((rd_T66 l0_1 a1).f2)) = some r := by rw [if_neg (show ¬ (false = true) by decide)] at H; exact H
      clear H
      have H := H1
      clear H1
      have H' := Aside0.mk H
      clear H
      have hnb32 := NB102_104.out
      have hnc32 := NB104_102.out
      obtain ⟨hcz33_0, hcz33_1, hfz33_0, hfz33_1⟩ := zD2 BK102
      obtain ⟨hcz34_0, hcz34_1, hcz34_2, hfz34_0, hfz34_1, hfz34_2⟩ := zD3 BK104
      go_wp2_with (first | ((with_reducible refine gate_callee (f := 48) rfl ?_); refine zL (some 15) Try.func48 #[.agg #[.int .i64 a0_0, .slice (some ad103) l0_1.length c0_1], .int .i64 ((rd_T66 l0_1 a1).f0)] ?_; (with_reducible refine (sandpileref08_Vertex.calls a0_0 _ _ l0_1 ((rd_T66 l0_1 a1).f0) true _ ?side1 ?side2 A11.out).mono ?_); (case side1 => exact Kd.C_below HR0_1.out zB); (case side2 => exact HC0_1.out); rintro e w35 ⟨rfl, hb⟩; refine ⟨_, rfl, ?_⟩; replace BK102 := Aside0.mk (blk_below (g := gb102) (o := .cells #[.int .i64 a0_0, .slice (some ad103) l0_1.length c0_1] 24 (0, 0)) (by refine zk ?_; refine blk_far ?_ NB102_104.out _; refine zk ?_; refine blk_far ?_ NB102_104.out _; refine zk ?_; refine blk_far ?_ NB102_104.out _; exact zK BK102) hb); replace BK104 := Aside0.mk (blk_below (g := gb104) (o := .cells #[.int .i64 ((rd_T66 l0_1 a1).f0), .int .i64 ((rd_T66 l0_1 a1).f1), .int .i64 ((rd_T66 l0_1 a1).f2)] 66 (0, 0)) (by refine zk ?_; refine blk_put (cs := #[.int .i64 ((rd_T66 l0_1 a1).f0), .int .i64 ((rd_T66 l0_1 a1).f1), .int .i64 0]) ?_ 2 _ rfl; refine zk ?_; refine blk_put (cs := #[.int .i64 ((rd_T66 l0_1 a1).f0), .int .i64 0, .int .i64 0]) ?_ 1 _ rfl; refine zk ?_; refine blk_put (cs := #[.int .i64 0, .int .i64 0, .int .i64 0]) ?_ 0 _ rfl; exact zK BK104) hb); replace HB := zS HB hb; (try clear hb); obtain ⟨hcz36_0, hcz36_1, hfz36_0, hfz36_1⟩ := zD2 BK102; obtain ⟨hcz37_0, hcz37_1, hcz37_2, hfz37_0, hfz37_1, hfz37_2⟩ := zD3 BK104) | (go_at_call 48; (with_reducible refine (sandpileref08_Vertex.calls a0_0 _ _ l0_1 ((rd_T66 l0_1 a1).f1) false _ ?side1 ?side2 A13.out).mono ?_); (case side1 => exact Kd.C_below HR0_1.out zB); (case side2 => exact HC0_1.out); rintro e w38 ⟨rfl, hb⟩; replace BK102 := zb BK102 hb; replace BK104 := zb BK104 hb; replace HB := zS HB hb; (try clear hb)))
      go_meet
      case rel => exact ⟨_, (true), zT, H', ⟨by first | omega | exact Nat.le_refl _⟩, ⟨zK BK102⟩, ⟨zK BK104⟩, ⟨zB⟩⟩
    ·replace c12 := Bool.eq_false_iff.mpr c12
     subst c12
     have H1 : (sandpileref08_edge.j0 k a1 true a0_0 l0_1 ((rd_T66 l0_1 a1).f0) ((rd_T66 l0_1 a1).f1) ((rd_T66 l0_1 a1).f2)) = some r := by rw [if_neg (show ¬ (false = true) by decide)] at H; exact H
     clear H
     have H := H1
     clear H1
     have H' := Aside0.mk H
     clear H
     have hnb39 := NB102_104.out
     have hnc39 := NB104_102.out
     obtain ⟨hcz40_0, hcz40_1, hfz40_0, hfz40_1⟩ := zD2 BK102
     obtain ⟨hcz41_0, hcz41_1, hcz41_2, hfz41_0, hfz41_1, hfz41_2⟩ := zD3 BK104
     go_wp2_with (first | ((with_reducible refine gate_callee (f := 48) rfl ?_); refine zL (some 15) Try.func48 #[.agg #[.int .i64 a0_0, .slice (some ad103) l0_1.length c0_1], .int .i64 ((rd_T66 l0_1 a1).f0)] ?_; (with_reducible refine (sandpileref08_Vertex.calls a0_0 _ _ l0_1 ((rd_T66 l0_1 a1).f0) false _ ?side1 ?side2 A11.out).mono ?_); (case side1 => exact Kd.C_below HR0_1.out zB); (case side2 => exact HC0_1.out); rintro e w42 ⟨rfl, hb⟩; refine ⟨_, rfl, ?_⟩; replace BK102 := Aside0.mk (blk_below (g := gb102) (o := .cells #[.int .i64 a0_0, .slice (some ad103) l0_1.length c0_1] 24 (0, 0)) (by refine zk ?_; refine blk_far ?_ NB102_104.out _; refine zk ?_; refine blk_far ?_ NB102_104.out _; refine zk ?_; refine blk_far ?_ NB102_104.out _; exact zK BK102) hb); replace BK104 := Aside0.mk (blk_below (g := gb104) (o := .cells #[.int .i64 ((rd_T66 l0_1 a1).f0), .int .i64 ((rd_T66 l0_1 a1).f1), .int .i64 ((rd_T66 l0_1 a1).f2)] 66 (0, 0)) (by refine zk ?_; refine blk_put (cs := #[.int .i64 ((rd_T66 l0_1 a1).f0), .int .i64 ((rd_T66 l0_1 a1).f1), .int .i64 0]) ?_ 2 _ rfl; refine zk ?_; refine blk_put (cs := #[.int .i64 ((rd_T66 l0_1 a1).f0), .int .i64 0, .int .i64 0]) ?_ 1 _ rfl; refine zk ?_; refine blk_put (cs := #[.int .i64 0, .int .i64 0, .int .i64 0]) ?_ 0 _ rfl; exact zK BK104) hb); replace HB := zS HB hb; (try clear hb)))
     go_meet
     case rel => exact ⟨_, (true), zT, H', ⟨by first | omega | exact Nat.le_refl _⟩, ⟨zK BK102⟩, ⟨zK BK104⟩, ⟨zB⟩⟩
   case rest =>
    clear HC5
    try clear c1
    try clear p1
    try clear q1
    try clear hx1
    try clear c2
    try clear p2
    try clear c3
    try clear c3b0
    try clear c4
    try clear c4b0
    try clear c7
    try clear c9
    try clear p10
    try clear q10
    try clear hx10
    try clear c12
    try clear c14
    try clear c15
    try clear c15b0
    try clear c16
    try clear c24
    try clear c32
    try clear c39
    try clear hcz10_0
    try clear hcz10_1
    try clear hcz10_2
    try clear hcz17_0
    try clear hcz17_1
    try clear hcz18_0
    try clear hcz18_1
    try clear hcz18_2
    try clear hcz20_0
    try clear hcz20_1
    try clear hcz21_0
    try clear hcz21_1
    try clear hcz21_2
    try clear hcz23_0
    try clear hcz23_1
    try clear hcz23_2
    try clear hcz25_0
    try clear hcz25_1
    try clear hcz26_0
    try clear hcz26_1
    try clear hcz26_2
    try clear hcz28_0
    try clear hcz28_1
    try clear hcz29_0
    try clear hcz29_1
    try clear hcz29_2
    try clear hcz31_0
    try clear hcz31_1
    try clear hcz31_2
    try clear hcz33_0
    try clear hcz33_1
    try clear hcz34_0
    try clear hcz34_1
    try clear hcz34_2
    try clear hcz36_0
    try clear hcz36_1
    try clear hcz37_0
    try clear hcz37_1
    try clear hcz37_2
    try clear hcz40_0
    try clear hcz40_1
    try clear hcz41_0
    try clear hcz41_1
    try clear hcz41_2
    try clear hcz7_0
    try clear hcz7_1
    try clear hfz10_0
    try clear hfz10_1
    try clear hfz10_2
    try clear hfz17_0
    try clear hfz17_1
    try clear hfz18_0
    try clear hfz18_1
    try clear hfz18_2
    try clear hfz20_0
    try clear hfz20_1
    try clear hfz21_0
    try clear hfz21_1
    try clear hfz21_2
    try clear hfz23_0
    try clear hfz23_1
    try clear hfz23_2
    try clear hfz25_0
    try clear hfz25_1
    try clear hfz26_0
    try clear hfz26_1
    try clear hfz26_2
    try clear hfz28_0
    try clear hfz28_1
    try clear hfz29_0
    try clear hfz29_1
    try clear hfz29_2
    try clear hfz31_0
    try clear hfz31_1
    try clear hfz31_2
    try clear hfz33_0
    try clear hfz33_1
    try clear hfz34_0
    try clear hfz34_1
    try clear hfz34_2
    try clear hfz36_0
    try clear hfz36_1
    try clear hfz37_0
    try clear hfz37_1
    try clear hfz37_2
    try clear hfz40_0
    try clear hfz40_1
    try clear hfz41_0
    try clear hfz41_1
    try clear hfz41_2
    try clear hfz7_0
    try clear hfz7_1
    try clear hx103_0
    try clear hx103_1
    try clear hx103_2
    try clear p103
    try clear q103
    obtain ⟨kq, x33_4, rfl, HA, HJ4, BK102, BK104, HB⟩ := hcut
    cases kq with
    | zero => exact absurd HA.out (by simp [sandpileref08_edge.j0])
    | succ kj4 =>
     have H := HA.out
     clear HA
     simp only [sandpileref08_edge.j0] at H
     by_cases c43 : x33_4 = true
     ·subst c43
      have H1 : (some 2) = some r := by rw [if_pos rfl] at H; exact H
      clear H
      have H := H1
      clear H1
      obtain rfl := Option.some.inj H
      go_wp2
      go_ret
      exact ⟨zE, zB⟩
     ·replace c43 := Bool.eq_false_iff.mpr c43
      subst c43
      have H1 : (if ((rd_T66 l0_1 a1).f0) > ((rd_T66 l0_1 a1).f1) then (some 9) else (if a1 > 0 then (if 0 ≤ (wrap64 (a1 - 1)) then (if (wrap64 (a1 - 1)) < (l0_1.length : Int) then (if ((rd_T66 l0_1 a1).f0) < ((rd_T66 l0_1 (wrap64 (a1 - 1))).f0) then (some 9) else (if ((rd_T66 l0_1 a1).f0) = ((rd_T66 l0_1 (wrap64 (a1 - 1))).f0) then (if ((rd_T66 l0_1 a1).f1) ≤ ((rd_T66 l0_1 (wrap64 (a1 - 1))).f1) then (some 9) else (some 0)) else (some 0))) else (none)) else (none)) else (some 0))) = some r := by rw [if_neg (show ¬ (false = true) by decide)] at H; exact H
      clear H
      have H := H1
      clear H1
      by_cases c44 : ((rd_T66 l0_1 a1).f0) > ((rd_T66 l0_1 a1).f1)
      ·rw [if_pos c44] at H
       have c44b0 : decide (((rd_T66 l0_1 a1).f1) < ((rd_T66 l0_1 a1).f0)) = true := decide_eq_true c44
       clear c44
       obtain rfl := Option.some.inj H
       have hnb45 := NB104_102.out
       have hnc45 := NB102_104.out
       obtain ⟨hcz46_0, hcz46_1, hcz46_2, hfz46_0, hfz46_1, hfz46_2⟩ := zD3 BK104
       go_wp2
       go_ret
       exact ⟨zE, zB⟩
      ·rw [if_neg c44] at H
       have c44b0 : decide (((rd_T66 l0_1 a1).f1) < ((rd_T66 l0_1 a1).f0)) = false := decide_eq_false c44
       clear c44
       by_cases c47 : a1 > 0
       ·rw [if_pos c47] at H
        have c47b0 : decide (0 < a1) = true := decide_eq_true c47
        clear c47
        obtain ⟨ji48, hji48⟩ : ∃ j_ : Int, (wrap64 (a1 - 1)) = j_ := ⟨_, rfl⟩
        replace H : (if 0 ≤ (ji48) then (if (ji48) < (l0_1.length : Int) then (if ((rd_T66 l0_1 a1).f0) < ((rd_T66 l0_1 (ji48)).f0) then (some 9) else (if ((rd_T66 l0_1 a1).f0) = ((rd_T66 l0_1 (ji48)).f0) then (if ((rd_T66 l0_1 a1).f1) ≤ ((rd_T66 l0_1 (ji48)).f1) then (some 9) else (some 0)) else (some 0))) else (none)) else (none)) = some r := by first | (rw [hji48] at H; exact H) | (simp only [hji48] at H ⊢; exact H)
        have hji48w : (IntKind.i64.wrap (a1 - 1)) = ji48 := (i64_w _).trans hji48
        by_cases c49 : 0 ≤ (ji48)
        ·rw [if_pos c49] at H
         have c49b0 : decide (0 ≤ (ji48)) = true := decide_eq_true c49
         clear c49
         by_cases c50 : (ji48) < (l0_1.length : Int)
         ·rw [if_pos c50] at H
          have c50b0 : decide ((ji48) < (l0_1.length : Int)) = true := decide_eq_true c50
          clear c50
          by_cases c51 : ((rd_T66 l0_1 a1).f0) < ((rd_T66 l0_1 (ji48)).f0)
          ·rw [if_pos c51] at H
           have c51b0 : decide (((rd_T66 l0_1 a1).f0) < ((rd_T66 l0_1 (ji48)).f0)) = true := decide_eq_true c51
           clear c51
           obtain rfl := Option.some.inj H
           have hnb52 := NB104_102.out
           have hnc52 := NB102_104.out
           obtain ⟨hcz53_0, hcz53_1, hcz53_2, hfz53_0, hfz53_1, hfz53_2⟩ := zD3 BK104
           obtain ⟨hcz54_0, hcz54_1, hfz54_0, hfz54_1⟩ := zD2 BK102
           have p107 : 0 ≤ ((ji48) : Int) := of_decide_eq_true ‹_›
           have q107 : (ji48) < (l0_1.length : Int) := of_decide_eq_true ‹_›
           obtain ⟨ad107, e107, hx107_0, hx107_1, hx107_2⟩ := at_T66 HR0_1.out (ji48) p107 q107
           obtain rfl : ad103 = ad107 := (by injection e107)
           replace hx107_0 := (HB.out.cell (World.block_lt_of_cell? w _ hx107_0)).trans hx107_0
           replace hx107_1 := (HB.out.cell (World.block_lt_of_cell? w _ hx107_1)).trans hx107_1
           replace hx107_2 := (HB.out.cell (World.block_lt_of_cell? w _ hx107_2)).trans hx107_2
           replace p107 := eq_true p107
           replace q107 := eq_true q107
           go_wp2_with (first | ((with_reducible refine gate_dst (N := 6) rfl ?_); refine zX 6 #[.int .i64 0, .int .i64 0, .int .i64 0] 66 ?_; intro gb108 hg w55 hbox hb; have BK108 := Aside0.mk (hbox); have GW108 := zG HB hg; have GE108 := zG HB hg; replace HB := zS HB hb; have NB102_108 := Aside0.mk ((by rw [hg]; exact Nat.ne_of_lt (blk_lt (g := gb102) (o := .cells #[.int .i64 a0_0, .slice (some ad103) l0_1.length c0_1] 24 (0, 0)) (zK BK102)) : gb102 ≠ gb108)); have NB108_102 := Aside0.mk ((by rw [hg]; exact Nat.ne_of_gt (blk_lt (g := gb102) (o := .cells #[.int .i64 a0_0, .slice (some ad103) l0_1.length c0_1] 24 (0, 0)) (zK BK102)) : gb108 ≠ gb102)); replace BK102 := zb BK102 hb; have NB104_108 := Aside0.mk ((by rw [hg]; exact Nat.ne_of_lt (blk_lt (g := gb104) (o := .cells #[.int .i64 ((rd_T66 l0_1 a1).f0), .int .i64 ((rd_T66 l0_1 a1).f1), .int .i64 ((rd_T66 l0_1 a1).f2)] 66 (0, 0)) (zK BK104)) : gb104 ≠ gb108)); have NB108_104 := Aside0.mk ((by rw [hg]; exact Nat.ne_of_gt (blk_lt (g := gb104) (o := .cells #[.int .i64 ((rd_T66 l0_1 a1).f0), .int .i64 ((rd_T66 l0_1 a1).f1), .int .i64 ((rd_T66 l0_1 a1).f2)] 66 (0, 0)) (zK BK104)) : gb108 ≠ gb104)); replace BK104 := zb BK104 hb; clear hb hbox hg; have hnb56 := NB108_102.out; have hnc56 := NB102_108.out; have hnb57 := NB108_104.out; have hnc57 := NB104_108.out; obtain ⟨hcz58_0, hcz58_1, hcz58_2, hfz58_0, hfz58_1, hfz58_2⟩ := zD3 BK108; obtain ⟨hcz59_0, hcz59_1, hcz59_2, hfz59_0, hfz59_1, hfz59_2⟩ := zD3 BK104))
           go_ret
           exact ⟨by first | rfl | (simp [errW_none, errW_some] <;> rfl) | (simp only [← hji48]; first | rfl | (simp [errW_none, errW_some] <;> rfl)) | (simp [*, errW_none, errW_some] <;> rfl), zB⟩
          ·rw [if_neg c51] at H
           have c51b0 : decide (((rd_T66 l0_1 a1).f0) < ((rd_T66 l0_1 (ji48)).f0)) = false := decide_eq_false c51
           clear c51
           by_cases c60 : ((rd_T66 l0_1 a1).f0) = ((rd_T66 l0_1 (ji48)).f0)
           ·rw [if_pos c60] at H
            have c60b0 : (((rd_T66 l0_1 a1).f0) == ((rd_T66 l0_1 (ji48)).f0)) = true := beq_iff_eq.mpr c60
            have c60b1 : (((rd_T66 l0_1 a1).f0) != ((rd_T66 l0_1 (ji48)).f0)) = false := bne_eq_false_iff_eq.mpr c60
            clear c60
            by_cases c61 : ((rd_T66 l0_1 a1).f1) ≤ ((rd_T66 l0_1 (ji48)).f1)
            ·rw [if_pos c61] at H
             have c61b0 : decide (((rd_T66 l0_1 a1).f1) ≤ ((rd_T66 l0_1 (ji48)).f1)) = true := decide_eq_true c61
             clear c61
             obtain rfl := Option.some.inj H
             have hnb62 := NB104_102.out
             have hnc62 := NB102_104.out
             obtain ⟨hcz63_0, hcz63_1, hcz63_2, hfz63_0, hfz63_1, hfz63_2⟩ := zD3 BK104
             obtain ⟨hcz64_0, hcz64_1, hfz64_0, hfz64_1⟩ := zD2 BK102
             have p107 : 0 ≤ ((ji48) : Int) := of_decide_eq_true ‹_›
             have q107 : (ji48) < (l0_1.length : Int) := of_decide_eq_true ‹_›
             obtain ⟨ad107, e107, hx107_0, hx107_1, hx107_2⟩ := at_T66 HR0_1.out (ji48) p107 q107
             obtain rfl : ad103 = ad107 := (by injection e107)
             replace hx107_0 := (HB.out.cell (World.block_lt_of_cell? w _ hx107_0)).trans hx107_0
             replace hx107_1 := (HB.out.cell (World.block_lt_of_cell? w _ hx107_1)).trans hx107_1
             replace hx107_2 := (HB.out.cell (World.block_lt_of_cell? w _ hx107_2)).trans hx107_2
             replace p107 := eq_true p107
             replace q107 := eq_true q107
             go_wp2_with (first | ((with_reducible refine gate_dst (N := 6) rfl ?_); refine zX 6 #[.int .i64 0, .int .i64 0, .int .i64 0] 66 ?_; intro gb108 hg w65 hbox hb; have BK108 := Aside0.mk (hbox); have GW108 := zG HB hg; have GE108 := zG HB hg; replace HB := zS HB hb; have NB102_108 := Aside0.mk ((by rw [hg]; exact Nat.ne_of_lt (blk_lt (g := gb102) (o := .cells #[.int .i64 a0_0, .slice (some ad103) l0_1.length c0_1] 24 (0, 0)) (zK BK102)) : gb102 ≠ gb108)); have NB108_102 := Aside0.mk ((by rw [hg]; exact Nat.ne_of_gt (blk_lt (g := gb102) (o := .cells #[.int .i64 a0_0, .slice (some ad103) l0_1.length c0_1] 24 (0, 0)) (zK BK102)) : gb108 ≠ gb102)); replace BK102 := zb BK102 hb; have NB104_108 := Aside0.mk ((by rw [hg]; exact Nat.ne_of_lt (blk_lt (g := gb104) (o := .cells #[.int .i64 ((rd_T66 l0_1 a1).f0), .int .i64 ((rd_T66 l0_1 a1).f1), .int .i64 ((rd_T66 l0_1 a1).f2)] 66 (0, 0)) (zK BK104)) : gb104 ≠ gb108)); have NB108_104 := Aside0.mk ((by rw [hg]; exact Nat.ne_of_gt (blk_lt (g := gb104) (o := .cells #[.int .i64 ((rd_T66 l0_1 a1).f0), .int .i64 ((rd_T66 l0_1 a1).f1), .int .i64 ((rd_T66 l0_1 a1).f2)] 66 (0, 0)) (zK BK104)) : gb108 ≠ gb104)); replace BK104 := zb BK104 hb; clear hb hbox hg; have hnb66 := NB108_102.out; have hnc66 := NB102_108.out; have hnb67 := NB108_104.out; have hnc67 := NB104_108.out; obtain ⟨hcz68_0, hcz68_1, hcz68_2, hfz68_0, hfz68_1, hfz68_2⟩ := zD3 BK108; obtain ⟨hcz69_0, hcz69_1, hcz69_2, hfz69_0, hfz69_1, hfz69_2⟩ := zD3 BK104))
             go_ret
             exact ⟨by first | rfl | (simp [errW_none, errW_some] <;> rfl) | (simp only [← hji48]; first | rfl | (simp [errW_none, errW_some] <;> rfl)) | (simp [*, errW_none, errW_some] <;> rfl), zB⟩
            ·rw [if_neg c61] at H
             have c61b0 : decide (((rd_T66 l0_1 a1).f1) ≤ ((rd_T66 l0_1 (ji48)).f1)) = false := decide_eq_false c61
             clear c61
             obtain rfl := Option.some.inj H
             have hnb70 := NB104_102.out
             have hnc70 := NB102_104.out
             obtain ⟨hcz71_0, hcz71_1, hcz71_2, hfz71_0, hfz71_1, hfz71_2⟩ := zD3 BK104
             obtain ⟨hcz72_0, hcz72_1, hfz72_0, hfz72_1⟩ := zD2 BK102
             have p107 : 0 ≤ ((ji48) : Int) := of_decide_eq_true ‹_›
             have q107 : (ji48) < (l0_1.length : Int) := of_decide_eq_true ‹_›
             obtain ⟨ad107, e107, hx107_0, hx107_1, hx107_2⟩ := at_T66 HR0_1.out (ji48) p107 q107
             obtain rfl : ad103 = ad107 := (by injection e107)
             replace hx107_0 := (HB.out.cell (World.block_lt_of_cell? w _ hx107_0)).trans hx107_0
             replace hx107_1 := (HB.out.cell (World.block_lt_of_cell? w _ hx107_1)).trans hx107_1
             replace hx107_2 := (HB.out.cell (World.block_lt_of_cell? w _ hx107_2)).trans hx107_2
             replace p107 := eq_true p107
             replace q107 := eq_true q107
             go_wp2_with (first | ((with_reducible refine gate_dst (N := 6) rfl ?_); refine zX 6 #[.int .i64 0, .int .i64 0, .int .i64 0] 66 ?_; intro gb108 hg w73 hbox hb; have BK108 := Aside0.mk (hbox); have GW108 := zG HB hg; have GE108 := zG HB hg; replace HB := zS HB hb; have NB102_108 := Aside0.mk ((by rw [hg]; exact Nat.ne_of_lt (blk_lt (g := gb102) (o := .cells #[.int .i64 a0_0, .slice (some ad103) l0_1.length c0_1] 24 (0, 0)) (zK BK102)) : gb102 ≠ gb108)); have NB108_102 := Aside0.mk ((by rw [hg]; exact Nat.ne_of_gt (blk_lt (g := gb102) (o := .cells #[.int .i64 a0_0, .slice (some ad103) l0_1.length c0_1] 24 (0, 0)) (zK BK102)) : gb108 ≠ gb102)); replace BK102 := zb BK102 hb; have NB104_108 := Aside0.mk ((by rw [hg]; exact Nat.ne_of_lt (blk_lt (g := gb104) (o := .cells #[.int .i64 ((rd_T66 l0_1 a1).f0), .int .i64 ((rd_T66 l0_1 a1).f1), .int .i64 ((rd_T66 l0_1 a1).f2)] 66 (0, 0)) (zK BK104)) : gb104 ≠ gb108)); have NB108_104 := Aside0.mk ((by rw [hg]; exact Nat.ne_of_gt (blk_lt (g := gb104) (o := .cells #[.int .i64 ((rd_T66 l0_1 a1).f0), .int .i64 ((rd_T66 l0_1 a1).f1), .int .i64 ((rd_T66 l0_1 a1).f2)] 66 (0, 0)) (zK BK104)) : gb108 ≠ gb104)); replace BK104 := zb BK104 hb; clear hb hbox hg; have hnb74 := NB108_102.out; have hnc74 := NB102_108.out; have hnb75 := NB108_104.out; have hnc75 := NB104_108.out; obtain ⟨hcz76_0, hcz76_1, hcz76_2, hfz76_0, hfz76_1, hfz76_2⟩ := zD3 BK108; obtain ⟨hcz77_0, hcz77_1, hcz77_2, hfz77_0, hfz77_1, hfz77_2⟩ := zD3 BK104))
             go_ret
             exact ⟨by first | rfl | (simp [errW_none, errW_some] <;> rfl) | (simp only [← hji48]; first | rfl | (simp [errW_none, errW_some] <;> rfl)) | (simp [*, errW_none, errW_some] <;> rfl), zB⟩
           ·rw [if_neg c60] at H
            have c60b0 : (((rd_T66 l0_1 a1).f0) == ((rd_T66 l0_1 (ji48)).f0)) = false := beq_eq_false_iff_ne.mpr c60
            have c60b1 : (((rd_T66 l0_1 a1).f0) != ((rd_T66 l0_1 (ji48)).f0)) = true := bne_iff_ne.mpr c60
            obtain rfl := Option.some.inj H
            have hnb78 := NB104_102.out
            have hnc78 := NB102_104.out
            obtain ⟨hcz79_0, hcz79_1, hcz79_2, hfz79_0, hfz79_1, hfz79_2⟩ := zD3 BK104
            obtain ⟨hcz80_0, hcz80_1, hfz80_0, hfz80_1⟩ := zD2 BK102
            have p107 : 0 ≤ ((ji48) : Int) := of_decide_eq_true ‹_›
            have q107 : (ji48) < (l0_1.length : Int) := of_decide_eq_true ‹_›
            obtain ⟨ad107, e107, hx107_0, hx107_1, hx107_2⟩ := at_T66 HR0_1.out (ji48) p107 q107
            obtain rfl : ad103 = ad107 := (by injection e107)
            replace hx107_0 := (HB.out.cell (World.block_lt_of_cell? w _ hx107_0)).trans hx107_0
            replace hx107_1 := (HB.out.cell (World.block_lt_of_cell? w _ hx107_1)).trans hx107_1
            replace hx107_2 := (HB.out.cell (World.block_lt_of_cell? w _ hx107_2)).trans hx107_2
            replace p107 := eq_true p107
            replace q107 := eq_true q107
            go_wp2_with (first | ((with_reducible refine gate_dst (N := 6) rfl ?_); refine zX 6 #[.int .i64 0, .int .i64 0, .int .i64 0] 66 ?_; intro gb108 hg w81 hbox hb; have BK108 := Aside0.mk (hbox); have GW108 := zG HB hg; have GE108 := zG HB hg; replace HB := zS HB hb; have NB102_108 := Aside0.mk ((by rw [hg]; exact Nat.ne_of_lt (blk_lt (g := gb102) (o := .cells #[.int .i64 a0_0, .slice (some ad103) l0_1.length c0_1] 24 (0, 0)) (zK BK102)) : gb102 ≠ gb108)); have NB108_102 := Aside0.mk ((by rw [hg]; exact Nat.ne_of_gt (blk_lt (g := gb102) (o := .cells #[.int .i64 a0_0, .slice (some ad103) l0_1.length c0_1] 24 (0, 0)) (zK BK102)) : gb108 ≠ gb102)); replace BK102 := zb BK102 hb; have NB104_108 := Aside0.mk ((by rw [hg]; exact Nat.ne_of_lt (blk_lt (g := gb104) (o := .cells #[.int .i64 ((rd_T66 l0_1 a1).f0), .int .i64 ((rd_T66 l0_1 a1).f1), .int .i64 ((rd_T66 l0_1 a1).f2)] 66 (0, 0)) (zK BK104)) : gb104 ≠ gb108)); have NB108_104 := Aside0.mk ((by rw [hg]; exact Nat.ne_of_gt (blk_lt (g := gb104) (o := .cells #[.int .i64 ((rd_T66 l0_1 a1).f0), .int .i64 ((rd_T66 l0_1 a1).f1), .int .i64 ((rd_T66 l0_1 a1).f2)] 66 (0, 0)) (zK BK104)) : gb108 ≠ gb104)); replace BK104 := zb BK104 hb; clear hb hbox hg; have hnb82 := NB108_102.out; have hnc82 := NB102_108.out; have hnb83 := NB108_104.out; have hnc83 := NB104_108.out; obtain ⟨hcz84_0, hcz84_1, hcz84_2, hfz84_0, hfz84_1, hfz84_2⟩ := zD3 BK108; obtain ⟨hcz85_0, hcz85_1, hcz85_2, hfz85_0, hfz85_1, hfz85_2⟩ := zD3 BK104))
            go_ret
            exact ⟨by first | rfl | (simp [errW_none, errW_some] <;> rfl) | (simp only [← hji48]; first | rfl | (simp [errW_none, errW_some] <;> rfl)) | (simp [*, errW_none, errW_some] <;> rfl), zB⟩
         ·rw [if_neg c50] at H
          exact absurd H (by simp)
        ·rw [if_neg c49] at H
         exact absurd H (by simp)
       ·rw [if_neg c47] at H
        have c47b0 : decide (0 < a1) = false := decide_eq_false c47
        clear c47
        obtain rfl := Option.some.inj H
        have hnb86 := NB104_102.out
        have hnc86 := NB102_104.out
        obtain ⟨hcz87_0, hcz87_1, hcz87_2, hfz87_0, hfz87_1, hfz87_2⟩ := zD3 BK104
        go_wp2
        go_ret
        exact ⟨zE, zB⟩
  ·rw [if_neg c4] at H
   exact absurd H (by simp)
 ·rw [if_neg c3] at H
  exact absurd H (by simp)
mutual
def sandpileref08_Check.j0 : Nat → Bool → Int → List (S66) → Option (Int)
 | 0, _, _, _ => none
 | k + 1, x12, x110000, x110001 => if x12 = true then (some 2) else (sandpileref08_Check.l0 k 0 x110000 x110001)
def sandpileref08_Check.l0 : Nat → Int → Int → List (S66) → Option (Int)
 | 0, _, _, _ => none
 | k + 1, x3, x110000, x110001 => if x3 < (x110001.length : Int) then ((sandpileref08_edge.f k x110000 x110001 x3).bind fun t110 => (if t110 = 0 then (sandpileref08_Check.l0 k (wrap64 (x3 + 1)) x110000 x110001) else (some t110))) else (some 0)
end
def sandpileref08_Check.f (k : Nat) (a0_0 : Int) (l0_1 : List (S66)) : Option (Int) := if a0_0 < 1 then (sandpileref08_Check.j0 k true a0_0 l0_1) else (sandpileref08_Check.j0 k (decide (a0_0 > 12)) a0_0 l0_1)
theorem sandpileref08_Check.calls (k : Nat) (a0_0 : Int) (A0_1 : Option Addr) (c0_1 : Nat) (l0_1 : List (S66)) (r : Int) (w : World) (hr0_1 : Kd.C k66 w A0_1 l0_1.length l0_1) (hc0_1 : l0_1.length ≤ c0_1) (h : sandpileref08_Check.f k a0_0 l0_1 = some r) :
  Calls Try.prog 46 #[.agg #[.int .i64 a0_0, .slice A0_1 l0_1.length c0_1]] w fun e w' => e = .returned (.int .i64 r) ∧ Below w.heap.size w w' := by
 have hu24 := Try.underlying24
 have HR0_1 := Aside0.mk hr0_1
 have HC0_1 := Aside0.mk hc0_1
 clear hr0_1 hc0_1
 have HB := Aside0.mk (Below.refl w.heap.size w)
 have H : (if a0_0 < 1 then (sandpileref08_Check.j0 k true a0_0 l0_1) else (sandpileref08_Check.j0 k (decide (a0_0 > 12)) a0_0 l0_1)) = some r := h
 clear h
 have HC2 := Aside0.mk H
 clear H
 go_enter Try.func46, Try.ntmps46
 go_upto_region 1 with (first | ((with_reducible refine gate_dst (N := 1) rfl ?_); refine zX 1 #[.int .i64 a0_0, .slice A0_1 l0_1.length c0_1] 24 ?_; intro gb109 hg w3 hbox hb; have BK109 := Aside0.mk (hbox); have GW109 := zG HB hg; have GE109 := zG HB hg; replace HB := zS HB hb; clear hb hbox hg))
 (try simp only [Act.put, List.setIfInBounds_toArray, List.set_cons_zero, List.set_cons_succ])
 go_cut [12] (fun v12 wc => ∃ (kq : Nat) (x12_1 : Bool), v12 = .bool x12_1 ∧ Aside0 (sandpileref08_Check.j0 kq x12_1 a0_0 l0_1 = some r) ∧ Aside0 (kq ≤ k) ∧ Aside0 (wc.heap[gb109]? = some (.cells #[.int .i64 a0_0, (.slice A0_1 l0_1.length c0_1)] 24 (0, 0))) ∧ Aside0 (Below w.heap.size w wc))
 case first =>
  have H := HC2.out
  clear HC2
  by_cases c4 : a0_0 < 1
  ·rw [if_pos c4] at H
   have c4b0 : decide (a0_0 < 1) = true := decide_eq_true c4
   clear c4
   (first | rw [c4b0] | (simp only [i64_w, i32_w]; rw [c4b0]) | skip)
   have H' := Aside0.mk H
   clear H
   obtain ⟨hcz5_0, hcz5_1, hfz5_0, hfz5_1⟩ := zD2 BK109
   go_wp2
   go_meet
   case rel => exact ⟨_, (true), zT, H', ⟨by first | omega | exact Nat.le_refl _⟩, ⟨zK BK109⟩, ⟨zB⟩⟩
  ·rw [if_neg c4] at H
   have c4b0 : decide (a0_0 < 1) = false := decide_eq_false c4
   clear c4
   (first | rw [c4b0] | (simp only [i64_w, i32_w]; rw [c4b0]) | skip)
   have H' := Aside0.mk H
   clear H
   obtain ⟨hcz6_0, hcz6_1, hfz6_0, hfz6_1⟩ := zD2 BK109
   go_wp2
   go_meet
   case rel => exact ⟨_, (decide (a0_0 > 12)), zT, H', ⟨by first | omega | exact Nat.le_refl _⟩, ⟨zK BK109⟩, ⟨zB⟩⟩
 case rest =>
  clear HC2
  try clear p2
  try clear c4
  try clear c4b0
  try clear hcz5_0
  try clear hcz5_1
  try clear hcz6_0
  try clear hcz6_1
  try clear hfz5_0
  try clear hfz5_1
  try clear hfz6_0
  try clear hfz6_1
  obtain ⟨kq, x12_1, rfl, HA, HJ1, BK109, HB⟩ := hcut
  cases kq with
  | zero => exact absurd HA.out (by simp [sandpileref08_Check.j0])
  | succ kj1 =>
   have H := HA.out
   clear HA
   simp only [sandpileref08_Check.j0] at H
   by_cases c7 : x12_1 = true
   ·subst c7
    have H1 : (some 2) = some r := by rw [if_pos rfl] at H; exact H
    clear H
    have H := H1
    clear H1
    obtain rfl := Option.some.inj H
    go_wp2
    go_ret
    exact ⟨zE, zB⟩
   ·replace c7 := Bool.eq_false_iff.mpr c7
    subst c7
    have H1 : (sandpileref08_Check.l0 kj1 0 a0_0 l0_1) = some r := by rw [if_neg (show ¬ (false = true) by decide)] at H; exact H
    clear H
    have H := H1
    clear H1
    have H' := Aside0.mk H
    clear H
    go_wp2
    go_loopg [3] kj1 (fun kq v3 w' => ∃ (x3_2 : Int), v3 = .int .i64 x3_2 ∧ Aside0 (sandpileref08_Check.l0 kq x3_2 a0_0 l0_1 = some r) ∧ Aside0 (kq ≤ kj1) ∧ Aside0 (w'.heap[gb109]? = some (.cells #[.int .i64 a0_0, (.slice A0_1 l0_1.length c0_1)] 24 (0, 0))) ∧ Aside0 (Below w.heap.size w w'))
    case atStart => exact ⟨(0), zT, H', ⟨Nat.le_refl _⟩, ⟨zK BK109⟩, ⟨zB⟩⟩
    case round =>
     clear H'
     try clear p2
     try clear c4
     try clear c4b0
     try clear c7
     try clear hcz5_0
     try clear hcz5_1
     try clear hcz6_0
     try clear hcz6_1
     try clear hfz5_0
     try clear hfz5_1
     try clear hfz6_0
     try clear hfz6_1
     try clear p2
     obtain ⟨x3_2, rfl, HA, HK2, BK109, HB⟩ := hrel
     cases gk with
     | zero => exact absurd HA.out (by simp [sandpileref08_Check.l0])
     | succ k2 =>
      have H := HA.out
      clear HA
      simp only [sandpileref08_Check.l0] at H
      by_cases c8 : x3_2 < (l0_1.length : Int)
      ·rw [if_pos c8] at H
       have c8b0 : decide (x3_2 < (l0_1.length : Int)) = true := decide_eq_true c8
       clear c8
       replace H := Option.bind_eq_some_iff.mp H
       obtain ⟨t110, A90, H⟩ := H
       replace H : (if t110 = 0 then (sandpileref08_Check.l0 k2 (wrap64 (x3_2 + 1)) a0_0 l0_1) else (some t110)) = some r := H
       have A9 := Aside0.mk A90
       clear A90
       by_cases c10 : t110 = 0
       ·rw [if_pos c10] at H
        have c10b0 : (t110 == 0) = true := beq_iff_eq.mpr c10
        have c10b1 : (t110 != 0) = false := bne_eq_false_iff_eq.mpr c10
        clear c10
        have H' := Aside0.mk H
        clear H
        obtain ⟨hcz11_0, hcz11_1, hfz11_0, hfz11_1⟩ := zD2 BK109
        go_wp2_with (first | ((with_reducible refine gate_callee (f := 73) rfl ?_); refine zL (some 22) Try.func73 #[.agg #[.int .i64 a0_0, .slice A0_1 l0_1.length c0_1], .int .i64 x3_2] ?_; (with_reducible refine (sandpileref08_edge.calls k2 a0_0 _ _ l0_1 x3_2 t110 _ ?side1 ?side2 A9.out).mono ?_); (case side1 => exact Kd.C_below HR0_1.out zB); (case side2 => exact HC0_1.out); rintro e w12 ⟨rfl, hb⟩; refine ⟨_, rfl, ?_⟩; replace BK109 := zb BK109 hb; replace HB := zS HB hb; (try clear hb)))
        go_roundg k2
        case measure => have := HJ1.out; have := HK2.out; omega
        case rel => exact ⟨(wrap64 (x3_2 + 1)), zT, H', ⟨by have := HJ1.out; have := HK2.out; omega⟩, ⟨zK BK109⟩, ⟨zB⟩⟩
       ·rw [if_neg c10] at H
        have c10b0 : (t110 == 0) = false := beq_eq_false_iff_ne.mpr c10
        have c10b1 : (t110 != 0) = true := bne_iff_ne.mpr c10
        obtain rfl := Option.some.inj H
        obtain ⟨hcz13_0, hcz13_1, hfz13_0, hfz13_1⟩ := zD2 BK109
        go_wp2_with (first | ((with_reducible refine gate_callee (f := 73) rfl ?_); refine zL (some 22) Try.func73 #[.agg #[.int .i64 a0_0, .slice A0_1 l0_1.length c0_1], .int .i64 x3_2] ?_; (with_reducible refine (sandpileref08_edge.calls k2 a0_0 _ _ l0_1 x3_2 t110 _ ?side1 ?side2 A9.out).mono ?_); (case side1 => exact Kd.C_below HR0_1.out zB); (case side2 => exact HC0_1.out); rintro e w14 ⟨rfl, hb⟩; refine ⟨_, rfl, ?_⟩; replace BK109 := zb BK109 hb; replace HB := zS HB hb; (try clear hb)))
        go_ret
        exact ⟨zE, zB⟩
      ·rw [if_neg c8] at H
       have c8b0 : decide (x3_2 < (l0_1.length : Int)) = false := decide_eq_false c8
       clear c8
       obtain rfl := Option.some.inj H
       obtain ⟨hcz15_0, hcz15_1, hfz15_0, hfz15_1⟩ := zD2 BK109
       go_wp2
       go_ret
       exact ⟨zE, zB⟩
def graph_vertex.f (a0 : Int) (a1 : Int) : Option (Bool) := if a1 ≥ 0 then (some (decide (a1 < a0))) else (some false)
theorem graph_vertex.calls (a0 : Int) (a1 : Int) (r : Bool) (w : World) (h : graph_vertex.f a0 a1 = some r) :
  Calls Try.prog 119 #[.int .i64 a0, .int .i64 a1] w fun e w' => e = .returned (.bool r) ∧ Drawn0 w w' := by
 have H : (if a1 ≥ 0 then (some (decide (a1 < a0))) else (some false)) = some r := h
 clear h
 by_cases c3 : a1 ≥ 0
 ·rw [if_pos c3] at H
  have c3b0 : decide (0 ≤ a1) = true := decide_eq_true c3
  clear c3
  obtain rfl := Option.some.inj H
  go_enter Try.func119, Try.ntmps119
  go_wp2
  go_ret
  exact ⟨zT, by repeat (first | exact Drawn0.refl _ | apply Drawn0.step)⟩
 ·rw [if_neg c3] at H
  have c3b0 : decide (0 ≤ a1) = false := decide_eq_false c3
  clear c3
  obtain rfl := Option.some.inj H
  go_enter Try.func119, Try.ntmps119
  go_wp2
  go_ret
  exact ⟨zT, by repeat (first | exact Drawn0.refl _ | apply Drawn0.step)⟩
def cmp_isNaN_int.f (a0 : Int) : Option (Bool) := some (a0 != a0)
theorem cmp_isNaN_int.calls (a0 : Int) (r : Bool) (w : World) (h : cmp_isNaN_int.f a0 = some r) :
  Calls Try.prog 81 #[.int .i64 a0] w fun e w' => e = .returned (.bool r) ∧ Drawn0 w w' := by
 have H : (some (a0 != a0)) = some r := h
 clear h
 obtain rfl := Option.some.inj H
 go_enter Try.func81, Try.ntmps81
 go_wp2
 go_ret
 exact ⟨zT, by repeat (first | exact Drawn0.refl _ | apply Drawn0.step)⟩
def cmp_Compare_int.f (a0 : Int) (a1 : Int) : Option (Int) := (cmp_isNaN_int.f a0).bind fun t395 => ((cmp_isNaN_int.f a1).bind fun t396 => (if t395 = true then (if t396 = true then (some 0) else (some (-1))) else (if t396 = true then (some 1) else (if a0 < a1 then (some (-1)) else (if a0 > a1 then (some 1) else (some 0))))))
theorem cmp_Compare_int.calls (a0 : Int) (a1 : Int) (r : Int) (w : World) (h : cmp_Compare_int.f a0 a1 = some r) :
  Calls Try.prog 62 #[.int .i64 a0, .int .i64 a1] w fun e w' => e = .returned (.int .i64 r) ∧ Drawn0 w w' := by
 have H : ((cmp_isNaN_int.f a0).bind fun t395 => ((cmp_isNaN_int.f a1).bind fun t396 => (if t395 = true then (if t396 = true then (some 0) else (some (-1))) else (if t396 = true then (some 1) else (if a0 < a1 then (some (-1)) else (if a0 > a1 then (some 1) else (some 0))))))) = some r := h
 clear h
 replace H := Option.bind_eq_some_iff.mp H
 obtain ⟨t395, A30, H⟩ := H
 replace H : ((cmp_isNaN_int.f a1).bind fun t396 => (if t395 = true then (if t396 = true then (some 0) else (some (-1))) else (if t396 = true then (some 1) else (if a0 < a1 then (some (-1)) else (if a0 > a1 then (some 1) else (some 0)))))) = some r := H
 have A3 := Aside0.mk A30
 clear A30
 replace H := Option.bind_eq_some_iff.mp H
 obtain ⟨t396, A40, H⟩ := H
 replace H : (if t395 = true then (if t396 = true then (some 0) else (some (-1))) else (if t396 = true then (some 1) else (if a0 < a1 then (some (-1)) else (if a0 > a1 then (some 1) else (some 0))))) = some r := H
 have A4 := Aside0.mk A40
 clear A40
 by_cases c5 : t395 = true
 ·subst c5
  have H1 : (if t396 = true then (some 0) else (some (-1))) = some r := by rw [if_pos rfl] at H; exact H
  clear H
  have H := H1
  clear H1
  by_cases c6 : t396 = true
  ·subst c6
   have H1 : (some 0) = some r := by rw [if_pos rfl] at H; exact H
   clear H
   have H := H1
   clear H1
   obtain rfl := Option.some.inj H
   go_enter Try.func62, Try.ntmps62
   go_wp2_with (first | ((with_reducible refine gate_callee (f := 81) rfl ?_); refine zL (some 8) Try.func81 #[.int .i64 a0] ?_; (with_reducible refine (cmp_isNaN_int.calls a0 true _ A3.out).mono ?_); rintro e w' ⟨rfl, ⟨nd, rfl⟩⟩; refine ⟨_, rfl, ?_⟩) | ((with_reducible refine gate_callee (f := 81) rfl ?_); refine zL (some 10) Try.func81 #[.int .i64 a1] ?_; (with_reducible refine (cmp_isNaN_int.calls a1 true _ A4.out).mono ?_); rintro e w' ⟨rfl, ⟨nd, rfl⟩⟩; refine ⟨_, rfl, ?_⟩))
   go_ret
   exact ⟨zT, by repeat (first | exact Drawn0.refl _ | apply Drawn0.step)⟩
  ·replace c6 := Bool.eq_false_iff.mpr c6
   subst c6
   have H1 : (some (-1)) = some r := by rw [if_neg (show ¬ (false = true) by decide)] at H; exact H
   clear H
   have H := H1
   clear H1
   obtain rfl := Option.some.inj H
   go_enter Try.func62, Try.ntmps62
   go_wp2_with (first | ((with_reducible refine gate_callee (f := 81) rfl ?_); refine zL (some 8) Try.func81 #[.int .i64 a0] ?_; (with_reducible refine (cmp_isNaN_int.calls a0 true _ A3.out).mono ?_); rintro e w' ⟨rfl, ⟨nd, rfl⟩⟩; refine ⟨_, rfl, ?_⟩) | ((with_reducible refine gate_callee (f := 81) rfl ?_); refine zL (some 10) Try.func81 #[.int .i64 a1] ?_; (with_reducible refine (cmp_isNaN_int.calls a1 false _ A4.out).mono ?_); rintro e w' ⟨rfl, ⟨nd, rfl⟩⟩; refine ⟨_, rfl, ?_⟩))
   go_ret
   exact ⟨zT, by repeat (first | exact Drawn0.refl _ | apply Drawn0.step)⟩
 ·replace c5 := Bool.eq_false_iff.mpr c5
  subst c5
  have H1 : (if t396 = true then (some 1) else (if a0 < a1 then (some (-1)) else (if a0 > a1 then (some 1) else (some 0)))) = some r := by rw [if_neg (show ¬ (false = true) by decide)] at H; exact H
  clear H
  have H := H1
  clear H1
  by_cases c7 : t396 = true
  ·subst c7
   have H1 : (some 1) = some r := by rw [if_pos rfl] at H; exact H
   clear H
   have H := H1
   clear H1
   obtain rfl := Option.some.inj H
   go_enter Try.func62, Try.ntmps62
   go_wp2_with (first | ((with_reducible refine gate_callee (f := 81) rfl ?_); refine zL (some 8) Try.func81 #[.int .i64 a0] ?_; (with_reducible refine (cmp_isNaN_int.calls a0 false _ A3.out).mono ?_); rintro e w' ⟨rfl, ⟨nd, rfl⟩⟩; refine ⟨_, rfl, ?_⟩) | ((with_reducible refine gate_callee (f := 81) rfl ?_); refine zL (some 10) Try.func81 #[.int .i64 a1] ?_; (with_reducible refine (cmp_isNaN_int.calls a1 true _ A4.out).mono ?_); rintro e w' ⟨rfl, ⟨nd, rfl⟩⟩; refine ⟨_, rfl, ?_⟩))
   go_ret
   exact ⟨zT, by repeat (first | exact Drawn0.refl _ | apply Drawn0.step)⟩
  ·replace c7 := Bool.eq_false_iff.mpr c7
   subst c7
   have H1 : (if a0 < a1 then (some (-1)) else (if a0 > a1 then (some 1) else (some 0))) = some r := by rw [if_neg (show ¬ (false = true) by decide)] at H; exact H
   clear H
   have H := H1
   clear H1
   by_cases c8 : a0 < a1
   ·rw [if_pos c8] at H
    have c8b0 : decide (a0 < a1) = true := decide_eq_true c8
    clear c8
    obtain rfl := Option.some.inj H
    go_enter Try.func62, Try.ntmps62
    go_wp2_with (first | ((with_reducible refine gate_callee (f := 81) rfl ?_); refine zL (some 8) Try.func81 #[.int .i64 a0] ?_; (with_reducible refine (cmp_isNaN_int.calls a0 false _ A3.out).mono ?_); rintro e w' ⟨rfl, ⟨nd, rfl⟩⟩; refine ⟨_, rfl, ?_⟩) | ((with_reducible refine gate_callee (f := 81) rfl ?_); refine zL (some 10) Try.func81 #[.int .i64 a1] ?_; (with_reducible refine (cmp_isNaN_int.calls a1 false _ A4.out).mono ?_); rintro e w' ⟨rfl, ⟨nd, rfl⟩⟩; refine ⟨_, rfl, ?_⟩))
    go_ret
    exact ⟨zT, by repeat (first | exact Drawn0.refl _ | apply Drawn0.step)⟩
   ·rw [if_neg c8] at H
    have c8b0 : decide (a0 < a1) = false := decide_eq_false c8
    clear c8
    by_cases c9 : a0 > a1
    ·rw [if_pos c9] at H
     have c9b0 : decide (a1 < a0) = true := decide_eq_true c9
     clear c9
     obtain rfl := Option.some.inj H
     go_enter Try.func62, Try.ntmps62
     go_wp2_with (first | ((with_reducible refine gate_callee (f := 81) rfl ?_); refine zL (some 8) Try.func81 #[.int .i64 a0] ?_; (with_reducible refine (cmp_isNaN_int.calls a0 false _ A3.out).mono ?_); rintro e w' ⟨rfl, ⟨nd, rfl⟩⟩; refine ⟨_, rfl, ?_⟩) | ((with_reducible refine gate_callee (f := 81) rfl ?_); refine zL (some 10) Try.func81 #[.int .i64 a1] ?_; (with_reducible refine (cmp_isNaN_int.calls a1 false _ A4.out).mono ?_); rintro e w' ⟨rfl, ⟨nd, rfl⟩⟩; refine ⟨_, rfl, ?_⟩))
     go_ret
     exact ⟨zT, by repeat (first | exact Drawn0.refl _ | apply Drawn0.step)⟩
    ·rw [if_neg c9] at H
     have c9b0 : decide (a1 < a0) = false := decide_eq_false c9
     clear c9
     obtain rfl := Option.some.inj H
     go_enter Try.func62, Try.ntmps62
     go_wp2_with (first | ((with_reducible refine gate_callee (f := 81) rfl ?_); refine zL (some 8) Try.func81 #[.int .i64 a0] ?_; (with_reducible refine (cmp_isNaN_int.calls a0 false _ A3.out).mono ?_); rintro e w' ⟨rfl, ⟨nd, rfl⟩⟩; refine ⟨_, rfl, ?_⟩) | ((with_reducible refine gate_callee (f := 81) rfl ?_); refine zL (some 10) Try.func81 #[.int .i64 a1] ?_; (with_reducible refine (cmp_isNaN_int.calls a1 false _ A4.out).mono ?_); rintro e w' ⟨rfl, ⟨nd, rfl⟩⟩; refine ⟨_, rfl, ?_⟩))
     go_ret
     exact ⟨zT, by repeat (first | exact Drawn0.refl _ | apply Drawn0.step)⟩
def cmp_Or_int.l0 : Nat → Int → List Int → Int → Int → Option (Int)
 | 0, _, _, _, _ => none
 | k + 1, x3, x6, x7, x8 => if x8 < x7 then (if 0 ≤ x8 then (if x8 < (x6.length : Int) then (if (rd x6 x8) = x3 then (cmp_Or_int.l0 k x3 x6 x7 (wrap64 (x8 + 1))) else (some (rd x6 x8))) else (none)) else (none)) else (some x3)
def cmp_Or_int.f (k : Nat) (l0 : List Int) : Option (Int) := cmp_Or_int.l0 k 0 l0 (l0.length : Int) 0
theorem cmp_Or_int.mono_l : ∀ k, (∀ y0 y1 y2 y3, LeO (cmp_Or_int.l0 k y0 y1 y2 y3) (cmp_Or_int.l0 (k + 1) y0 y1 y2 y3))
 | 0 => fun _ _ _ _ r h => by simp [cmp_Or_int.l0] at h
 | k + 1 => by
  have ih0 := cmp_Or_int.mono_l k
  ·intro y0 y1 y2 y3
   unfold cmp_Or_int.l0
   repeat' first
   | (with_reducible exact ih0 _ _ _ _)
   | (with_reducible exact LeO.refl _)
   | (with_reducible exact LeO.none _)
   | (with_reducible refine LeO.ite ?_ ?_)
   | (with_reducible refine LeO.bind ?_ (fun _ => ?_))
   | exact ih0 _ _ _ _
   | exact LeO.none _
   | refine LeO.ite ?_ ?_
   | refine LeO.bind ?_ (fun _ => ?_)
theorem cmp_Or_int.mono : ∀ a0 k, LeO (cmp_Or_int.f k a0) (cmp_Or_int.f (k + 1) a0) := by
 intro a0 k
 have ih0 := cmp_Or_int.mono_l k
 unfold cmp_Or_int.f
 repeat' first
   | (with_reducible exact ih0 _ _ _ _)
   | (with_reducible exact LeO.refl _)
   | (with_reducible exact LeO.none _)
   | (with_reducible refine LeO.ite ?_ ?_)
   | (with_reducible refine LeO.bind ?_ (fun _ => ?_))
   | exact ih0 _ _ _ _
   | exact LeO.none _
   | refine LeO.ite ?_ ?_
   | refine LeO.bind ?_ (fun _ => ?_)
theorem cmp_Or_int.calls (k : Nat) (A0 : Option Addr) (c0 : Nat) (l0 : List Int) (r : Int) (w : World) (hr0 : Kd.C (Kd.int .i64) w A0 l0.length l0) (hc0 : l0.length ≤ c0) (h : cmp_Or_int.f k l0 = some r) :
  Calls Try.prog 125 #[.slice A0 l0.length c0] w fun e w' => e = .returned (.int .i64 r) ∧ Drawn0 w w' := by
 have HR0 := Aside0.mk hr0
 have HC0 := Aside0.mk hc0
 clear hr0 hc0
 have H : (cmp_Or_int.l0 k 0 l0 (l0.length : Int) 0) = some r := h
 clear h
 have H' := Aside0.mk H
 clear H
 go_enter Try.func125, Try.ntmps125
 go_wp2
 go_loopg [8] k (fun kq v8 w' => ∃ (x8_1 : Int), v8 = .int .i64 x8_1 ∧ Aside0 (cmp_Or_int.l0 kq 0 l0 (l0.length : Int) x8_1 = some r) ∧ Aside0 (kq ≤ k) ∧ Drawn0 w w')
 case atStart => exact ⟨(0), zT, H', ⟨Nat.le_refl _⟩, by repeat (first | exact Drawn0.refl _ | apply Drawn0.step)⟩
 case round =>
  clear H'
  try clear c1
  obtain ⟨x8_1, rfl, HA, HK1, ⟨m1, rfl⟩⟩ := hrel
  cases gk with
  | zero => exact absurd HA.out (by simp [cmp_Or_int.l0])
  | succ k1 =>
   have H := HA.out
   clear HA
   simp only [cmp_Or_int.l0] at H
   by_cases c2 : x8_1 < (l0.length : Int)
   ·rw [if_pos c2] at H
    have c2b0 : decide (x8_1 < (l0.length : Int)) = true := decide_eq_true c2
    clear c2
    by_cases c3 : 0 ≤ x8_1
    ·rw [if_pos c3] at H
     have c3b0 : decide (0 ≤ x8_1) = true := decide_eq_true c3
     clear c3
     by_cases c4 : x8_1 < (l0.length : Int)
     ·rw [if_pos c4] at H
      have c4b0 : decide (x8_1 < (l0.length : Int)) = true := decide_eq_true c4
      clear c4
      by_cases c5 : (rd l0 x8_1) = 0
      ·rw [if_pos c5] at H
       have c5b0 : ((rd l0 x8_1) == 0) = true := beq_iff_eq.mpr c5
       have c5b1 : ((rd l0 x8_1) != 0) = false := bne_eq_false_iff_eq.mpr c5
       clear c5
       have H' := Aside0.mk H
       clear H
       have p403 : 0 ≤ (x8_1 : Int) := of_decide_eq_true ‹_›
       have q403 : x8_1 < (l0.length : Int) := of_decide_eq_true ‹_›
       obtain ⟨ad403, e403, hx403_0⟩ := Kd.at_int HR0.out x8_1 p403 q403
       cases e403
       replace p403 := eq_true p403
       replace q403 := eq_true q403
       go_wp2
       go_roundg k1
       case measure => have := HK1.out; omega
       case rel => exact ⟨(wrap64 (x8_1 + 1)), zT, H', ⟨by have := HK1.out; omega⟩, by repeat (first | exact Drawn0.refl _ | apply Drawn0.step)⟩
      ·rw [if_neg c5] at H
       have c5b0 : ((rd l0 x8_1) == 0) = false := beq_eq_false_iff_ne.mpr c5
       have c5b1 : ((rd l0 x8_1) != 0) = true := bne_iff_ne.mpr c5
       obtain rfl := Option.some.inj H
       have p403 : 0 ≤ (x8_1 : Int) := of_decide_eq_true ‹_›
       have q403 : x8_1 < (l0.length : Int) := of_decide_eq_true ‹_›
       obtain ⟨ad403, e403, hx403_0⟩ := Kd.at_int HR0.out x8_1 p403 q403
       cases e403
       replace p403 := eq_true p403
       replace q403 := eq_true q403
       go_wp2
       go_ret
       exact ⟨zT, by repeat (first | exact Drawn0.refl _ | apply Drawn0.step)⟩
     ·rw [if_neg c4] at H
      exact absurd H (by simp)
    ·rw [if_neg c3] at H
     exact absurd H (by simp)
   ·rw [if_neg c2] at H
    have c2b0 : decide (x8_1 < (l0.length : Int)) = false := decide_eq_false c2
    clear c2
    obtain rfl := Option.some.inj H
    go_wp2
    go_ret
    exact ⟨zT, by repeat (first | exact Drawn0.refl _ | apply Drawn0.step)⟩
def graph_pair_compare.f (k : Nat) (a0_0 : Int) (a0_1 : Int) (a1_0 : Int) (a1_1 : Int) : Option (Int) := (cmp_Compare_int.f a0_0 a1_0).bind fun t406 => ((cmp_Compare_int.f a0_1 a1_1).bind fun t407 => ((cmp_Or_int.f k (([t406, t407] : List Int))).bind fun t411 => (some t411)))
theorem graph_pair_compare.mono : ∀ a0 a1 a2 a3 k, LeO (graph_pair_compare.f k a0 a1 a2 a3) (graph_pair_compare.f (k + 1) a0 a1 a2 a3) := by
 intro a0 a1 a2 a3 k
 unfold graph_pair_compare.f
 repeat' first
   | (with_reducible exact cmp_Or_int.mono _ _)
   | (with_reducible exact LeO.refl _)
   | (with_reducible exact LeO.none _)
   | (with_reducible refine LeO.ite ?_ ?_)
   | (with_reducible refine LeO.bind ?_ (fun _ => ?_))
   | exact cmp_Or_int.mono _ _
   | exact LeO.none _
   | refine LeO.ite ?_ ?_
   | refine LeO.bind ?_ (fun _ => ?_)
def graph_pair_compare.T1 : Bool × List (List Nat × List Nat) := (true, [([], []), ([0], [0]), ([], []), ([2], [2]), ([1, 3], [1, 3]), ([], []), ([5], [5]), ([], []), ([7], [7]), ([6, 8, 4], [6, 8]), ([4, 9], [4, 9]), ([10, 9], [10]), ([11, 11, 0, 1, 2, 3, 4, 5, 6, 7, 8, 9, 10, 11], [11])])
def graph_pair_compare.B1 : List Nat := [0, 1, 0, 4, 15, 0, 32, 0, 128, 511, 1023, 2047, 4095]
theorem graph_pair_compare.tab1 : rtab .any (opsOf Try.f120 1) = graph_pair_compare.T1 := by kernel_rfl
theorem graph_pair_compare.bits1 : waitsOk graph_pair_compare.T1.2 graph_pair_compare.B1 = true := by kernel_rfl
theorem graph_pair_compare.calls (k : Nat) (a0_0 : Int) (a0_1 : Int) (a1_0 : Int) (a1_1 : Int) (r : Int) (w : World) (h : graph_pair_compare.f k a0_0 a0_1 a1_0 a1_1 = some r) :
  Calls Try.prog 120 #[.agg #[.int .i64 a0_0, .int .i64 a0_1], .agg #[.int .i64 a1_0, .int .i64 a1_1]] w fun e w' => e = .returned (.int .i64 r) ∧ Below w.heap.size w w' := by
 have hu137 := Try.underlying137
 have HB := Aside0.mk (Below.refl w.heap.size w)
 have H : ((cmp_Compare_int.f a0_0 a1_0).bind fun t406 => ((cmp_Compare_int.f a0_1 a1_1).bind fun t407 => ((cmp_Or_int.f k (([t406, t407] : List Int))).bind fun t411 => (some t411)))) = some r := h
 clear h
 replace H := Option.bind_eq_some_iff.mp H
 obtain ⟨t406, A30, H⟩ := H
 replace H : ((cmp_Compare_int.f a0_1 a1_1).bind fun t407 => ((cmp_Or_int.f k (([t406, t407] : List Int))).bind fun t411 => (some t411))) = some r := H
 have A3 := Aside0.mk A30
 clear A30
 replace H := Option.bind_eq_some_iff.mp H
 obtain ⟨t407, A40, H⟩ := H
 replace H : ((cmp_Or_int.f k (([t406, t407] : List Int))).bind fun t411 => (some t411)) = some r := H
 have A4 := Aside0.mk A40
 clear A40
 obtain ⟨y408, hy408⟩ : ∃ y_ : List Int, y_ = (([t406, t407] : List Int)) := ⟨_, rfl⟩
 replace H : ((cmp_Or_int.f k y408).bind fun t411 => (some t411)) = some r := by first | (rw [hy408]; with_reducible exact H) | (have H2_ := (Option.bind_some _ _).symm.trans H; rw [hy408]; with_reducible exact H2_) | (have H2_ := (Option.bind_some _ _).symm.trans H; with_reducible exact H2_) | with_reducible exact H | (rw [hy408]; exact H) | exact H
 have Ny408 := Aside0.mk hy408
 clear hy408
 replace H := Option.bind_eq_some_iff.mp H
 obtain ⟨t411, A50, H⟩ := H
 replace H : (some t411) = some r := H
 have A5 := Aside0.mk A50
 clear A50
 obtain rfl := Option.some.inj H
 go_enter Try.func120, Try.ntmps120
 try go_wp2_with (first | ((with_reducible refine gate_dst (N := 2) rfl ?_); refine zX 2 #[.int .i64 a0_0, .int .i64 a0_1] 137 ?_; intro gb404 hg w6 hbox hb; have BK404 := Aside0.mk (hbox); have GW404 := zG HB hg; have GE404 := zG HB hg; replace HB := zS HB hb; clear hb hbox hg) | ((with_reducible refine gate_dst (N := 3) rfl ?_); refine zX 3 #[.int .i64 a1_0, .int .i64 a1_1] 137 ?_; intro gb405 hg w7 hbox hb; have BK405 := Aside0.mk (hbox); have GW405 := zG HB hg; have GE405 := zG HB hg; replace HB := zS HB hb; have NB404_405 := Aside0.mk ((by rw [hg]; exact Nat.ne_of_lt (blk_lt (g := gb404) (o := .cells #[.int .i64 a0_0, .int .i64 a0_1] 137 (0, 0)) (zK BK404)) : gb404 ≠ gb405)); have NB405_404 := Aside0.mk ((by rw [hg]; exact Nat.ne_of_gt (blk_lt (g := gb404) (o := .cells #[.int .i64 a0_0, .int .i64 a0_1] 137 (0, 0)) (zK BK404)) : gb405 ≠ gb404)); replace BK404 := zb BK404 hb; clear hb hbox hg))
 have n0_ := Aside0.mk (blk_drew BK404.out)
 have n1_ := Aside0.mk (blk_drew BK405.out)
 have n2_ := Aside0.mk (below_drew1 HB.out)
 clear BK404
 clear BK405
 clear HB
 have BK404 := n0_
 have BK405 := n1_
 have HB := n2_
 clear n0_ n1_ n2_
 refine start_ (n := 13) (S := fun w' => w'.cell? ⟨gb404, 0, none⟩ = some (.int .i64 a0_0) ∧ w'.cell? ⟨gb404, 1, none⟩ = some (.int .i64 a0_1) ∧ w'.cell? ⟨gb405, 0, none⟩ = some (.int .i64 a1_0) ∧ w'.cell? ⟨gb405, 1, none⟩ = some (.int .i64 a1_1)) (ds := []) #[false, false, false, false, false, false, false, false, false, false, false, false, false] (by kernel_rfl) rfl rfl ⟨(blk_cell BK404.out 0).trans rfl, (blk_cell BK404.out 1).trans rfl, (blk_cell BK405.out 0).trans rfl, (blk_cell BK405.out 1).trans rfl⟩ (fun hHeld => ?_); refine with_tabW graph_pair_compare.tab1 graph_pair_compare.bits1 (fun HT_ HW_ => ?_)
 generalize w7.drew = w8 at BK404 BK405 HB hHeld ⊢
 refine pure_ (i := 0) (N := some 5) (v := ?_) (a' := ?_) #[true, false, false, false, false, false, false, false, false, false, false, false, false] rfl rfl (any_of HT_.out (by kernel_rfl)) (fun _ _ _ h => h) (Or.inl ⟨by rfl, ?_⟩) ?_ ?_
 rotate_left
 ·intro w'
  go_simp
  with_reducible rfl
 rotate_left
 ·simp only [Act.put, List.setIfInBounds_toArray, List.set_cons_zero, List.set_cons_succ, i64_w, i32_w]
  rfl
 refine pure_ (i := 2) (N := some 7) (v := ?_) (a' := ?_) #[true, false, true, false, false, false, false, false, false, false, false, false, false] rfl rfl (any_of HT_.out (by kernel_rfl)) (fun _ _ _ h => h) (Or.inl ⟨by rfl, ?_⟩) ?_ ?_
 rotate_left
 ·intro w'
  go_simp
  with_reducible rfl
 rotate_left
 ·simp only [Act.put, List.setIfInBounds_toArray, List.set_cons_zero, List.set_cons_succ, i64_w, i32_w]
  rfl
 refine pure_ (i := 5) (N := some 10) (v := ?_) (a' := ?_) #[true, false, true, false, false, true, false, false, false, false, false, false, false] rfl rfl (any_of HT_.out (by kernel_rfl)) (fun _ _ _ h => h) (Or.inl ⟨by rfl, ?_⟩) ?_ ?_
 rotate_left
 ·intro w'
  go_simp
  with_reducible rfl
 rotate_left
 ·simp only [Act.put, List.setIfInBounds_toArray, List.set_cons_zero, List.set_cons_succ, i64_w, i32_w]
  rfl
 refine pure_ (i := 7) (N := some 12) (v := ?_) (a' := ?_) #[true, false, true, false, false, true, false, true, false, false, false, false, false] rfl rfl (any_of HT_.out (by kernel_rfl)) (fun _ _ _ h => h) (Or.inl ⟨by rfl, ?_⟩) ?_ ?_
 rotate_left
 ·intro w'
  go_simp
  with_reducible rfl
 rotate_left
 ·simp only [Act.put, List.setIfInBounds_toArray, List.set_cons_zero, List.set_cons_succ, i64_w, i32_w]
  rfl
 refine take_ (i := 1) (N := some 6) (v := ?_) (a' := ?_) #[true, true, true, false, false, true, false, true, false, false, false, false, false] rfl rfl (take_ofW HT_.out HW_.out (by kernel_rfl)) (fun _ _ _ h => h) (Or.inl ⟨by rfl, ?_⟩) hHeld ?_ ?_
 rotate_left
 ·rintro w' ⟨s0, s1, s2, s3⟩
  go_simp
  with_reducible rfl
 rotate_left
 ·simp only [Act.put, List.setIfInBounds_toArray, List.set_cons_zero, List.set_cons_succ, i64_w, i32_w]
  rfl
 refine take_ (i := 3) (N := some 8) (v := ?_) (a' := ?_) #[true, true, true, true, false, true, false, true, false, false, false, false, false] rfl rfl (take_ofW HT_.out HW_.out (by kernel_rfl)) (fun _ _ _ h => h) (Or.inl ⟨by rfl, ?_⟩) hHeld ?_ ?_
 rotate_left
 ·rintro w' ⟨s0, s1, s2, s3⟩
  go_simp
  with_reducible rfl
 rotate_left
 ·simp only [Act.put, List.setIfInBounds_toArray, List.set_cons_zero, List.set_cons_succ, i64_w, i32_w]
  rfl
 refine take_ (i := 6) (N := some 11) (v := ?_) (a' := ?_) #[true, true, true, true, false, true, true, true, false, false, false, false, false] rfl rfl (take_ofW HT_.out HW_.out (by kernel_rfl)) (fun _ _ _ h => h) (Or.inl ⟨by rfl, ?_⟩) hHeld ?_ ?_
 rotate_left
 ·rintro w' ⟨s0, s1, s2, s3⟩
  go_simp
  with_reducible rfl
 rotate_left
 ·simp only [Act.put, List.setIfInBounds_toArray, List.set_cons_zero, List.set_cons_succ, i64_w, i32_w]
  rfl
 refine take_ (i := 8) (N := some 13) (v := ?_) (a' := ?_) #[true, true, true, true, false, true, true, true, true, false, false, false, false] rfl rfl (take_ofW HT_.out HW_.out (by kernel_rfl)) (fun _ _ _ h => h) (Or.inl ⟨by rfl, ?_⟩) hHeld ?_ ?_
 rotate_left
 ·rintro w' ⟨s0, s1, s2, s3⟩
  go_simp
  with_reducible rfl
 rotate_left
 ·simp only [Act.put, List.setIfInBounds_toArray, List.set_cons_zero, List.set_cons_succ, i64_w, i32_w]
  rfl
 refine one_ (i := 4) (N := some 9) #[true, true, true, true, true, true, true, true, true, false, false, false, false] rfl rfl (one_of HT_.out (by kernel_rfl)) (by decide) (fun K hK => ?_)
 refine goes_ Try.func62 (by kernel_rfl) rfl #[.int .i64 a0_0, .int .i64 a1_0] (by rfl) rfl rfl (by (try simp only [List.map_toArray, List.map_cons, List.map_nil]); first | done | rfl | (simp only [List.length_drop, List.length_take]; rfl)) ?_
 with_reducible refine (cmp_Compare_int.calls a0_0 a1_0 t406 _ A3.out).mono ?_
 rintro e w' ⟨rfl, ⟨nd, rfl⟩⟩
 refine ⟨_, rfl, ?_⟩
 refine hK.out _ _ ⟨(blk_cell BK404.out 0).trans rfl, (blk_cell BK404.out 1).trans rfl, (blk_cell BK405.out 0).trans rfl, (blk_cell BK405.out 1).trans rfl⟩ (fun hHeld => ?_)
 clear hK K
 refine norm_ (a' := ?_) ?_ ?_
 rotate_left
 ·show Act.put _ (some 9) _ = _
  simp only [Act.put, List.setIfInBounds_toArray, List.set_cons_zero, List.set_cons_succ, i64_w, i32_w]
  rfl
 refine one_ (i := 9) (N := some 14) #[true, true, true, true, true, true, true, true, true, true, false, false, false] rfl rfl (one_of HT_.out (by kernel_rfl)) (by decide) (fun K hK => ?_)
 refine goes_ Try.func62 (by kernel_rfl) rfl #[.int .i64 a0_1, .int .i64 a1_1] (by rfl) rfl rfl (by (try simp only [List.map_toArray, List.map_cons, List.map_nil]); first | done | rfl | (simp only [List.length_drop, List.length_take]; rfl)) ?_
 with_reducible refine (cmp_Compare_int.calls a0_1 a1_1 t407 _ A4.out).mono ?_
 rintro e w' ⟨rfl, ⟨nd, rfl⟩⟩
 refine ⟨_, rfl, ?_⟩
 refine hK.out _ _ ⟨(blk_cell BK404.out 0).trans rfl, (blk_cell BK404.out 1).trans rfl, (blk_cell BK405.out 0).trans rfl, (blk_cell BK405.out 1).trans rfl⟩ (fun hHeld => ?_)
 clear hK K
 refine norm_ (a' := ?_) ?_ ?_
 rotate_left
 ·show Act.put _ (some 14) _ = _
  simp only [Act.put, List.setIfInBounds_toArray, List.set_cons_zero, List.set_cons_succ, i64_w, i32_w]
  rfl
 refine one_ (i := 10) (N := some 15) #[true, true, true, true, true, true, true, true, true, true, true, false, false] rfl rfl (one_of HT_.out (by kernel_rfl)) (by decide) (fun K hK => ?_)
 refine Kd.R_lit_step (Kd.int .i64) _ 3 ?hg (N := 15) ?hd (xs := ([t406, t407] : List Int)) (inner := [.int .i64 t406, .int .i64 t407]) (ok := fun _ => True) (okp := fun _ => True) ?hr ?hp (fun _ hk => hk) trivial (Below.refl _ _) (Nat.le_refl _) (by simp) ?_; (case hd => rfl); (case hg => rfl); (case hr => first | (go_simp; done) | (go_simp; rfl)); (case hp => exact (Reps.one (show Kd.M (Kd.int .i64) _ _ _ t406 [.int .i64 t406] from rfl) (Reps.one (show Kd.M (Kd.int .i64) _ _ _ t407 [.int .i64 t407] from rfl) (Reps.none _ _))))
 intro v409 w9 ho10 hb hg_ hnew_
 clear hg_ hnew_
 (first | rw [← Ny408.out] at ho10 | (simp only [Int.reduceToNat] at ho10; rw [← Ny408.out] at ho10))
 have n0_ := Aside0.mk (Kd.R_lower ho10 (below_size zB))
 have n1_ := zb BK404 hb
 have n2_ := zb BK405 hb
 have n3_ := zS HB hb
 clear BK404
 clear BK405
 clear HB
 have HO410 := n0_
 have BK404 := n1_
 have BK405 := n2_
 have HB := n3_
 clear n0_ n1_ n2_ n3_
 clear hb ho10
 obtain ⟨Ao11, co11, eo11⟩ := Kd.R_slice HO410.out
 (first | subst eo11 | (injection eo11 with f1_ f2_ f3_; have f4_ := f1_.symm; have f5_ := f3_.symm; clear f1_ f2_ f3_; subst f4_; subst f5_))
 refine hK.out _ _ ⟨(blk_cell BK404.out 0).trans rfl, (blk_cell BK404.out 1).trans rfl, (blk_cell BK405.out 0).trans rfl, (blk_cell BK405.out 1).trans rfl⟩ (fun hHeld => ?_)
 clear hK K
 refine norm_ (a' := ?_) ?_ ?_
 rotate_left
 ·show Act.put _ (some 15) _ = _
  simp only [Act.put, List.setIfInBounds_toArray, List.set_cons_zero, List.set_cons_succ, i64_w, i32_w]
  rfl
 refine one_ (i := 11) (N := some 16) #[true, true, true, true, true, true, true, true, true, true, true, true, false] rfl rfl (one_of HT_.out (by kernel_rfl)) (by decide) (fun K hK => ?_)
 refine goes_ Try.func125 (by kernel_rfl) rfl #[.slice Ao11 y408.length co11] (by rfl) rfl rfl (by (try simp only [List.map_toArray, List.map_cons, List.map_nil]); first | done | rfl | (simp only [List.length_drop, List.length_take]; rfl)) ?_
 with_reducible refine (cmp_Or_int.calls k _ _ y408 t411 _ ?side1 ?side2 A5.out).mono ?_
 (case side1 => exact zC (Kd.R_reads' HO410.out).2.2)
 (case side2 => exact (Kd.R_reads' HO410.out).2.1)
 rintro e w' ⟨rfl, ⟨nd, rfl⟩⟩
 refine ⟨_, rfl, ?_⟩
 refine hK.out _ _ ⟨(blk_cell BK404.out 0).trans rfl, (blk_cell BK404.out 1).trans rfl, (blk_cell BK405.out 0).trans rfl, (blk_cell BK405.out 1).trans rfl⟩ (fun hHeld => ?_)
 clear hK K
 refine norm_ (a' := ?_) ?_ ?_
 rotate_left
 ·show Act.put _ (some 16) _ = _
  simp only [Act.put, List.setIfInBounds_toArray, List.set_cons_zero, List.set_cons_succ, i64_w, i32_w]
  rfl
 refine pure_ (i := 12) (N := some 4) (v := ?_) (a' := ?_) #[true, true, true, true, true, true, true, true, true, true, true, true, true] rfl rfl (any_of HT_.out (by kernel_rfl)) (fun _ _ _ h => h) (Or.inl ⟨by rfl, ?_⟩) ?_ ?_
 rotate_left
 ·intro w'
  go_simp
  with_reducible rfl
 rotate_left
 ·simp only [Act.put, List.setIfInBounds_toArray, List.set_cons_zero, List.set_cons_succ, i64_w, i32_w]
  rfl
 refine done_ (done_of HT_.out (by kernel_rfl)) ?_
 try go_wp2
 go_ret
 exact ⟨zE, zB⟩
end Go.Proofs.Ytffdiakgjakngaa.P
