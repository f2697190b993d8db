/- A part of the proof that SuperstableBelow answers true (text 2 of 12): own walks and plain laws; no conditions. -/
import Derived.ArgAppend
import Derived.Below
import Derived.BigQuiet
import Derived.BigRegion
import Derived.Deep.AppendLies
import Derived.Deep.CutBlock
import Derived.Deep.DeepCutAuto
import Derived.Deep.Draws
import Derived.Deep.LoopGhost
import Derived.Deep.OwnRows
import Derived.Deep.QuietTactic
import Derived.Deep.RegionHeld3
import Derived.KernelRfl
import Derived.Laws.BitsLemmas
import Derived.Laws.BytesArg
import Derived.Laws.IdiomCopy
import Derived.Laws.MakeOwn
import Derived.Laws.OwnMore
import Derived.Laws.Rows
import Derived.Laws.Slices
import Derived.Lib.AppendStr
import Derived.Lib.ConvBytes
import Derived.Lib.Hide
import Derived.LoopIn
import Derived.LoopNIn
import Derived.Maps.AppendAt
import Derived.OrdersHeld
import Derived.Outline
import Derived.OwnWalk
import Derived.OwnWalkIn
import Derived.RangeFuncBound
import Derived.RangeFuncCalls
import Derived.RangeFuncLeaves
import Derived.RangeFuncNested
import Derived.RegionIn
import Derived.RegionTactic
import Derived.RowKit
import Derived.RowKit3
import Derived.Shelf.RegionOpen
import Derived.Sort.LoopGhostIn
import Derived.Tactics
import Derived.TacticsInMore
import Derived.Test.YtffdiakgjakngaaProg
import Derived.WalkKit
import Derived.WalkSpells
import Derived.WideLaws
import Derived.Test.YtffdiakgjakngaaBelow1
namespace Go.Proofs.Ytffdiakgjakngaa.P
open Go.RowKit Go.Proofs.YtffdiakgjakngaaW.PrintWords Go.Proofs.YtffdiakgjakngaaW.PrintLast Go.Proofs.YtffdiakgjakngaaW.PrintMore
set_option linter.unusedVariables false
set_option linter.unusedSimpArgs false
set_option maxHeartbeats 8000000
set_option maxRecDepth 100000
section
section
variable {w W W0 W' : World}
theorem zB (h : Below w.heap.size w W := by repeat (first | (with_reducible first | exact Aside0.out (by assumption) | apply below_alloc | apply pw_below_drewN | apply below_drew1 | refine below_set ?_ (Aside0.out (by assumption))) | exact Aside0.out (by assumption))) : Below w.heap.size w W := h
theorem zS (HB : Aside0 (Below w.heap.size w W0)) (hb : Below W.heap.size W W') (h : Below w.heap.size w W := by repeat (first | (with_reducible first | exact Aside0.out (by assumption) | apply below_alloc | apply pw_below_drewN | apply below_drew1 | refine below_set ?_ (Aside0.out (by assumption))) | exact Aside0.out (by assumption))) : Aside0 (Below w.heap.size w W') := ⟨below_step h hb⟩
theorem zG {g : Nat} (HB : Aside0 (Below w.heap.size w W0)) (hg : g = W.heap.size) (h : Below w.heap.size w W := by repeat (first | (with_reducible first | exact Aside0.out (by assumption) | apply below_alloc | apply pw_below_drewN | apply below_drew1 | refine below_set ?_ (Aside0.out (by assumption))) | exact Aside0.out (by assumption))) : Aside0 (w.heap.size ≤ g) := ⟨by rw [hg]; exact below_size h⟩
theorem zK {g : Nat} {o : Obj} (h : Aside0 (W0.heap[g]? = some o)) (c : W0.heap[g]? = some o → W.heap[g]? = some o := by intro h; (with_reducible repeat (first | refine blk_drewN ?_ _ | refine blk_drew ?_ | refine blk_alloc ?_ _)); exact h) : W.heap[g]? = some o := c h.out
theorem zk {g : Nat} {o : Obj} (h : W0.heap[g]? = some o) (c : W0.heap[g]? = some o → W.heap[g]? = some o := by intro h; (with_reducible repeat (first | refine blk_drewN ?_ _ | refine blk_drew ?_ | refine blk_alloc ?_ _)); exact h) : W.heap[g]? = some o := c h
theorem zb {g : Nat} {o : Obj} (h : Aside0 (W0.heap[g]? = some o)) (hb : Below W.heap.size W W') (c : W0.heap[g]? = some o → W.heap[g]? = some o := by intro h; (with_reducible repeat (first | refine blk_drewN ?_ _ | refine blk_drew ?_ | refine blk_alloc ?_ _)); exact h) : Aside0 (W'.heap[g]? = some o) := ⟨blk_below (c h.out) hb⟩
section
variable {α : Type} {d : Kd α} {e base : Nat} {ok : Nat → Prop} {v : Value} {xs : List α} {A : Option Addr} {n : Nat}
theorem zR (h : Aside0 (d.R e W0 base ok v xs)) (c : d.R e W0 base ok v xs → d.R e W base ok v xs := by intro h; (with_reducible repeat (first | apply Kd.R_alloc | apply Kd.R_drewN | apply Kd.R_drew)); exact h) : d.R e W base ok v xs := c h.out
theorem zN (h : Aside0 (d.N e W0 base ok v xs)) (c : d.N e W0 base ok v xs → d.N e W base ok v xs := by intro h; (with_reducible repeat (first | apply Kd.N_alloc | apply Kd.N_drewN | apply Kd.N_drew)); exact h) : d.N e W base ok v xs := c h.out
theorem zbR (h : Aside0 (d.R e W0 base ok v xs)) (hb : Below W.heap.size W W') (c : d.R e W0 base ok v xs → d.R e W base ok v xs := by intro h; (with_reducible repeat (first | apply Kd.R_alloc | apply Kd.R_drewN | apply Kd.R_drew)); exact h) : Aside0 (d.R e W' base ok v xs) := ⟨Kd.R_below (c h.out) hb⟩
section
variable {β : Type} {d2 : Kd β} {e2 : Nat} {ok2 : Nat → Prop} {u : Value} {ys : List β} {w2 : World}
theorem zeRR (h : Aside0 (d.R e W0 base ok v xs)) (hb : d2.R e2 w2 W.heap.size ok2 u ys) (hB : Below W.heap.size W W') (c : d.R e W0 base ok v xs → d.R e W base ok v xs := by intro h; (with_reducible repeat (first | apply Kd.R_alloc | apply Kd.R_drewN | apply Kd.R_drew)); exact h) : Aside0 (d.R e W' base (fun k => ok k ∧ some k ≠ u.ownBlock) v xs) := ⟨Kd.R_elder' (c h.out) (Kd.R_base hb) hB⟩
theorem zeNR (h : Aside0 (d.N e W0 base ok v xs)) (hb : d2.R e2 w2 W.heap.size ok2 u ys) (hB : Below W.heap.size W W') (c : d.N e W0 base ok v xs → d.N e W base ok v xs := by intro h; (with_reducible repeat (first | apply Kd.N_alloc | apply Kd.N_drewN | apply Kd.N_drew)); exact h) : Aside0 (d.N e W' base (fun k => ok k ∧ some k ≠ u.ownBlock) v xs) := ⟨Kd.N_elder' (c h.out) (Kd.R_base hb) hB⟩
theorem zeNN (h : Aside0 (d.N e W0 base ok v xs)) (hb : d2.N e2 w2 W.heap.size ok2 u ys) (hB : Below W.heap.size W W') (c : d.N e W0 base ok v xs → d.N e W base ok v xs := by intro h; (with_reducible repeat (first | apply Kd.N_alloc | apply Kd.N_drewN | apply Kd.N_drew)); exact h) : Aside0 (d.N e W' base (fun k => ok k ∧ some k ≠ u.ownBlock) v xs) := ⟨Kd.N_elder' (c h.out) (Kd.N_base hb) hB⟩
end
theorem zC (h : d.C W0 A n xs) (c : d.C W0 A n xs → d.C W A n xs := by intro h; repeat (first | exact h | (with_reducible refine Kd.C_alloc ?_ _) | (with_reducible refine Kd.C_drewN ?_ _) | (with_reducible refine Kd.C_drew ?_))) : d.C W A n xs := c h
end
section
variable {g : Nat} {a b c : Value} {l : List Value} {t : TypeId}
theorem z0 (h : Aside0 (W.heap[g]? = some (.cells (List.toArray (a :: l)) t (0, 0)))) : W.cell? ⟨g, 0, none⟩ = some a := (blk_cell h.out 0).trans rfl
theorem z1 (h : Aside0 (W.heap[g]? = some (.cells (List.toArray (a :: b :: l)) t (0, 0)))) : W.cell? ⟨g, 1, none⟩ = some b := (blk_cell h.out 1).trans rfl
theorem z2 (h : Aside0 (W.heap[g]? = some (.cells (List.toArray (a :: b :: c :: l)) t (0, 0)))) : W.cell? ⟨g, 2, none⟩ = some c := (blk_cell h.out 2).trans rfl
theorem zD2 (h : Aside0 (W.heap[g]? = some (.cells #[a, b] t (0, 0)))) : W.cell? ⟨g, 0, none⟩ = some a ∧ W.cell? ⟨g, 1, none⟩ = some b ∧ W.frozen? ⟨g, 0, none⟩ = false ∧ W.frozen? ⟨g, 1, none⟩ = false := ⟨z0 h, z1 h, blk_frozen h.out 0, blk_frozen h.out 1⟩
theorem zD3 (h : Aside0 (W.heap[g]? = some (.cells #[a, b, c] t (0, 0)))) : W.cell? ⟨g, 0, none⟩ = some a ∧ W.cell? ⟨g, 1, none⟩ = some b ∧ W.cell? ⟨g, 2, none⟩ = some c ∧ W.frozen? ⟨g, 0, none⟩ = false ∧ W.frozen? ⟨g, 1, none⟩ = false ∧ W.frozen? ⟨g, 2, none⟩ = false := ⟨z0 h, z1 h, z2 h, blk_frozen h.out 0, blk_frozen h.out 1, blk_frozen h.out 2⟩
end
end
theorem zE {p : Prop} (h : p := by first | rfl | (simp [errW_none, errW_some] <;> rfl) | (simp [*, errW_none, errW_some] <;> rfl)) : p := h
theorem zT {p : Prop} (h : p := by first | rfl | (simp; done) | (simp [*]; done)) : p := h
section
variable {P : Program} {ops : Array Oper} {Q : Exit → Act → World → Prop}
theorem zL {rest : List Oper} {oi : Oper} {a : Act} {w : World} {f : FuncId} {fn : Func} {aa : Array Operand} {ts : Array TypeId} (N : Option Tmp) (hf : P.funcs[f]? = some fn) (args : Array Value)
  (h : Calls P f args w fun e w' => ∃ v, e = .returned v ∧ wpList P ops Q rest (a.put N v) w') (hd : oi.dst = N := by exact rfl) (hg : oi.guard = none := by exact rfl) (hname : (fn.name == "runtime.NumGoroutine") = false := by kernel_rfl) (hb : fn.body.isSome = true := by exact rfl)
  (hop : oi.op = .call { callee := .value (.func f), args := aa, argTypes := ts } := by exact rfl) (hargs : aa.map a.eval = args := by (try simp only [List.map_toArray, List.map_cons, List.map_nil]); first | done | rfl | (simp only [List.length_drop, List.length_take]; rfl)) : wpList P ops Q (oi :: rest) a w :=
 goesL_ N hd hg hf hname hb args hop hargs h
theorem zX {rest : List Oper} {o : Oper} {a : Act} {W : World} (N : Tmp) (cs : Array Value) (t : TypeId)
  (h : ∀ g, g = W.heap.size → ∀ w1, w1.heap[g]? = some (.cells cs t (0, 0)) → Below W.heap.size W w1 → wpList P ops Q rest (a.put o.dst (.pointer (some ⟨g, 0, none⟩))) w1) (hg : o.guard = none := by exact rfl) (hd : o.dst = some N := by exact rfl)
  (hr : (execOp a.eval o).run P W = .ok (.value (.pointer (some ⟨W.heap.size, 0, none⟩))) (W.alloc (.cells cs t (0, 0))) := by first | (go_simp; done) | (go_simp; rfl)) : wpList P ops Q (o :: rest) a W := box_event hg hd hr h
end
end
def errW : Option Int → Value
 | none => .nilIface
 | some c => .iface 0 (.int .i64 c)
theorem errW_none : errW none = .nilIface := rfl
theorem errW_some (c : Int) : errW (some c) = .iface 0 (.int .i64 c) := rfl
theorem info3 : (Try.prog.info? 3).map (fun i => (i.zero, i.size, i.bytes)) = some (some (.int .i64 0), 1, 8) := by kernel_rfl
theorem info4 : (Try.prog.info? 4).map (fun i => (i.zero, i.size, i.bytes)) = some (some (.bool false), 1, 1) := by kernel_rfl
theorem info33 : (Try.prog.info? 33).map (fun i => (i.zero, i.size, i.bytes)) = some (some (.slice none 0 0), 1, 24) := by kernel_rfl
theorem info42 : (Try.prog.info? 42).map (fun i => (i.zero, i.size, i.bytes)) = some (some (.slice none 0 0), 1, 24) := by kernel_rfl
structure S66 where
 f0 : Int
 f1 : Int
 f2 : Int
def z66 : S66 := ⟨(0 : Int), (0 : Int), (0 : Int)⟩
def k66 : Kd S66 := Kd.iso (Kd.pair (Kd.int .i64) (Kd.pair (Kd.int .i64) (Kd.int .i64))) (fun x : S66 => (x.f0, x.f1, x.f2))
theorem k66_open {w : World} {x : S66} {cs : List Value} (h : k66.K w x cs) : cs = [.int .i64 x.f0, .int .i64 x.f1, .int .i64 x.f2] := by
 obtain ⟨_, _, rfl, rfl, ⟨_, _, rfl, rfl, rfl⟩⟩ := h
 exact rfl
theorem k66_mk (w : World) (x : S66)  : k66.K w x [.int .i64 x.f0, .int .i64 x.f1, .int .i64 x.f2] := ⟨[.int .i64 x.f0], [.int .i64 x.f1, .int .i64 x.f2], rfl, rfl, ⟨[.int .i64 x.f1], [.int .i64 x.f2], rfl, rfl, rfl⟩⟩
theorem k66_mkM (w : World) (base : Nat) (ok : Nat → Prop) (x : S66)  : k66.M w base ok x [.int .i64 x.f0, .int .i64 x.f1, .int .i64 x.f2] := ⟨[.int .i64 x.f0], [.int .i64 x.f1, .int .i64 x.f2], rfl, rfl, ⟨[.int .i64 x.f1], [.int .i64 x.f2], rfl, rfl, rfl⟩⟩
def rd_T66 (xs : List S66) (i : Int) : S66 := xs.getD i.toNat z66
theorem at_T66 {w : World} {A : Option Addr} {n : Nat} {xs : List S66} (h : Kd.C k66 w A n xs) (i : Int) (h0 : 0 ≤ i) (h1 : i < n) : ∃ ad , A = some ad ∧ w.cell? (ad.add (i.toNat * 3)) = some (.int .i64 (rd_T66 xs i).f0) ∧ w.cell? ⟨(ad.add (i.toNat * 3)).block, (ad.add (i.toNat * 3)).off + 1, none⟩ = some (.int .i64 (rd_T66 xs i).f1) ∧ w.cell? ⟨(ad.add (i.toNat * 3)).block, (ad.add (i.toNat * 3)).off + 2, none⟩ = some (.int .i64 (rd_T66 xs i).f2) := by
 obtain ⟨ad, c, e, _, hK, hc0⟩ := Kd.C_get h z66 i h0 h1
 have hc : ∀ j u, c[j]? = some u → w.cell? (ad.add (i.toNat * 3 + j)) = some u := hc0
 obtain rfl := k66_open hK
 exact ⟨ad, e, hc 0 _ rfl, by rw [← add_field _ _ 1 (by omega)]; exact hc 1 _ rfl, by rw [← add_field _ _ 2 (by omega)]; exact hc 2 _ rfl⟩
def rd_L2 (xs : List (List Int)) (i : Int) : (List Int) := xs.getD i.toNat ([] : List Int)
theorem at_L2 {w : World} {A : Option Addr} {n : Nat} {xs : List (List Int)} (h : Kd.C (Kd.slice 3 (Kd.int .i64)) w A n xs) (i : Int) (h0 : 0 ≤ i) (h1 : i < n) : ∃ ad A0 c0, A = some ad ∧ w.cell? (ad.add i.toNat) = some (.slice A0 (rd_L2 xs i).length c0) ∧ (rd_L2 xs i).length ≤ c0 ∧ (Kd.int .i64).C w A0 (rd_L2 xs i).length (rd_L2 xs i) := by
 obtain ⟨ad, c, e, _, hK, hc0⟩ := Kd.C_get h ([] : List Int) i h0 h1
 have hc : ∀ j u, c[j]? = some u → w.cell? (ad.add (i.toNat * 1 + j)) = some u := hc0
 obtain ⟨A0, c0, rfl, l0, g0⟩ := hK
 exact ⟨ad, A0, c0, e, by have hq := hc 0 _ rfl; rwa [Nat.mul_one, Nat.add_zero] at hq, l0, g0⟩
section
structure WoodCells (cs : Array Value) (n : Int) (times : Nat → Nat → Int) (chips : Value) (burnt : Nat → Bool) : Prop where
 size : cs.size = 158
 n : cs[0]? = some (.int .i64 n)
 times : ∀ i j, i < 12 → j < 12 → cs[1 + i * 12 + j]? = some (.int .i64 (times i j))
 chips : cs[145]? = some chips
 burnt : ∀ i, i < 12 → cs[146 + i]? = some (.bool (burnt i))
def WoodAt (w : World) (g : Nat) (n : Int) (times : Nat → Nat → Int) (chips : Value) (burnt : Nat → Bool) : Prop :=
 ∃ cs : Array Value, w.heap[g]? = some (.cells cs 120 (0, 0)) ∧ WoodCells cs n times chips burnt
namespace WoodAt
variable {w w' : World} {g : Nat} {n : Int} {times : Nat → Nat → Int} {chips : Value} {burnt : Nat → Bool}
theorem lt (h : WoodAt w g n times chips burnt) : g < w.heap.size := by
 obtain ⟨cs, hb, _⟩ := h
 exact (Array.getElem?_eq_some_iff.1 hb).1
theorem cellAt {cs : Array Value} {k : Nat} {v : Value} (hb : w.heap[g]? = some (.cells cs 120 (0, 0))) (hv : cs[k]? = some v) : w.cell? ⟨g, k, none⟩ = some v := (blk_cell hb k).trans hv
theorem cell_n (h : WoodAt w g n times chips burnt) : w.cell? ⟨g, 0, none⟩ = some (.int .i64 n) := by
 obtain ⟨cs, hb, hc⟩ := h
 exact cellAt hb hc.n
theorem cell_times (h : WoodAt w g n times chips burnt) (i j : Nat) (hi : i < 12) (hj : j < 12) : w.cell? ⟨g, 1 + i * 12 + j, none⟩ = some (.int .i64 (times i j)) := by
 obtain ⟨cs, hb, hc⟩ := h
 exact cellAt hb (hc.times i j hi hj)
theorem cell_chips (h : WoodAt w g n times chips burnt) : w.cell? ⟨g, 145, none⟩ = some chips := by
 obtain ⟨cs, hb, hc⟩ := h
 exact cellAt hb hc.chips
theorem cell_burnt (h : WoodAt w g n times chips burnt) (i : Nat) (hi : i < 12) : w.cell? ⟨g, 146 + i, none⟩ = some (.bool (burnt i)) := by
 obtain ⟨cs, hb, hc⟩ := h
 exact cellAt hb (hc.burnt i hi)
theorem frozen (h : WoodAt w g n times chips burnt) (k : Nat) : w.frozen? ⟨g, k, none⟩ = false := by
 obtain ⟨cs, hb, _⟩ := h
 exact blk_frozen hb k
theorem below (h : WoodAt w g n times chips burnt) (hb : Below w.heap.size w w') : WoodAt w' g n times chips burnt := by
 obtain ⟨cs, hh, hc⟩ := h
 exact ⟨cs, blk_below hh hb, hc⟩
theorem drew (h : WoodAt w g n times chips burnt) : WoodAt w.drew g n times chips burnt := h
theorem R_set (h : WoodAt w g n times chips burnt) {α : Type} {d : Kd α} {e base : Nat} {ok : Nat → Prop} {v : Value} {xs : List α} (hR : d.R e w base ok v xs) (ht : ∀ q, q ∈ e :: d.E → q ≠ 120) (j : Nat) (u : Value) : d.R e (w.setCell ⟨g, j, none⟩ u) base ok v xs := by
 obtain ⟨cs, hb, _⟩ := h
 exact Kd.R_set hR hb ht j u
theorem drewN (h : WoodAt w g n times chips burnt) (m : Nat) : WoodAt (w.drewN m) g n times chips burnt := h
theorem set_burnt (h : WoodAt w g n times chips burnt) (i : Nat) (hi : i < 12) (b : Bool) : WoodAt (w.setCell ⟨g, 146 + i, none⟩ (.bool b)) g n times chips (fun j => if j = i then b else burnt j) := by
 obtain ⟨cs, hh, hc⟩ := h
 refine ⟨cs.setIfInBounds (146 + i) (.bool b), by simpa using blk_set hh (146 + i) (.bool b), ?_, ?_, ?_, ?_, ?_⟩
 ·simp [hc.size]
 ·rw [Array.getElem?_setIfInBounds_ne (by omega)]; exact hc.n
 ·intro k j hk hj
  rw [Array.getElem?_setIfInBounds_ne (by omega)]; exact hc.times k j hk hj
 ·rw [Array.getElem?_setIfInBounds_ne (by omega)]; exact hc.chips
 ·intro k hk
  have hs := hc.size
  by_cases e : k = i
  ·subst e
   rw [Array.getElem?_setIfInBounds_self_of_lt (by omega)]; simp
  ·rw [Array.getElem?_setIfInBounds_ne (by omega), if_neg e]; exact hc.burnt k hk
theorem set_times (h : WoodAt w g n times chips burnt) (i j : Nat) (hi : i < 12) (hj : j < 12) (x : Int) : WoodAt (w.setCell ⟨g, 1 + i * 12 + j, none⟩ (.int .i64 x)) g n (fun a b => if a = i ∧ b = j then x else times a b) chips burnt := by
 obtain ⟨cs, hh, hc⟩ := h
 refine ⟨cs.setIfInBounds (1 + i * 12 + j) (.int .i64 x), by simpa using blk_set hh (1 + i * 12 + j) (.int .i64 x), ?_, ?_, ?_, ?_, ?_⟩
 ·simp [hc.size]
 ·rw [Array.getElem?_setIfInBounds_ne (by omega)]; exact hc.n
 ·intro k l hk hl
  have hs := hc.size
  by_cases e : k = i ∧ l = j
  ·obtain ⟨rfl, rfl⟩ := e
   rw [Array.getElem?_setIfInBounds_self_of_lt (by omega)]; simp
  ·rw [Array.getElem?_setIfInBounds_ne (by omega), if_neg e]; exact hc.times k l hk hl
 ·rw [Array.getElem?_setIfInBounds_ne (by omega)]; exact hc.chips
 ·intro k hk
  rw [Array.getElem?_setIfInBounds_ne (by omega)]; exact hc.burnt k hk
end WoodAt
theorem ret_int {k : IntKind} {a b : Int} (h : a = b) : Ending.returned (.int k a) = .returned (.int k b) := by rw [h]
def flamesTo (times : Nat → Nat → Int) (burnt : Nat → Bool) (v : Nat) : Nat → Int
 | 0 => 0
 | u + 1 => flamesTo times burnt v u + (if burnt u then times v u else 0)
theorem flamesTo_bound {times : Nat → Nat → Int} {burnt : Nat → Bool} (h : ∀ i j, 0 ≤ times i j ∧ times i j ≤ 50) (v : Nat) : ∀ u : Nat, 0 ≤ flamesTo times burnt v u ∧ flamesTo times burnt v u ≤ 50 * u
 | 0 => by simp [flamesTo]
 | u + 1 => by
  have h1 := flamesTo_bound h v u (burnt := burnt)
  have h2 := h v u
  simp only [flamesTo]
  split <;> omega
theorem flames_calls (g : Nat) (n v : Nat) (times : Nat → Nat → Int) (chips : Value) (burnt : Nat → Bool) (w : World) (hn : n ≤ 12) (hv : v < 12) (ht : ∀ i j, 0 ≤ times i j ∧ times i j ≤ 50) (hw : WoodAt w g n times chips burnt) :
  Calls Try.prog 108 #[.pointer (some ⟨g, 0, none⟩), .int .i64 v] w fun e w' => e = .returned (.int .i64 (flamesTo times burnt v n)) ∧ w = w' := by
 have hcn := hw.cell_n
 go_enter Try.func108, Try.ntmps108
 go_wp2
 go_loop [5, 6, 11] (fun s _ u => ∃ k : Nat, k ≤ n ∧ u = .int .i64 k ∧ s = .int .i64 (flamesTo times burnt v k)) (fun _ _ u => n - (intOf u).toNat)
 case atStart => exact ⟨0, Nat.zero_le _, rfl, rfl⟩
 case round =>
  obtain ⟨k, hk, rfl, rfl⟩ := hrel
  have hb := flamesTo_bound (burnt := burnt) ht v k
  by_cases hlt : k < n
  ·have hcb := hw.cell_burnt k (by omega)
   have hct := hw.cell_times v k hv (by omega)
   have hx := ht v k
   have hs : flamesTo times burnt v (k + 1) = flamesTo times burnt v k + (if burnt k then times v k else 0) := rfl
   have Hs := Lib.hid hs
   clear hs
   cases hbk : burnt k with
   | true =>
    rw [hbk] at hcb
    have Hbk := Lib.hid hbk
    clear hbk
    go_wp2
    go_round
    case rel => exact ⟨k + 1, by omega, by go_num, by rw [Hs.out, Hbk.out]; rfl⟩
    case measure => simp [intOf]; omega
   | false =>
    rw [hbk] at hcb
    have Hbk := Lib.hid hbk
    clear hbk
    go_wp2
    go_round
    case rel => exact ⟨k + 1, by omega, by go_num, by rw [Hs.out, Hbk.out]; simp⟩
    case measure => simp [intOf]; omega
  ·go_wp2
   go_ret
   exact ⟨ret_int (by rw [show k = n from by omega]), rfl⟩
theorem catches_burnt (g : Nat) (n v : Nat) (times : Nat → Nat → Int) (chips : Value) (burnt : Nat → Bool) (w : World) (hv : v < 12) (hw : WoodAt w g n times chips burnt) (hb : burnt v = true) :
  Calls Try.prog 99 #[.pointer (some ⟨g, 0, none⟩), .int .i64 v] w fun e w' => e = .returned (.bool false) ∧ Drawn0 w w' := by
 have hcb := hw.cell_burnt v hv
 rw [hb] at hcb
 clear hb
 have hi0 : (0 : Int) ≤ (v : Int) := by omega
 have hi2 : (v : Int) < 12 := by omega
 go_enter Try.func99, Try.ntmps99
 go_wp2_with fail
 go_quiet (fail)
 go_wp2
 go_ret
 exact ⟨rfl, by repeat (first | exact Drawn0.refl _ | apply Drawn0.step)⟩
theorem catches_not (g : Nat) (n v : Nat) (times : Nat → Nat → Int) (A : Option Addr) (c : Nat) (l : List Int) (burnt : Nat → Bool) (w : World) (hn : n ≤ 12) (hv : v < 12) (hvl : v < l.length) (ht : ∀ i j, 0 ≤ times i j ∧ times i j ≤ 50) (hw : WoodAt w g n times (.slice A l.length c) burnt) (hr : Kd.C (Kd.int .i64) w A l.length l) (hb : burnt v = false) :
  Calls Try.prog 99 #[.pointer (some ⟨g, 0, none⟩), .int .i64 v] w fun e w' => e = .returned (.bool (decide (rd l v < flamesTo times burnt v n))) ∧ Drawn0 w w' := by
 have hcb := hw.cell_burnt v hv
 have hcc := hw.cell_chips
 rw [hb] at hcb
 clear hb
 have hl1 := hr.2.1
 obtain ⟨ad, rfl, hcl⟩ := Kd.at_int hr v (by omega) (by omega)
 rw [Int.toNat_natCast] at hcl
 have hi0 : (0 : Int) ≤ (v : Int) := by omega
 have hi1 : (v : Int) < (l.length : Int) := by omega
 have hi2 : (v : Int) < 12 := by omega
 go_enter Try.func99, Try.ntmps99
 go_wp2_with fail
 go_quiet ((go_at_call 108; refine Calls.quiet_of_same ((flames_calls g n v times _ burnt (w.drewN _) hn hv ht (hw.drewN _)).mono (fun e w' h => ⟨h.1, h.2.symm⟩))))
 go_wp2
 go_ret
 exact ⟨rfl, by repeat (first | exact Drawn0.refl _ | apply Drawn0.step)⟩
def unbTo (burnt : Nat → Bool) : Nat → List Int
 | 0 => []
 | u + 1 => unbTo burnt u ++ (if burnt u then [] else [(u : Int)])
theorem unbTo_length (burnt : Nat → Bool) : ∀ u, (unbTo burnt u).length ≤ u
 | 0 => by simp [unbTo]
 | u + 1 => by
  have := unbTo_length burnt u
  simp only [unbTo, List.length_append]
  split <;> simp <;> omega
theorem unburnt_calls (g : Nat) (n : Nat) (times : Nat → Nat → Int) (chips : Value) (burnt : Nat → Bool) (w : World) (hn : n ≤ 12) (hw : WoodAt w g n times chips burnt) :
  Calls Try.prog 85 #[.pointer (some ⟨g, 0, none⟩)] w fun e w' => ∃ v0_ : Value, e = .returned v0_ ∧ Kd.R (Kd.int .i64) 3 w' w.heap.size (fun _ => True) v0_ (unbTo burnt n) ∧ Below w.heap.size w w' := by
 have hcn := hw.cell_n
 go_enter Try.func85, Try.ntmps85
 go_wp2
 go_loopw [3, 4, 9] (fun s _ u wr => ∃ k : Nat, k ≤ n ∧ u = .int .i64 k ∧ Aside0 (Kd.R (Kd.int .i64) 3 wr w.heap.size (fun _ => True) s (unbTo burnt k)) ∧ Aside0 (Below w.heap.size w wr)) (fun _ _ u _ => n - (intOf u).toNat)
 case atStart => exact ⟨0, Nat.zero_le _, rfl, ⟨Kd.R_nil _ _ _ _ _⟩, ⟨Below.refl _ _⟩⟩
 case round =>
  obtain ⟨k, hk, rfl, HR, HB⟩ := hrel
  have hlen := unbTo_length burnt k
  by_cases hlt : k < n
  ·have hwr := hw.below HB.out
   have hcb := hwr.cell_burnt k (by omega)
   have hcn := hwr.cell_n
   clear hwr
   have hs : unbTo burnt (k + 1) = unbTo burnt k ++ (if burnt k then [] else [(k : Int)]) := rfl
   have Hs := Lib.hid hs
   clear hs
   cases hbk : burnt k with
   | true =>
    rw [hbk] at hcb
    have Hbk := Lib.hid hbk
    clear hbk
    go_wp2
    go_roundw
    case rel => exact ⟨k + 1, by omega, by go_num, ⟨by rw [Hs.out, Hbk.out]; simpa using HR.out⟩, HB⟩
    case measure => simp [intOf]; omega
   | false =>
    rw [hbk] at hcb
    have Hbk := Lib.hid hbk
    clear hbk
    go_wp2_with (at_builtin; refine Kd.R_append (Kd.int .i64) (w0 := w) w.heap.size rfl (.tmp 19) (.tmp 21) 33 3 (.int .i64 0) 8 rfl Try.underlying33 info3 rfl (by decide) (by omega) _ (unbTo burnt k) (k : Int) [.int .i64 k] (fun _ => True) (fun _ => False) rfl rfl rfl (fun _ hk => hk.elim) (fun _ _ => trivial) HR.out HB.out HB.out.size (by omega) ?_; intro v1 w1 hown hb _ _; have HR1 := Aside0.mk hown; have HB1 := Aside0.mk hb; clear hown hb)
    go_roundw
    case rel => exact ⟨k + 1, by omega, by go_num, ⟨by rw [Hs.out, Hbk.out]; exact HR1.out⟩, HB1⟩
    case measure => simp [intOf]; omega
  ·go_wp2
   go_ret
   obtain rfl : k = n := by omega
   exact ⟨_, rfl, HR.out, HB.out⟩
end
end Go.Proofs.Ytffdiakgjakngaa.P
namespace Go.Proofs.Ytffdiakgjakngaa.P
open Go Go.RowKit
set_option linter.unusedVariables false
set_option linter.unusedSimpArgs false
set_option maxHeartbeats 8000000
set_option maxRecDepth 100000
section
def Bk (l : Nat) (A B : World) : Prop := ∃ o o', A.heap[l]? = some o ∧ o.isCells = false ∧ B = A.putObj l o'
theorem Bk.cells {l : Nat} {A B : World} (h : Bk l A B) {k : Nat} {cs : Array Value} {t : TypeId} {fr : Nat × Nat} (hk : A.heap[k]? = some (.cells cs t fr)) : B.heap[k]? = some (.cells cs t fr) := by
 obtain ⟨o, o', hl, ho, rfl⟩ := h
 rw [World.putObj_heap_other]; · exact hk
 rintro rfl; rw [hl] at hk; injection hk with hk; subst hk; simp [Obj.isCells] at ho
theorem Bk.size {l : Nat} {A B : World} (h : Bk l A B) : B.heap.size = A.heap.size := by
 obtain ⟨o, o', hl, ho, rfl⟩ := h; simp [World.putObj]
theorem Bk.heap {l : Nat} {A B : World} (h : Bk l A B) (k : Nat) (hk : k ≠ l) : B.heap[k]? = A.heap[k]? := by
 obtain ⟨o, o', hl, ho, rfl⟩ := h; exact World.putObj_heap_other hk
theorem Bk.below {l : Nat} {A B : World} (h : Bk l A B) (n : Nat) (hn : n ≤ l) : Below n A B := by
 obtain ⟨o, o', hl, ho, rfl⟩ := h
 exact (Below.refl n A).grown (grownBy_putObj' A l o') (by have := (Array.getElem?_eq_some_iff.1 hl).1; omega) (fun k e => by cases e; omega)
def KeepLD (n : Nat) (A B : World) : Prop := ∀ k o, n ≤ k → k < n + 2 → A.heap[k]? = some o → o.isCells = false → B.heap[k]? = some o
theorem KeepLD.refl (n : Nat) (A : World) : KeepLD n A A := fun _ _ _ _ h _ => h
theorem KeepLD.trans {n : Nat} {A B C : World} (h : KeepLD n A B) (k : KeepLD n B C) : KeepLD n A C := fun j o h1 h2 h3 h4 => k j o h1 h2 (h j o h1 h2 h3 h4) h4
def postSt {σ α : Type} (nw : Nat) (Kp : World → World → Prop) (I : List α → World → Prop) (Ix : Code → List α → World → Prop) (xs : List α) (W : World) : Exit → Act → World → Prop
 | .normal, _, W' => KeepLD nw W W' ∧ Kp W W' ∧ I xs W'
 | .ret, _, W' => KeepLD nw W W' ∧ Ix .ret xs W'
 | _, _, _ => False
variable {F : Fence} {n : Nat} {P : Program}
def SeqSt {σ α : Type} (F : Fence) (n : Nat) (P : Program) (gf : Nat) (lb : Array Value) (encs : α → Array Value) (Start : σ → World → World → Prop) (St : σ → World → World → Prop) (Ar : σ → α → World → World → Prop) (Kp : σ → World → World → Prop) (S : σ → List α → World → Prop) (Sp : σ → List α → World → Prop) (Bd : List α → Prop) (W : World) : Prop :=
 ∀ (l : Nat) (J Jx : σ → List α → World → Prop), (∀ s pre A B, J s pre A → St s A B → J s pre B) → (∀ s pre A B, Jx s pre A → St s A B → Jx s pre B) →
  (∀ s W1, Start s W W1 → J s [] W1) →
  (∀ s pre x Wb W1, J s pre Wb → Ar s x Wb W1 → Bd pre → YieldAt F (n - 1) P l (encs x) W1 fun e W' =>
   (e = .returned (.bool true) ∧ J s (pre ++ [x]) W' ∧ Kp s W1 W') ∨ (e = .returned (.bool false) ∧ Jx s (pre ++ [x]) W')) →
  CallsIn F n P gf (#[.func (.yield l) #[] #[]] ++ lb) W fun e W' => (∃ v, e = .returned v) ∧ ((∃ s xs, S s xs W' ∧ J s xs W') ∨ (∃ s pre, Sp s pre W' ∧ Jx s pre W'))
theorem wpIn_rangeFunc_st {σ α : Type} {g : Operand} {ps : Array Tmp} {assign body : Code} {Q : Exit → Act → World → Prop} {a : Act} {w : World}
  (hro : F.round = none) (h1 : 1 ≤ n) {gf : Nat} {lb : Array Value} (hg : a.eval g = .func (.func gf) #[] lb) (hFg : F.fn gf) (eg : ∀ args w, (callFunc gf args).run P w = .ok (.enter gf args) w)
  {encs : α → Array Value} {Start : σ → World → World → Prop} {St : σ → World → World → Prop} {Ar : σ → α → World → World → Prop} {Kp : σ → World → World → Prop} {S Sp : σ → List α → World → Prop} {Bd : List α → Prop}
  (hseq : ∀ o, SeqSt F (n - 1) P gf lb encs Start St Ar Kp S Sp Bd ((w.alloc (.deferred (some []))).alloc (.loop o))) (hps : ∀ x, (encs x).size = ps.size)
  (Adm : σ → Prop) (hAdm : ∀ o s W1, Start s ((w.alloc (.deferred (some []))).alloc (.loop o)) W1 → Adm s ∧ KeepLD w.heap.size ((w.alloc (.deferred (some []))).alloc (.loop o)) W1)
  (hSt : ∀ s A B, Adm s → St s A B → KeepLD w.heap.size A B) (hAr : ∀ s x A B, Adm s → Ar s x A B → KeepLD w.heap.size A B)
  (I : σ → List α → World → Prop) (Ix : Code → σ → List α → World → Prop)
  (hIs : ∀ s pre A B, Adm s → I s pre A → St s A B → I s pre B) (hIxs : ∀ c s pre A B, Adm s → Ix c s pre A → St s A B → Ix c s pre B)
  (hIb : ∀ s pre A B, I s pre A → Bk (w.heap.size + 1) A B → I s pre B) (hIxb : ∀ c s pre A B, Ix c s pre A → Bk (w.heap.size + 1) A B → Ix c s pre B)
  (hKt : ∀ s A B C D, Bk (w.heap.size + 1) A B → Kp s B C → Bk (w.heap.size + 1) C D → Kp s A D)
  (h0 : ∀ o s W1, Start s ((w.alloc (.deferred (some []))).alloc (.loop o)) W1 → I s [] W1) (a₁ : α → Act)
  (hassign : ∀ (l : Nat) (x : α) (W : World) (K : Act → World → Prop), K (a₁ x) W →
   assign.wpIn (F.inRound l) (n - 1 - 1) P (Exit.then K (fun _ _ _ => False)) { tmps := (ps.zip (encs x)).foldl (fun t (p, v) => t.setIfInBounds p v) a.tmps, defers := [] } W)
  (hbody : ∀ (l : Nat) (s : σ) (pre : List α) (x : α) (Wb W1 W : World), Adm s → I s pre Wb → Ar s x Wb W1 → Bd pre → Bk (w.heap.size + 1) W1 W → body.wpIn (F.inRound l) (n - 1 - 1) P (postSt (σ := σ) w.heap.size (Kp s) (I s) (fun c => Ix c s) (pre ++ [x]) W) (a₁ x) W)
  (hdone : ∀ (s : σ) (xs : List α) (W W' : World), Adm s → S s xs W → I s xs W → Bk (w.heap.size + 1) W W' → W'.heap[w.heap.size]? = some (.deferred (some [])) → Q .normal { a with defers := { target := .collected w.heap.size, args := #[] } :: a.defers } W')
  (hstop : ∀ (c : Code) (s : σ) (pre : List α) (W W' : World), Adm s → Sp s pre W → Ix c s pre W → Bk (w.heap.size + 1) W W' → W'.heap[w.heap.size]? = some (.deferred (some [])) → c.wpIn F n P Q { a with defers := { target := .collected w.heap.size, args := #[] } :: a.defers } W') :
  (Code.rangeFunc g ps assign body).wpIn F n P Q a w := by
 refine wpIn_rangeFunc ?_
 intro fn hfn
 rw [hro]
 obtain ⟨rec, hrec⟩ : ∃ rec : LoopState → Option Code → Loop, rec = fun st pe => { state := st, pending := pe, fn, tmps := a.tmps, params := ps, assign, body, defers := w.heap.size } := ⟨_, rfl⟩
 obtain ⟨W1, hW1⟩ : ∃ W1, (w.alloc (.deferred (some []))).alloc (.loop (rec .ready none)) = W1 := ⟨_, rfl⟩
 have hL1 : W1.heap[w.heap.size + 1]? = some (.loop (rec .ready none)) := by
  rw [← hW1]; have := World.alloc_heap_new (w.alloc (.deferred (some []))) (.loop (rec .ready none)); rwa [World.size_alloc] at this
 have hK1 : W1.heap[w.heap.size]? = some (.deferred (some [])) := by
  rw [← hW1]; exact (Below.heap_alloc _ _ _ (by simp)).trans (World.alloc_heap_new w _)
 refine ⟨w.heap.size + 1, [{ target := .collected w.heap.size, args := #[] }], W1, { target := .fn (.func gf) lb, args := #[.func (.yield (w.heap.size + 1)) #[] #[]] }, W1, gf,
  #[.func (.yield (w.heap.size + 1)) #[] #[]] ++ lb, W1, ?_, ?_, ?_, ?_, fun _ => h1, ?_⟩
 ·rw [← hW1, hrec]; exact run_enterLoop_outer _ _ _ _ _
 ·simp only [resolve, hg]
  simp [go_sem]
 ·intro f' hf'; simp [Target.leads] at hf'; subst hf'; exact hFg
 ·simp [invoke, go_sem, eg]
 ·have hs := hseq (rec .ready none)
  rw [hW1] at hs
  have ld : ∀ {A B : World} {r : Loop}, KeepLD w.heap.size A B → A.heap[w.heap.size + 1]? = some (.loop r) → B.heap[w.heap.size + 1]? = some (.loop r) := fun h ho => h _ _ (by omega) (by omega) ho rfl
  have ldd : ∀ {A B : World}, KeepLD w.heap.size A B → A.heap[w.heap.size]? = some (.deferred (some [])) → B.heap[w.heap.size]? = some (.deferred (some [])) := fun h ho => h _ _ (by omega) (by omega) ho rfl
  refine (hs (w.heap.size + 1)
   (fun s pre W => Adm s ∧ I s pre W ∧ W.heap[w.heap.size + 1]? = some (.loop (rec .ready none)) ∧ W.heap[w.heap.size]? = some (.deferred (some [])))
   (fun s pre W => Adm s ∧ ∃ c, Ix c s pre W ∧ W.heap[w.heap.size + 1]? = some (.loop (rec .done (some c))) ∧ W.heap[w.heap.size]? = some (.deferred (some [])))
   (fun s pre A B h hst => ⟨h.1, hIs s pre A B h.1 h.2.1 hst, ld (hSt s A B h.1 hst) h.2.2.1, ldd (hSt s A B h.1 hst) h.2.2.2⟩)
   (fun s pre A B h hst => by
    obtain ⟨ha, c, hc, hl, hk⟩ := h
    exact ⟨ha, c, hIxs c s pre A B ha hc hst, ld (hSt s A B ha hst) hl, ldd (hSt s A B ha hst) hk⟩)
   (fun s W2 hst => by
    rw [← hW1] at hst
    have hk := hAdm (rec .ready none) s W2 hst
    have hkk := hk.2
    rw [hW1] at hkk
    exact ⟨hk.1, h0 _ s W2 hst, ld hkk hL1, ldd hkk hK1⟩)
   ?_).mono ?_
  ·rintro s pre x Wb W ⟨ha, hi, hl0, hk0⟩ har hbd
   have hkk := hAr s x Wb W ha har
   have hl := ld hkk hl0
   have hk := ldd hkk hk0
   have hlt : w.heap.size + 1 < W.heap.size := (Array.getElem?_eq_some_iff.1 hl).1
   have hy := run_yield (P := P) (args := encs x) hl (by rw [hrec]; exact hps x)
   rw [hrec] at hy
   have hbk : Bk (w.heap.size + 1) W (W.putObj (w.heap.size + 1) (.loop { rec .ready none with state := .busy })) := ⟨_, _, hl, rfl, rfl⟩
   refine ⟨fn, _, assign, body, hy, roundIn_of_wpIn hfn (hassign _ x W _ ⟨_, run_beginRound hl (by rw [hrec]), ?_⟩)⟩
   have hl2 : (W.putObj (w.heap.size + 1) (.loop { rec .ready none with state := .busy })).heap[w.heap.size + 1]? = some (.loop { rec .ready none with state := .busy }) := World.putObj_heap_same hlt
   have hk2 : (W.putObj (w.heap.size + 1) (.loop { rec .ready none with state := .busy })).heap[w.heap.size]? = some (.deferred (some [])) := (World.putObj_heap_other (by omega)).trans hk
   refine wpIn_mono (hbody _ s pre x Wb W _ ha hi har hbd hbk) ?_
   have fin : ∀ (jump : Option Code) (W3 : World), KeepLD w.heap.size (W.putObj (w.heap.size + 1) (.loop { rec .ready none with state := .busy })) W3 →
     (Instr.endRound (w.heap.size + 1) jump).run P W3 = .ok (.bool jump.isNone) (W3.putObj (w.heap.size + 1) (.loop (rec (if jump.isNone then .ready else .done) jump))) ∧
     Bk (w.heap.size + 1) W3 (W3.putObj (w.heap.size + 1) (.loop (rec (if jump.isNone then .ready else .done) jump))) ∧
     (W3.putObj (w.heap.size + 1) (.loop (rec (if jump.isNone then .ready else .done) jump))).heap[w.heap.size + 1]? = some (.loop (rec (if jump.isNone then .ready else .done) jump)) ∧
     (W3.putObj (w.heap.size + 1) (.loop (rec (if jump.isNone then .ready else .done) jump))).heap[w.heap.size]? = some (.deferred (some [])) := fun jump W3 hk3 => by
    have hl3 := ld hk3 hl2
    have := run_endRound (P := P) jump hl3
    rw [hrec] at this ⊢
    exact ⟨this, ⟨_, _, hl3, rfl, rfl⟩, World.putObj_heap_same (Array.getElem?_eq_some_iff.1 hl3).1, (World.putObj_heap_other (by omega)).trans (ldd hk3 hk2)⟩
   rintro e a3 W3 hp
   cases e with
   | normal =>
    obtain ⟨hk3, hkp3, hi3⟩ := hp
    obtain ⟨hr, hb4, hl4, hk4⟩ := fin none W3 hk3
    exact ⟨_, _, hr, .inl ⟨rfl, ⟨ha, hIb s _ _ _ hi3 hb4, hl4, hk4⟩, hKt s _ _ _ _ hbk hkp3 hb4⟩⟩
   | ret =>
    obtain ⟨hk3, hi3⟩ := hp
    obtain ⟨hr, hb4, hl4, hk4⟩ := fin (some .ret) W3 hk3
    exact ⟨_, _, hr, .inr ⟨rfl, ha, .ret, hIxb _ s _ _ _ hi3 hb4, hl4, hk4⟩⟩
   | exit id => exact hp.elim
   | goto t => exact hp.elim
   | panic ch => exact hp.elim
   | outgrown => exact hp.elim
  ·rintro e W2 ⟨⟨v, rfl⟩, (⟨s, xs, hS, ha, hi, hl, hk⟩ | ⟨s, pre, hSp, ha, c, hi, hl, hk⟩)⟩
   ·exact ⟨none, _, by have := run_endLoop (P := P) hl (by rw [hrec]; simp); rw [hrec] at this; exact this, hdone s xs W2 _ ha hS hi ⟨_, _, hl, rfl, rfl⟩ ((World.putObj_heap_other (by omega)).trans hk)⟩
   ·exact ⟨some c, _, by have := run_endLoop (P := P) hl (by rw [hrec]; simp); rw [hrec] at this; exact this, hstop c s pre W2 _ ha hSp hi ⟨_, _, hl, rfl, rfl⟩ ((World.putObj_heap_other (by omega)).trans hk)⟩
end
end Go.Proofs.Ytffdiakgjakngaa.P
namespace Go.Proofs.Ytffdiakgjakngaa.P
open Go.RowKit Go.Proofs.YtffdiakgjakngaaW.PrintWords Go.Proofs.YtffdiakgjakngaaW.PrintLast Go.Proofs.YtffdiakgjakngaaW.PrintMore
set_option linter.unusedVariables false
set_option linter.unusedSimpArgs false
set_option maxHeartbeats 8000000
set_option maxRecDepth 100000
section
def firstCatch (n : Nat) (c : (Nat → Bool) → Nat → Bool) (b : Nat → Bool) : Option Nat := (List.range n).find? (fun v => c b v)
def burn1 (b : Nat → Bool) (v : Nat) : Nat → Bool := fun u => if u = v then true else b u
def unb (n : Nat) (b : Nat → Bool) : Nat := (List.range n).countP (fun v => !b v)
def fireRun (n : Nat) (c : (Nat → Bool) → Nat → Bool) : Nat → (Nat → Bool) → List Nat
 | 0, _ => []
 | f + 1, b => match firstCatch n c b with
  | none => []
  | some v => v :: fireRun n c f (burn1 b v)
def fireList (n : Nat) (c : (Nat → Bool) → Nat → Bool) (b : Nat → Bool) : List Nat := fireRun n c (unb n b) b
def burnAll (b : Nat → Bool) (l : List Nat) : Nat → Bool := l.foldl burn1 b
theorem burnAll_snoc (b : Nat → Bool) (l : List Nat) (v : Nat) : burnAll b (l ++ [v]) = burn1 (burnAll b l) v := by simp [burnAll]
theorem unb_burn1 {n : Nat} {b : Nat → Bool} {v : Nat} (hv : v < n) (hb : b v = false) : unb n b = unb n (burn1 b v) + 1 := by
 unfold unb
 induction n with
 | zero => omega
 | succ n ih =>
  rw [List.range_succ, List.countP_append, List.countP_append]
  by_cases e : v = n
  ·subst e
   have h1 : (List.range v).countP (fun u => !b u) = (List.range v).countP (fun u => !burn1 b v u) := List.countP_congr (fun u hu => by have := List.mem_range.1 hu; simp [burn1, show u ≠ v from by omega])
   rw [h1]; simp [burn1, hb]
  ·have := ih (by omega)
   rw [this]; simp [burn1, show n ≠ v from by omega]; omega
theorem unb_le (n : Nat) (b : Nat → Bool) : unb n b ≤ n := by
 unfold unb
 exact Nat.le_trans List.countP_le_length (by simp)
theorem fireList_none {n : Nat} {c : (Nat → Bool) → Nat → Bool} {b : Nat → Bool} (h : ∀ v, v < n → c b v = false) : fireList n c b = [] := by
 have : firstCatch n c b = none := by
  unfold firstCatch
  rw [List.find?_eq_none]
  intro v hv
  simp [h v (List.mem_range.1 hv)]
 unfold fireList
 cases unb n b <;> simp [fireRun, this]
theorem fireList_some {n : Nat} {c : (Nat → Bool) → Nat → Bool} (hc : ∀ b v, c b v = true → b v = false) {b : Nat → Bool} {v : Nat} (hv : v < n) (hcv : c b v = true) (hl : ∀ u, u < v → c b u = false) : fireList n c b = v :: fireList n c (burn1 b v) := by
 have hfc : firstCatch n c b = some v := by
  unfold firstCatch
  rw [List.find?_eq_some_iff_append]
  refine ⟨hcv, (List.range n).take v, (List.range n).drop (v + 1), ?_, ?_⟩
  ·have h1 : (List.range n)[v]'(by simpa using hv) = v := by simp
   conv => lhs; rw [← List.take_append_drop v (List.range n)]
   rw [List.drop_eq_getElem_cons (by simpa using hv), h1]
  ·intro u hu
   have hu2 : u < v := by
    rw [List.mem_take_iff_getElem] at hu
    obtain ⟨j, hj, rfl⟩ := hu
    simp at hj ⊢; omega
   simp [hl u hu2]
 have h3 := unb_burn1 hv (hc b v hcv)
 unfold fireList
 rw [h3]
 simp only [fireRun, hfc]
def catchB (n : Nat) (times : Nat → Nat → Int) (l : List Int) (b : Nat → Bool) (v : Nat) : Bool := !b v && decide (rd l v < flamesTo times b v n)
theorem catchB_unb {n : Nat} {times : Nat → Nat → Int} {l : List Int} (b : Nat → Bool) (v : Nat) (h : catchB n times l b v = true) : b v = false := by
 unfold catchB at h
 cases hb : b v <;> simp_all
theorem catches_calls (g : Nat) (n v : Nat) (times : Nat → Nat → Int) (A : Option Addr) (c : Nat) (l : List Int) (burnt : Nat → Bool) (w : World) (hn : n ≤ 12) (hv : v < 12) (hvl : v < l.length) (ht : ∀ i j, 0 ≤ times i j ∧ times i j ≤ 50) (hw : WoodAt w g n times (.slice A l.length c) burnt) (hr : Kd.C (Kd.int .i64) w A l.length l) :
  Calls Try.prog 99 #[.pointer (some ⟨g, 0, none⟩), .int .i64 v] w fun e w' => e = .returned (.bool (catchB n times l burnt v)) ∧ Drawn0 w w' := by
 unfold catchB
 cases hb : burnt v with
 | true => simpa using catches_burnt g n v times _ burnt w hv hw hb
 | false => simpa using catches_not g n v times A c l burnt w hn hv hvl ht hw hr hb
attribute [local go_sem] Oper.semAt_some
theorem grown_drawn {w w1 : World} (h : Drawn0 w w1) (r : Option Nat) : w.grownBy w1 r := grown_of_below h.below r
theorem grown_set {w w1 : World} {g j : Nat} {v : Value} (h : w.grownBy w1 (some g)) : w.grownBy (w1.setCell ⟨g, j, none⟩ v) (some g) :=
 have hb := (Below.refl 0 w1).setCell (p := ⟨g, j, none⟩) (Nat.zero_le _) v
 h.trans ⟨hb.os, hb.tape, hb.output, hb.size, fun k _ hk => Below.heap_setCell _ _ _ _ (fun e => hk (by rw [e]))⟩
theorem WoodAt.of_heap {w w' : World} {g : Nat} {n : Int} {times : Nat → Nat → Int} {chips : Value} {burnt : Nat → Bool} (h : WoodAt w g n times chips burnt) (e : w'.heap[g]? = w.heap[g]?) : WoodAt w' g n times chips burnt := by
 obtain ⟨cs, hb, hc⟩ := h
 exact ⟨cs, e.trans hb, hc⟩
theorem keeps_box {w : World} {b : Nat} {v : Value} {t : TypeId} (h : w.heap[b]? = some (.cells #[v] t (0, 0))) : w.cell? ⟨b, 0, none⟩ = some v := (blk_cell h 0).trans rfl
theorem fire1_seq (g bw n : Nat) (times : Nat → Nat → Int) (A : Option Addr) (c : Nat) (l : List Int) (b0 : Nat → Bool) (W : World) (base : Nat) (hn : n ≤ 12) (hl : n ≤ l.length) (ht : ∀ i j, 0 ≤ times i j ∧ times i j ≤ 50) (hbg : bw ≠ g)
  (hW : WoodAt W g n times (.slice A l.length c) b0) (hbox : W.heap[bw]? = some (.cells #[.pointer (some ⟨g, 0, none⟩)] 99 (0, 0))) (hr : Kd.R (Kd.int .i64) 3 W base (fun k => some k = (Value.slice A l.length c).ownBlock) (.slice A l.length c) l) :
  SeqSt (σ := Unit) Fence.wide 9 Try.prog 98 #[.pointer (some ⟨bw, 0, none⟩)] (fun v : Nat => #[.int .i64 v]) (fun _ W W1 => W1 = W) (fun _ A B => A.grownBy B (some g)) (fun _ _ A B => A.grownBy B (some g))
   (fun _ X Y => ∀ k, (k = g ∨ k = bw ∨ some k = (Value.slice A l.length c).ownBlock) → Y.heap[k]? = X.heap[k]?)
   (fun _ xs W' => xs = fireList n (catchB n times l) b0 ∧ WoodAt W' g n times (.slice A l.length c) (burnAll b0 xs)) (fun _ _ _ => True) (fun pre => pre.length < n) W := by
 intro lp J Jx hJs0 hJxs0 hJ00 hY0
 have hJs := Aside0.mk hJs0
 have hJxs := Aside0.mk hJxs0
 have hY := Aside0.mk hY0
 have hJ0 := hJ00 () W rfl
 clear hJs0 hJxs0 hJ00 hY0
 refine callsIn_of_wp Try.func98 rfl trivial ?_ rfl
 simp only [Try.ntmps98, List.size_toArray, List.length_cons, List.length_nil, Nat.reduceAdd, Nat.reduceSub, Array.replicate_succ, Array.replicate_zero, List.push_toArray, List.append_toArray, List.nil_append, List.cons_append]
 gi_wp2
 gi_loopg [3] (13 * unb n b0 + n) (fun kq v wr => ∃ (pre : List Nat) (u : Nat), v = .int .i64 u ∧ u ≤ n ∧ Aside0 (J () pre wr) ∧ Aside0 (WoodAt wr g n times (.slice A l.length c) (burnAll b0 pre)) ∧ Aside0 (wr.heap[bw]? = some (.cells #[.pointer (some ⟨g, 0, none⟩)] 99 (0, 0))) ∧ Aside0 (Kd.R (Kd.int .i64) 3 wr base (fun k => some k = (Value.slice A l.length c).ownBlock) (.slice A l.length c) l) ∧ Aside0 (∀ x, x < u → catchB n times l (burnAll b0 pre) x = false) ∧ Aside0 (fireList n (catchB n times l) b0 = pre ++ fireList n (catchB n times l) (burnAll b0 pre)) ∧ Aside0 (kq = 13 * unb n (burnAll b0 pre) + (n - u)) ∧ Aside0 (pre.length + unb n (burnAll b0 pre) = unb n b0))
 case atStart => exact ⟨[], 0, rfl, Nat.zero_le _, ⟨hJ0⟩, ⟨hW⟩, ⟨hbox⟩, ⟨hr⟩, ⟨fun x hx => by omega⟩, ⟨by simp [burnAll]⟩, ⟨by simp [burnAll]⟩, ⟨by simp [burnAll]⟩⟩
 case round =>
  obtain ⟨pre, u, rfl, hu, HJ, HW, HBX, HR, HN, HF, HK, HL⟩ := hrel
  have hcx := keeps_box HBX.out
  have hcn := HW.out.cell_n
  by_cases hlt : u < n
  ·have hCr : Kd.C (Kd.int .i64) wr A l.length l := by
    obtain ⟨A', c', e, _, hC⟩ := Kd.R_reads HR.out
    injection e with e1 e2 e3
    rw [e1]; exact hC
   have HC := Aside0.mk (catches_calls g n u times A c l (burnAll b0 pre) wr hn (by omega) (by omega) ht HW.out hCr)
   clear hCr
   cases hcb : catchB n times l (burnAll b0 pre) u with
   | false =>
    rw [hcb] at HC
    have Hcb := Lib.hid hcb
    clear hcb
    gi_wp2_with (refine ⟨trivial, ?_⟩; gi_at_call 99; refine (callsIn_wide.2 HC.out).mono ?_; rintro e w1 ⟨rfl, hD⟩; have HD := Aside0.mk hD; clear hD)
    gi_roundg (13 * unb n (burnAll b0 pre) + (n - (u + 1)))
    case measure => rw [HK.out]; omega
    case rel =>
     obtain ⟨m, rfl⟩ := HD.out.out
     refine ⟨pre, u + 1, by go_num, by omega, ⟨hJs.out () pre wr _ HJ.out (grown_drawn HD.out _)⟩, HW, HBX, HR, ⟨fun x hx => ?_⟩, HF, ⟨rfl⟩, HL⟩
     by_cases e : x = u
     ·rw [e]; exact Hcb.out
     ·exact HN.out x (by omega)
   | true =>
    rw [hcb] at HC
    have hbu := catchB_unb _ _ hcb
    have hun := unb_burn1 hlt hbu
    have hfl := fireList_some catchB_unb hlt hcb HN.out
    have Hun := Lib.hid hun
    have Hfl := Lib.hid hfl
    have Hcb := Lib.hid hcb
    clear hcb hbu hun hfl
    have HG : Aside0 (∀ w1, Drawn0 wr w1 → w1.cell? ⟨bw, 0, none⟩ = some (.pointer (some ⟨g, 0, none⟩)) ∧ w1.cell? ⟨g, 146 + u, none⟩ = some (.bool (burnAll b0 pre u)) ∧ w1.frozen? ⟨g, 146 + u, none⟩ = false ∧
      WoodAt (w1.setCell ⟨g, 146 + u, none⟩ (.bool true)) g n times (.slice A l.length c) (burnAll b0 (pre ++ [u])) ∧ (w1.setCell ⟨g, 146 + u, none⟩ (.bool true)).heap[bw]? = some (.cells #[.pointer (some ⟨g, 0, none⟩)] 99 (0, 0)) ∧
      Kd.R (Kd.int .i64) 3 (w1.setCell ⟨g, 146 + u, none⟩ (.bool true)) base (fun k => some k = (Value.slice A l.length c).ownBlock) (.slice A l.length c) l ∧ wr.grownBy (w1.setCell ⟨g, 146 + u, none⟩ (.bool true)) (some g)) := by
     refine ⟨fun w1 hD => ?_⟩
     obtain ⟨m, rfl⟩ := hD.out
     refine ⟨hcx, HW.out.cell_burnt u (by omega), HW.out.frozen _, ?_, ?_, ?_, grown_set (grown_drawn hD _)⟩
     ·rw [burnAll_snoc]; exact (HW.out.drewN m).set_burnt u (by omega) true
     ·exact blk_far (w := wr.drewN m) HBX.out hbg _
     ·exact (HW.out.drewN m).R_set (Kd.R_drewN HR.out m) (by decide) (146 + u) (.bool true)
    gi_wp2_with (refine ⟨trivial, ?_⟩; gi_at_call 99; refine (callsIn_wide.2 HC.out).mono ?_; rintro e w1 ⟨rfl, hD⟩; obtain ⟨q1, q2, q3, hW2, hB2, hR2, hG2⟩ := HG.out w1 hD; have HW2 := Aside0.mk hW2; have HB2 := Aside0.mk hB2; have HR2 := Aside0.mk hR2; have HG2 := Aside0.mk hG2; obtain ⟨fn, tmps, asg, bdy, hy, hRo⟩ := hY.out () pre u wr _ HJ.out hG2 (by have := HL.out; have := Hun.out; have := unb_le n b0; omega); have HRo := Aside0.mk hRo; clear hD hW2 hB2 hR2 hG2 hRo)
    refine HRo.out.mono ?_
    rintro e W3 (⟨rfl, hJ3, hk3⟩ | ⟨rfl, hJx3⟩)
    ·have HW3 := Aside0.mk (HW2.out.of_heap (hk3 g (.inl rfl)))
     have HB3 := Aside0.mk ((hk3 bw (.inr (.inl rfl))).trans HB2.out)
     have HR3 := Aside0.mk (Kd.R_move HR2.out (fun k hk => hk3 k (.inr (.inr hk))))
     have HJ3 := Aside0.mk hJ3
     clear hJ3 hk3 hy q1 q2 q3
     gi_wp2
     gi_roundg (13 * unb n (burnAll b0 (pre ++ [u])) + n)
     case measure => rw [HK.out, Hun.out, burnAll_snoc]; omega
     case rel =>
      refine ⟨pre ++ [u], 0, rfl, by omega, HJ3, HW3, HB3, HR3, ⟨fun x hx => by omega⟩, ⟨?_⟩, ⟨rfl⟩, ⟨by have := HL.out; have := Hun.out; rw [burnAll_snoc]; simp; omega⟩⟩
      rw [HF.out, Hfl.out, burnAll_snoc]; simp
    ·clear hy q1 q2 q3
     have HJx3 := Aside0.mk hJx3
     clear hJx3
     gi_wp2
     refine bodyPost_ret (results_none rfl _ _ _) rfl ?_
     exact ⟨⟨_, rfl⟩, .inr ⟨(), pre ++ [u], trivial, HJx3.out⟩⟩
  ·have hun : u = n := by omega
   subst hun
   gi_wp2
   go_end0
   exact ⟨⟨_, rfl⟩, .inl ⟨(), pre, ⟨by rw [HF.out, fireList_none HN.out]; simp, HW.out⟩, HJ.out⟩⟩
end
section
section
variable {F : Fence} {n : Nat} {P : Program} {ops : Array Oper} {rest : List Oper} {o : Oper} {a : Act} {Q : Exit → Act → World → Prop} {α : Type}
theorem R_append_in (d : Kd α) {w0 W : World} (base : Nat) (hgd : o.guard = none) (s x : Operand) (t e : TypeId) (z : Value) (bytes : Nat)
  (ho : o.op = .call { callee := .builtin .append, args := #[s, x], argTypes := #[t, t] })
  (ht : P.underlying t = some (.slice e)) (hinfo : (P.info? e).map (fun i => (i.zero, i.size, i.bytes)) = some (some z, d.sz, bytes)) (hz : z.cells.size = d.sz) (hs0 : 0 < d.sz) (hb0 : 0 < bytes)
  (v : Value) (xs : List α) (p : α) (cs : List Value) (ok okp : Nat → Prop) (hs : a.eval s = v) (hx : a.eval x = .slice (some ⟨W.heap.size, 0, none⟩) 1 1) (hp : d.M W base okp p cs) (hokp : ∀ k, okp k → ok k ∧ some k ≠ v.ownBlock) (hfresh : ∀ k, W.heap.size ≤ k → ok k)
  (HO : d.R e W base ok v xs) (HB : Below base w0 W) (hbase : base ≤ W.heap.size) (hl : (xs.length + 1) * bytes ≤ 140737488355328)
  (h : ∀ v1 w1, d.R e w1 base ok v1 (xs ++ [p]) → Below base w0 w1 → W.grownBy w1 v.ownBlock → (v1.ownBlock = v.ownBlock ∨ ∃ b, v1.ownBlock = some b ∧ W.heap.size ≤ b) → wpListIn F n P ops Q rest (a.put o.dst v1) w1) :
  wpListIn F n P ops Q (o :: rest) a (W.alloc (.cells cs.toArray e)) := by
 obtain ⟨h0, inner, hown, hr⟩ := HO
 have hys : cs.length = d.sz := d.K_len (d.K_of_M hp)
 have h1 := d.K_one (d.K_of_M hp)
 obtain ⟨i0, hi, hzz⟩ := Option.map_eq_some_iff.1 hinfo
 simp only [Prod.mk.injEq] at hzz
 obtain ⟨hz0, hz1, hz2⟩ := hzz
 have hlen : xs.length + 1 ≤ 140737488355328 := Nat.le_trans (Nat.le_mul_of_pos_right _ hb0) hl
 refine wpListIn_plain hgd fun K hK' => ?_
 obtain ⟨v1, w1, hrun, hown1, hg, _, hat⟩ := run_append_own_at (P := P) (W.alloc (.cells cs.toArray e)) base t o.type e i0 z d.sz bytes ht hi hz0 hz1 hz2 hz hs0 v xs.length inner (hown.alloc _) ⟨W.heap.size, 0, none⟩ 1 1 cs (by rw [hys]; simp)
  (by simpa using World.news_of_block (cs := cs.toArray) (t := e) (fr := (0, 0)) (heap_alloc_new W (.cells cs.toArray e))) h1 (by simp only [maxLen]; omega) hl (by simp; omega)
 have hgg : W.grownBy w1 v.ownBlock := World.grownBy.trans (World.grownBy_alloc W _ _) hg
 have hat' : v1.ownBlock = v.ownBlock ∨ ∃ b, v1.ownBlock = some b ∧ W.heap.size ≤ b := by
  rcases hat with hat | hat
  ·exact .inl hat
  ·exact .inr ⟨_, hat, by simp⟩
 unfold Oper.wpIn
 refine ⟨?_, ?_⟩
 ·simp [Oper.about, ho, resolve, Target.leads, Sem.run_pure]
 ·rw [Oper.semAt_plain F _ _ (by rw [ho]; intro c hc'; cases hc')]
  simp [execOp, ho, resolve, invoke, builtin, hs, hx, hrun, Result.andThen]
  exact hK' _ _ (h v1 w1 (Kd.R_appended h0 hr hp hokp hfresh hown1 hgg hat') ((HB.alloc hbase _).grown hg (by simp; omega) (own_base hown)) hgg hat')
end
theorem keepLD_append {α : Type} {d : Kd α} {e base nw : Nat} {ok : Nat → Prop} {v : Value} {xs : List α} {W w1 : World} (hR : d.R e W base ok v xs) (hg : W.grownBy w1 v.ownBlock) : KeepLD nw W w1 := fun k o h1 h2 h3 h4 => by
 refine (hg.block k (Array.getElem?_eq_some_iff.1 h3).1 (fun e => ?_)).trans h3
 obtain ⟨cells, hc⟩ := Kd.R_typed hR k e.symm
 rw [h3] at hc; injection hc with hc; subst hc; simp [Obj.isCells] at h4
theorem keepLD_set {nw bo j : Nat} (W : World) (v : Value) (h : bo < nw) : KeepLD nw W (W.setCell ⟨bo, j, none⟩ v) := fun k o h1 h2 h3 h4 => by
 rw [Below.heap_setCell _ _ _ _ (by simp; omega)]; exact h3
theorem R_bk {α : Type} {d : Kd α} {e base l : Nat} {ok : Nat → Prop} {v : Value} {xs : List α} {A B : World} (h : d.R e A base ok v xs) (hb : Bk l A B) : d.R e B base ok v xs :=
 Kd.R_mono (Kd.R_move (Kd.R_bound h) (fun k hk => by obtain ⟨_, _, _, q, _, cells, hc⟩ := hk; exact (hb.cells hc).trans hc.symm)) (fun k hk => hk.1)
theorem own_len (A : Option Addr) (m m' c : Nat) : (Value.slice A m c).ownBlock = (Value.slice A m' c).ownBlock := by cases A <;> rfl
theorem bodyPostM_one {F : Fence} {n : Nat} {P : Program} {fn : Func} {R : Ending → World → Prop} {a : Act} {w : World} {D : Nat} {v : Value} (hd : a.defers = [{ target := .collected D, args := #[] }]) (hdf : w.heap[D]? = some (.deferred (some [])))
  (hres : (results fn a.tmps).run P (w.putObj D (.deferred none)) = .ok v (w.putObj D (.deferred none))) (hR : R (.returned v) (w.putObj D (.deferred none))) : bodyPostM F n P fn R .ret a w := by
 show LeavesInM F n P fn a.tmps R a.defers .returning w
 rw [hd]
 exact ⟨by simp, .inl ⟨_, _, rfl, run_takeDeferred hdf, ⟨_, hres, hR⟩⟩⟩
theorem no_exits {F : Fence} {n : Nat} {P : Program} {c : Code} {K : Act → World → Prop} {Q : Exit → Act → World → Prop} {a : Act} {w : World} (h : c.wpIn F n P (Exit.then K (fun _ _ _ => False)) a w) : c.wpIn F n P (Exit.then K Q) a w :=
 wpIn_mono h (fun e a w h => by cases e <;> first | exact h | exact h.elim)
end
def extB (most : Nat → Nat) : Nat → List Int → List (List Int)
 | 0, p => [p]
 | k + 1, p => (List.range (most p.length + 1)).flatMap fun (x : Nat) => extB most k (p ++ [(x : Int)])
def outB (q B : Nat) (calm : List Int → Bool) : Nat → List Int → List (List Int)
 | 0, p => [p]
 | k + 1, p => if p.length = q then outB q B calm k (p ++ [0]) else ((List.range B).takeWhile fun (x : Nat) => calm (p ++ (x : Int) :: List.replicate k 0)).flatMap fun (x : Nat) => outB q B calm k (p ++ [(x : Int)])
def Leq : List Int → List Int → Prop
 | [], [] => True
 | x :: a, y :: b => x ≤ y ∧ Leq a b
 | _, _ => False
theorem Leq.refl : ∀ l, Leq l l
 | [] => trivial
 | x :: l => ⟨Int.le_refl x, Leq.refl l⟩
theorem Leq.append {a b c d : List Int} (h : Leq a b) (h2 : Leq c d) : Leq (a ++ c) (b ++ d) := by
 induction a generalizing b with
 | nil => cases b with | nil => exact h2 | cons => exact h.elim
 | cons x a ih => cases b with | nil => exact h.elim | cons y b => exact ⟨h.1, ih h.2⟩
theorem Leq.trans {a b c : List Int} (h : Leq a b) (h2 : Leq b c) : Leq a c := by
 induction a generalizing b c with
 | nil => cases b with | nil => exact h2 | cons => exact h.elim
 | cons x a ih => cases b with
  | nil => exact h.elim
  | cons y b => cases c with | nil => exact h2.elim | cons z c => exact ⟨Int.le_trans h.1 h2.1, ih h.2 h2.2⟩
theorem Leq.length {a b : List Int} (h : Leq a b) : a.length = b.length := by
 induction a generalizing b with
 | nil => cases b with | nil => rfl | cons => exact h.elim
 | cons x a ih => cases b with | nil => exact h.elim | cons y b => simp [ih h.2]
theorem ext_above (most : Nat → Nat) : ∀ (k : Nat) (p l : List Int), l ∈ extB most k p → Leq (p ++ List.replicate k 0) l := by
 intro k
 induction k with
 | zero => intro p l h; simp [extB] at h; subst h; simpa using Leq.refl l
 | succ k ih =>
  intro p l h
  simp only [extB, List.mem_flatMap] at h
  obtain ⟨x, hx, hl⟩ := h
  refine Leq.trans ?_ (ih _ _ hl)
  rw [List.replicate_succ, List.append_assoc]
  exact (Leq.refl p).append ⟨by omega, Leq.refl _⟩
theorem range_split {B m : Nat} (h : m ≤ B) : List.range B = List.range m ++ (List.range (B - m)).map (m + ·) := by
 conv => lhs; rw [show B = m + (B - m) by omega, List.range_add]
theorem flat_takeWhile {α : Type} (P : Nat → Bool) (F : Nat → List α) (hP : ∀ x y, y ≤ x → P x = true → P y = true) : ∀ (B : Nat), ((List.range B).takeWhile P).flatMap F = (List.range B).flatMap fun x => if P x then F x else [] := by
 intro B
 induction B with
 | zero => rfl
 | succ B ih =>
  rw [List.range_succ, List.flatMap_append, ← ih]
  by_cases h : ∀ x ∈ List.range B, P x = true
  ·rw [List.takeWhile_append_of_pos h, List.flatMap_append]
   have h2 : (List.range B).takeWhile P = List.range B := by
    have := List.takeWhile_append_of_pos (l₂ := []) h
    simpa using this
   rw [h2]
   congr 1
   cases hB : P B <;> simp [hB]
  ·have hB : P B = false := by
    cases hB : P B with
    | false => rfl
    | true => exact absurd (fun x hx => hP B x (by have := List.mem_range.1 hx; omega) hB) h
   rw [List.takeWhile_append, if_neg ?_]
   ·simp [hB]
   ·intro e
    refine h fun x hx => ?_
    have hs : (List.range B).takeWhile P = List.range B := (List.takeWhile_prefix P).eq_of_length e
    rw [← hs] at hx
    exact List.all_eq_true.1 (List.all_takeWhile) x hx
theorem flat_cut {α : Type} (P : Nat → Bool) (F : Nat → List α) (M B : Nat) (hMB : M ≤ B) (hM : ∀ x, P x = true → x < M) : ((List.range B).flatMap fun x => if P x then F x else []) = (List.range M).flatMap fun x => if P x then F x else [] := by
 rw [range_split hMB, List.flatMap_append]
 rw [show ((List.range (B - M)).map (M + ·)).flatMap (fun x => if P x then F x else []) = [] from ?_]
 ·simp
 ·rw [List.flatMap_eq_nil_iff]
  intro x hx
  obtain ⟨y, _, rfl⟩ := List.mem_map.1 hx
  cases h : P (M + y) with
  | false => simp
  | true => have := hM _ h; omega
theorem outB_eq (q B : Nat) (calm : List Int → Bool) (most : Nat → Nat) (n : Nat) (hdown : ∀ a b, a.length = n → Leq a b → calm b = true → calm a = true) (hmost : ∀ l v, l.length = n → v < n → v ≠ q → calm l = true → rd l v ≤ (most v : Int)) (hq : most q = 0) (hB : ∀ v, v < n → most v + 1 ≤ B) :
  ∀ (k : Nat) (p : List Int), p.length + k = n → (calm (p ++ List.replicate k 0) = true ∨ ∃ v, p.length ≤ v ∧ v < n ∧ v ≠ q) → outB q B calm k p = (extB most k p).filter calm := by
 intro k
 induction k with
 | zero =>
  rintro p hp (h | ⟨v, h1, h2, _⟩)
  ·simp at h; simp [outB, extB, h]
  ·omega
 | succ k ih =>
  intro p hp h
  have hpl : (p ++ [(0 : Int)]).length = p.length + 1 := by simp
  by_cases e : p.length = q
  ·rw [outB, if_pos e, extB, e, hq]
   simp only [Nat.zero_add, List.range_one, List.flatMap_cons, List.flatMap_nil, List.append_nil, Int.natCast_zero, Int.ofNat_zero]
   refine ih (p ++ [0]) (by simp; omega) ?_
   rcases h with h | ⟨v, h1, h2, h3⟩
   ·left; rw [List.append_assoc]; simpa [List.replicate_succ] using h
   ·right; exact ⟨v, by simp; omega, h2, h3⟩
  ·rw [outB, if_neg e, extB, List.filter_flatMap]
   have hdn : ∀ x y : Nat, y ≤ x → calm (p ++ (x : Int) :: List.replicate k 0) = true → calm (p ++ (y : Int) :: List.replicate k 0) = true := fun x y hxy hx => hdown _ _ (by simp; omega) ((Leq.refl p).append (show Leq ((y : Int) :: List.replicate k 0) ((x : Int) :: List.replicate k 0) from ⟨by omega, Leq.refl _⟩)) hx
   rw [flat_takeWhile (fun x : Nat => calm (p ++ (x : Int) :: List.replicate k 0)) _ hdn]
   rw [flat_cut (fun x : Nat => calm (p ++ (x : Int) :: List.replicate k 0)) _ (most p.length + 1) B (hB _ (by omega)) (fun x hx => by
    have := hmost _ p.length (by simp; omega) (by omega) e hx
    have hr : rd (p ++ (x : Int) :: List.replicate k 0) p.length = x := by simp [rd, List.getD_eq_getElem?_getD]
    rw [hr] at this; omega)]
   congr 1
   funext x
   have hl : (p ++ [(x : Int)]) ++ List.replicate k 0 = p ++ (x : Int) :: List.replicate k 0 := by simp
   cases hc : calm (p ++ (x : Int) :: List.replicate k 0) with
   | true =>
    rw [if_pos rfl]
    exact ih _ (by simp; omega) (.inl (by rw [hl]; exact hc))
   | false =>
    rw [if_neg (by simp)]
    symm
    rw [List.filter_eq_nil_iff]
    intro l hl2
    have h1 := ext_above most k _ l hl2
    rw [hl] at h1
    cases hcl : calm l with
    | false => simp
    | true => have := hdown _ _ (by simp; omega) h1 hcl; rw [hc] at this; cases this
def stepB (most : Nat → Nat) (v : Nat) (L : List (List Int)) : List (List Int) := L.flatMap fun p => (List.range (most v + 1)).map fun (x : Nat) => p ++ [(x : Int)]
def stabB (most : Nat → Nat) : Nat → List (List Int)
 | 0 => [[]]
 | v + 1 => stepB most v (stabB most v)
theorem stabB_len (most : Nat → Nat) : ∀ (v : Nat) (l : List Int), l ∈ stabB most v → l.length = v
 | 0, l, h => by simp [stabB] at h; subst h; rfl
 | v + 1, l, h => by
  simp only [stabB, stepB, List.mem_flatMap, List.mem_map] at h
  obtain ⟨p, hp, x, _, rfl⟩ := h
  simp [stabB_len most v p hp]
theorem flatMap_congr' {α β : Type} {f g : α → List β} : ∀ (l : List α), (∀ x ∈ l, f x = g x) → l.flatMap f = l.flatMap g
 | [], _ => rfl
 | x :: l, h => by simp only [List.flatMap_cons]; rw [h x (by simp), flatMap_congr' l (fun y hy => h y (by simp [hy]))]
theorem stabB_ext (most : Nat → Nat) (k : Nat) : ∀ v, (stabB most v).flatMap (extB most k) = stabB most (v + k) := by
 induction k with
 | zero => intro v; simp only [Nat.add_zero]; rw [show extB most 0 = fun p => [p] from rfl]; simp
 | succ k ih =>
  intro v
  rw [show v + (k + 1) = (v + 1) + k by omega, ← ih (v + 1), stabB, stepB, List.flatMap_assoc]
  refine flatMap_congr' _ fun p hp => ?_
  rw [extB, stabB_len most v p hp, List.flatMap_map]
theorem stabB_eq (most : Nat → Nat) (n : Nat) : stabB most n = extB most n [] := by
 have h := stabB_ext most n 0
 simpa [stabB] using h.symm
theorem R_made_empty (w : World) (ok : Nat → Prop) (hok : ok w.heap.size) (e : Nat) : (Kd.int .i64).R e (w.alloc (.cells #[] e)) w.heap.size ok (.slice (some ⟨w.heap.size, 0, none⟩) 0 0) [] :=
 ⟨fun k hk => by
  have : w.heap.size = k := by simpa [Value.ownBlock] using hk
  subst this; exact hok, [], by
  show World.ownsRow _ _ _ 1 _ _ _
  simpa using World.ownsRow_lit (base := w.heap.size) (e := e) (size := 1) w #[] 0 (Nat.le_refl _) (by decide) rfl, Reps.none _ _⟩
theorem reads_none {l : List Int} {w : World} (h : Kd.C (Kd.int .i64) w none l.length l) : l = [] := by
 cases l with
 | nil => rfl
 | cons x xs => obtain ⟨ad, e, _⟩ := h.2.2 (by simp); cases e
def clone.f (l0 : List Int) : Option (List Int) := if l0.length < 17592186044416 then some l0 else none
abbrev api_Divisor_int_36.f (l0 : List Int) : Option (List Int) := clone.f l0
abbrev slices_Clone_int_int.f (l0 : List Int) : Option (List Int) := clone.f l0
theorem api_Divisor_int_36.calls (A0 : Option Addr) (c0 : Nat) (l0 : List Int) (r : List Int) (w : World) (hr0 : Kd.C (Kd.int .i64) w A0 l0.length l0) (hc0 : l0.length ≤ c0) (h : api_Divisor_int_36.f l0 = some r) :
  Calls Try.prog 36 #[.slice A0 l0.length c0] w fun e w' => ∃ v0_ : Value, e = .returned (v0_) ∧ Kd.R (Kd.int .i64) 3 w' w.heap.size (fun _ => True) v0_ r ∧ Below w.heap.size w w' := by
 have hu := Try.underlying42
 have hnil := fun (w : World) (a : Option Addr) (n c : Nat) => Lib.run_eql_slice_nil (P := Try.prog) w 42 3 a n c 0 0 hu
 unfold api_Divisor_int_36.f clone.f at h
 split at h
 ·rename_i hl
  obtain rfl := Option.some.inj h
  cases A0 with
  | none =>
   go_enter Try.func36, Try.ntmps36
   go_wp2
   go_ret
   obtain rfl := reads_none hr0
   exact ⟨_, rfl, Kd.R_nil _ _ _ _ _, Below.refl _ _⟩
  | some ad =>
   go_enter Try.func36, Try.ntmps36
   go_wp2_with (at_builtin; refine Kd.R_append_row (w0 := w) (Value.int .i64) (0 : Int) (h1 := fun _ => rfl) w.heap.size rfl (.tmp 5) (.tmp 6) 42 3 (.int .i64 0) 8 rfl Try.underlying42 info3 rfl (by decide) (.slice (some ⟨w.heap.size, 0, none⟩) 0 0) [] l0 (some ad) l0.length c0 (fun _ => True) rfl rfl (fun _ _ => trivial) (R_made_empty w _ trivial 3) (Kd.C_below hr0 (below_alloc (Below.refl _ _) _)) (below_alloc (Below.refl _ _) _) (by simp) (by simp; omega) ?_; intro v1 w1 hown hb hg _)
   go_ret
   exact ⟨_, rfl, hown, hb⟩
 ·cases h
theorem slices_Clone_int_int.calls (A0 : Option Addr) (c0 : Nat) (l0 : List Int) (r : List Int) (w : World) (hr0 : Kd.C (Kd.int .i64) w A0 l0.length l0) (hc0 : l0.length ≤ c0) (h : slices_Clone_int_int.f l0 = some r) :
  Calls Try.prog 45 #[.slice A0 l0.length c0] w fun e w' => ∃ v0_ : Value, e = .returned (v0_) ∧ Kd.R (Kd.int .i64) 3 w' w.heap.size (fun _ => True) v0_ r ∧ Below w.heap.size w w' := by
 have hu := Try.underlying33
 have hnil := fun (w : World) (a : Option Addr) (n c : Nat) => Lib.run_eql_slice_nil (P := Try.prog) w 33 3 a n c 0 0 hu
 unfold slices_Clone_int_int.f clone.f at h
 split at h
 ·rename_i hl
  obtain rfl := Option.some.inj h
  cases A0 with
  | none =>
   go_enter Try.func45, Try.ntmps45
   go_wp2
   go_ret
   obtain rfl := reads_none hr0
   exact ⟨_, rfl, Kd.R_nil _ _ _ _ _, Below.refl _ _⟩
  | some ad =>
   go_enter Try.func45, Try.ntmps45
   go_wp2_with (at_builtin; refine Kd.R_append_row (w0 := w) (Value.int .i64) (0 : Int) (h1 := fun _ => rfl) w.heap.size rfl (.tmp 5) (.tmp 6) 33 3 (.int .i64 0) 8 rfl Try.underlying33 info3 rfl (by decide) (.slice (some ⟨w.heap.size, 0, none⟩) 0 0) [] l0 (some ad) l0.length c0 (fun _ => True) rfl rfl (fun _ _ => trivial) (R_made_empty w _ trivial 3) (Kd.C_below hr0 (below_alloc (Below.refl _ _) _)) (below_alloc (Below.refl _ _) _) (by simp) (by simp; omega) ?_; intro v1 w1 hown hb hg _)
   go_ret
   exact ⟨_, rfl, hown, hb⟩
 ·cases h
def timesStep (f : Nat → Nat → Int) (x : S66) : Nat → Nat → Int := if x.f0 = x.f1 then f else fun a b => if a = x.f1.toNat ∧ b = x.f0.toNat then x.f2 else if a = x.f0.toNat ∧ b = x.f1.toNat then x.f2 else f a b
def timesOf (E : List S66) : Nat → Nat → Int := E.foldl timesStep (fun _ _ => 0)
theorem timesOf_snoc (E : List S66) (k : Nat) (h : k < E.length) : timesOf (E.take (k + 1)) = timesStep (timesOf (E.take k)) (rd_T66 E k) := by
 unfold timesOf
 rw [List.take_succ_eq_append_getElem h, List.foldl_append]
 simp [rd_T66, List.getD_eq_getElem?_getD, List.getElem?_eq_getElem h]
def EdgesIn (n : Nat) (E : List S66) : Prop := ∀ x ∈ E, 0 ≤ x.f0 ∧ x.f0 < n ∧ 0 ≤ x.f1 ∧ x.f1 < n ∧ 1 ≤ x.f2 ∧ x.f2 ≤ 50
theorem EdgesIn.get {n : Nat} {E : List S66} (h : EdgesIn n E) (k : Nat) (hk : k < E.length) : 0 ≤ (rd_T66 E k).f0 ∧ (rd_T66 E k).f0 < n ∧ 0 ≤ (rd_T66 E k).f1 ∧ (rd_T66 E k).f1 < n ∧ 1 ≤ (rd_T66 E k).f2 ∧ (rd_T66 E k).f2 ≤ 50 := by
 have e : rd_T66 E k = E[k] := by simp [rd_T66, List.getD_eq_getElem?_getD, List.getElem?_eq_getElem hk]
 rw [e]; exact h _ (List.getElem_mem hk)
theorem timesOf_bound {n : Nat} : ∀ (E : List S66) (f : Nat → Nat → Int), (∀ x ∈ E, 1 ≤ x.f2 ∧ x.f2 ≤ 50) → (∀ i j, 0 ≤ f i j ∧ f i j ≤ 50) → ∀ i j, 0 ≤ E.foldl timesStep f i j ∧ E.foldl timesStep f i j ≤ 50
 | [], f, _, hf => hf
 | x :: E, f, h, hf => by
  refine timesOf_bound (n := n) E _ (fun y hy => h y (List.mem_cons_of_mem _ hy)) ?_
  intro i j
  have hx := h x (List.mem_cons_self ..)
  have hff := hf i j
  unfold timesStep
  split
  ·exact hff
  ·dsimp only
   split
   ·omega
   ·split
    ·omega
    ·exact hff
theorem EdgesIn.times {n : Nat} {E : List S66} (h : EdgesIn n E) (i j : Nat) : 0 ≤ timesOf E i j ∧ timesOf E i j ≤ 50 := timesOf_bound (n := n) E _ (fun x hx => ⟨(h x hx).2.2.2.2.1, (h x hx).2.2.2.2.2⟩) (fun _ _ => by simp) i j
def edgesInB (n : Int) (E : List S66) : Bool := E.all fun x => decide (0 ≤ x.f0 ∧ x.f0 < n ∧ 0 ≤ x.f1 ∧ x.f1 < n ∧ 1 ≤ x.f2 ∧ x.f2 ≤ 50)
theorem edgesIn_of {n : Nat} {E : List S66} (h : edgesInB n E = true) : EdgesIn n E := fun x hx => by simpa using List.all_eq_true.1 h x hx
theorem zero_wood : Try.zeroCells120 = ((List.replicate 145 (Value.int .i64 0)) ++ [Value.slice none 0 0] ++ List.replicate 12 (Value.bool false)).toArray := by kernel_rfl
theorem WoodCells.new (n : Int) (chips : Value) : WoodCells ((Try.zeroCells120.setIfInBounds 0 (.int .i64 n)).setIfInBounds 145 chips) n (fun _ _ => 0) chips (fun _ => false) := by
 have hs : Try.zeroCells120.size = 158 := by rw [zero_wood]; simp
 refine ⟨by simp [hs], ?_, ?_, ?_, ?_⟩
 ·rw [Array.getElem?_setIfInBounds_ne (by omega), Array.getElem?_setIfInBounds_self_of_lt (by omega)]
 ·intro i j hi hj
  rw [Array.getElem?_setIfInBounds_ne (by omega), Array.getElem?_setIfInBounds_ne (by omega), zero_wood]
  rw [List.getElem?_toArray, List.getElem?_append_left (by simp; omega), List.getElem?_append_left (by simp; omega), List.getElem?_replicate, if_pos (by omega)]
 ·rw [Array.getElem?_setIfInBounds_self_of_lt (by simp [hs])]
 ·intro i hi
  rw [Array.getElem?_setIfInBounds_ne (by omega), Array.getElem?_setIfInBounds_ne (by omega), zero_wood]
  rw [List.getElem?_toArray, List.getElem?_append_right (by simp), List.getElem?_replicate, if_pos (by simp; omega)]
theorem kindled_calls (n q : Nat) (A0 : Option Addr) (c0 : Nat) (E : List S66) (A2 : Option Addr) (c2 : Nat) (l : List Int) (w : World) (hr0 : Kd.C k66 w A0 E.length E) (hc0 : E.length ≤ c0) (hr2 : Kd.C (Kd.int .i64) w A2 l.length l) (hc2 : l.length ≤ c2) (hn : n ≤ 12) (hq : q < n) (hE : EdgesIn n E) (hl1 : l.length ≤ n) (hl2 : n ≤ l.length) :
  Calls Try.prog 83 #[.agg #[.int .i64 n, .slice A0 E.length c0], .int .i64 q, .slice A2 l.length c2] w (fun e w' => ∃ g Av cv, e = .returned (.pointer (some ⟨g, 0, none⟩)) ∧ WoodAt w' g n (timesOf E) (.slice Av l.length cv) (fun i => if i = q then true else false) ∧ Kd.R (Kd.int .i64) 3 w' w.heap.size (fun _ => True) (.slice Av l.length cv) l ∧ Below w.heap.size w w' ∧ w.heap.size ≤ g) := by
 have hu := Try.underlying24
 go_enter Try.func83, Try.ntmps83
 go_wp2_with fail
 go_region_held3 (fun w' => w'.cell? ⟨w.heap.size, 0, none⟩ = some (.int .i64 n) ∧ w'.cell? ⟨w.heap.size, 1, none⟩ = some (.slice A0 E.length c0)) (first | go_keep | (go_split_ands; exact ⟨(hB.cell (p := ⟨w.heap.size, 0, none⟩) (by simp)).trans (by go_simp), (hB.cell (p := ⟨w.heap.size, 1, none⟩) (by simp)).trans (by go_simp)⟩))
  (first | (go_at_call 36; refine (api_Divisor_int_36.calls A2 c2 l l _ (Kd.C_below hr2 (below_drew (below_alloc (Below.refl _ _) _))) hc2 (by unfold api_Divisor_int_36.f clone.f; rw [if_pos (by omega)])).mono ?_; rintro e w1 ⟨v0, rfl, hR, hB⟩; obtain ⟨Av, cv, rfl⟩ := Kd.R_slice hR))
 rename_i hHeld
 have hW0 : WoodAt (w1.alloc (.cells ((Try.zeroCells120.setIfInBounds 0 (.int .i64 n)).setIfInBounds 145 (.slice Av l.length cv)) 120)) w1.heap.size n (fun _ _ => 0) (.slice Av l.length cv) (fun _ => false) := ⟨_, by simpa using heap_alloc_new w1 _, WoodCells.new _ _⟩
 have hB0 : Below w.heap.size w (w1.alloc (.cells ((Try.zeroCells120.setIfInBounds 0 (.int .i64 n)).setIfInBounds 145 (.slice Av l.length cv)) 120)) := below_alloc (below_then (below_drew (below_alloc (Below.refl _ _) _)) (by simp) hB) _
 have hR0 : Kd.R (Kd.int .i64) 3 (w1.alloc (.cells ((Try.zeroCells120.setIfInBounds 0 (.int .i64 n)).setIfInBounds 145 (.slice Av l.length cv)) 120)) w.heap.size (fun _ => True) (.slice Av l.length cv) l := Kd.R_lower (Kd.R_alloc hR _) (by simp)
 have hg : w.heap.size < w1.heap.size := by have := hB.size; simp at this; omega
 clear hB hR
 generalize hgg : w1.heap.size = g at hW0 hg ⊢
 generalize (w1.alloc (.cells ((Try.zeroCells120.setIfInBounds 0 (.int .i64 n)).setIfInBounds 145 (.slice Av l.length cv)) 120)) = W0 at hW0 hHeld hB0 hR0 ⊢
 clear hgg
 obtain ⟨hs0, hs1⟩ := hHeld
 go_wp2
 go_loopw [19] (fun u wr => ∃ k : Nat, k ≤ E.length ∧ u = .int .i64 k ∧ Aside0 (WoodAt wr g n (timesOf (E.take k)) (.slice Av l.length cv) (fun _ => false)) ∧ Aside0 (Kd.R (Kd.int .i64) 3 wr w.heap.size (fun _ => True) (.slice Av l.length cv) l) ∧ Aside0 (Below w.heap.size w wr)) (fun u _ => E.length - (intOf u).toNat)
 case atStart => exact ⟨0, Nat.zero_le _, rfl, ⟨by simpa [timesOf] using hW0⟩, ⟨hR0⟩, ⟨hB0⟩⟩
 case round =>
  obtain ⟨k, hk, rfl, HW, HR, HB⟩ := hrel
  have hlE := hr0.2.1
  by_cases hlt : k < E.length
  ·obtain ⟨e0, e1, e2, e3, e4, e5⟩ := hE.get k hlt
   have hst := timesOf_snoc E k hlt
   have Hst := Lib.hid hst
   clear hst
   obtain ⟨ad, rfl, hx0, hx1, hx2⟩ := at_T66 hr0 k (by omega) (by omega)
   rw [Int.toNat_natCast] at hx0 hx1 hx2
   replace hx0 := (HB.out.cell (World.block_lt_of_cell? w _ hx0)).trans hx0
   replace hx1 := (HB.out.cell (World.block_lt_of_cell? w _ hx1)).trans hx1
   replace hx2 := (HB.out.cell (World.block_lt_of_cell? w _ hx2)).trans hx2
   generalize rd_T66 E k = x at e0 e1 e2 e3 e4 e5 hx0 hx1 hx2 Hst
   obtain ⟨a, b, m⟩ := x
   simp only at e0 e1 e2 e3 e4 e5 hx0 hx1 hx2
   obtain ⟨a, rfl⟩ := Int.eq_ofNat_of_zero_le e0
   obtain ⟨b, rfl⟩ := Int.eq_ofNat_of_zero_le e2
   have a12 : a < 12 := by omega
   have b12 : b < 12 := by omega
   by_cases hab : a = b
   ·have hb0 : ((a : Int) != (b : Int)) = false := by rw [hab]; simp
    have Hab := Lib.hid hab
    clear hab
    go_wp2
    go_roundw
    case rel => exact ⟨k + 1, by omega, by go_num, ⟨by rw [Hst.out]; simp only [timesStep]; rw [if_pos (by rw [Hab.out])]; exact HW.out.below (below_alloc (Below.refl _ _) _)⟩, ⟨Kd.R_alloc HR.out _⟩, ⟨below_alloc HB.out _⟩⟩
    case measure => simp [intOf]; omega
   ·have hb0 : ((a : Int) != (b : Int)) = true := by rw [bne_iff_ne]; omega
    have hne : 1 + a * 12 + b ≠ 1 + b * 12 + a := by omega
    have hne' : 1 + b * 12 + a ≠ 1 + a * 12 + b := by omega
    have Hab := Lib.hid hab
    clear hab
    have hgl := HW.out.lt
    have HW2 := Aside0.mk (HW.out.below (below_alloc (Below.refl _ _) (.cells #[.int .i64 a, .int .i64 b, .int .i64 m] 66)))
    have f1 := HW2.out.frozen (1 + a * 12 + b)
    have f2 := HW2.out.frozen (1 + b * 12 + a)
    have c1 := HW2.out.cell_times a b a12 b12
    have c2 := HW2.out.cell_times b a b12 a12
    go_wp2
    have s0 : (wr.alloc (.cells #[.int .i64 a, .int .i64 b, .int .i64 m] 66)).cell? ⟨wr.heap.size, 0, none⟩ = some (.int .i64 a) := by go_simp
    have s1 : (wr.alloc (.cells #[.int .i64 a, .int .i64 b, .int .i64 m] 66)).cell? ⟨wr.heap.size, 1, none⟩ = some (.int .i64 b) := by go_simp
    have s2 : (wr.alloc (.cells #[.int .i64 a, .int .i64 b, .int .i64 m] 66)).cell? ⟨wr.heap.size, 2, none⟩ = some (.int .i64 m) := by go_simp
    have HR2 := Aside0.mk (Kd.R_alloc HR.out (.cells #[.int .i64 a, .int .i64 b, .int .i64 m] 66))
    have HB2 := Aside0.mk (below_alloc HB.out (.cells #[.int .i64 a, .int .i64 b, .int .i64 m] 66))
    have hge : g ≠ wr.heap.size := by omega
    have hge' : wr.heap.size ≠ g := by omega
    generalize (wr.alloc (.cells #[.int .i64 a, .int .i64 b, .int .i64 m] 66)) = W2 at s0 s1 s2 HW2 HR2 HB2 f1 f2 c1 c2 ⊢
    generalize wr.heap.size = eb at hge hge' s0 s1 s2 ⊢
    have d1 := (HW2.out.set_times b a b12 a12 m).cell_times a b a12 b12
    have d2 := (HW2.out.set_times a b a12 b12 m).cell_times b a b12 a12
    go_region
    have HW3 := (HW2.out.set_times a b a12 b12 m).set_times b a b12 a12 m
    have HR3 := (HW2.out.set_times a b a12 b12 m).R_set (HW2.out.R_set HR2.out (by decide) (1 + a * 12 + b) (.int .i64 m)) (by decide) (1 + b * 12 + a) (.int .i64 m)
    have HB3 := below_set (below_set HB2.out (g := g) (j := 1 + a * 12 + b) (v := .int .i64 m) (by omega)) (g := g) (j := 1 + b * 12 + a) (v := .int .i64 m) (by omega)
    generalize ((W2.setCell ⟨g, 1 + a * 12 + b, none⟩ (.int .i64 m)).setCell ⟨g, 1 + b * 12 + a, none⟩ (.int .i64 m)) = W3 at HW3 HR3 HB3 ⊢
    replace HW3 := Aside0.mk HW3
    replace HR3 := Aside0.mk HR3
    replace HB3 := Aside0.mk HB3
    go_wp2
    go_roundw
    case rel => exact ⟨k + 1, by omega, by go_num, ⟨by rw [Hst.out]; simp only [timesStep]; rw [if_neg (by have := Hab.out; omega)]; exact HW3.out.drew⟩, ⟨Kd.R_drew HR3.out⟩, ⟨below_drew HB3.out⟩⟩
    case measure => simp [intOf]; omega
  ·obtain rfl : k = E.length := by omega
   have fq := HW.out.frozen (146 + q)
   have cq := HW.out.cell_burnt q (by omega)
   have HW4 := Aside0.mk (HW.out.set_burnt q (by omega) true)
   have HR4 := Aside0.mk (HW.out.R_set HR.out (by decide) (146 + q) (.bool true))
   have HB4 := Aside0.mk (below_set HB.out (g := g) (j := 146 + q) (v := .bool true) (by omega))
   go_wp2
   go_ret
   exact ⟨g, Av, cv, rfl, by simpa using HW4.out, HR4.out, HB4.out, by omega⟩
section
theorem grown_set1 (w : World) (g j : Nat) (v : Value) : w.grownBy (w.setCell ⟨g, j, none⟩ v) (some g) := ⟨rfl, rfl, rfl, by simp, fun k _ hk => Below.heap_setCell w _ v k (fun e => hk (by rw [e]))⟩
def ForestAt (w : World) (g : Nat) (p : Nat → Nat) : Prop := ∃ cs : Array Value, w.heap[g]? = some (.cells cs 139 (0, 0)) ∧ cs.size = 12 ∧ ∀ i, i < 12 → cs[i]? = some (.int .i64 (p i : Nat))
namespace ForestAt
variable {w w' : World} {g : Nat} {p : Nat → Nat}
theorem lt (h : ForestAt w g p) : g < w.heap.size := by
 obtain ⟨cs, hb, _⟩ := h
 exact blk_lt hb
theorem cell (h : ForestAt w g p) (i : Nat) (hi : i < 12) : w.cell? ⟨g, i, none⟩ = some (.int .i64 (p i : Nat)) := by
 obtain ⟨cs, hb, _, hc⟩ := h
 exact (blk_cell hb i).trans (hc i hi)
theorem frozen (h : ForestAt w g p) (k : Nat) : w.frozen? ⟨g, k, none⟩ = false := by
 obtain ⟨cs, hb, _⟩ := h
 exact blk_frozen hb k
theorem grown {row : Option Nat} (h : ForestAt w g p) (hg : w.grownBy w' row) (hne : some g ≠ row) : ForestAt w' g p := by
 obtain ⟨cs, hh, hc⟩ := h
 exact ⟨cs, blk_grown hh hg hne, hc⟩
theorem below (h : ForestAt w g p) (hb : Below w.heap.size w w') : ForestAt w' g p := by
 obtain ⟨cs, hh, hc⟩ := h
 exact ⟨cs, blk_below hh hb, hc⟩
theorem alloc (h : ForestAt w g p) (o : Obj) : ForestAt (w.alloc o) g p := h.below (below_alloc (Below.refl _ _) o)
theorem set (h : ForestAt w g p) (i : Nat) (hi : i < 12) (x : Nat) : ForestAt (w.setCell ⟨g, i, none⟩ (.int .i64 x)) g (fun j => if j = i then x else p j) := by
 obtain ⟨cs, hh, hs, hc⟩ := h
 refine ⟨cs.setIfInBounds i (.int .i64 x), by simpa using blk_set hh i (.int .i64 x), by simp [hs], ?_⟩
 intro k hk
 by_cases e : k = i
 ·subst e
  rw [Array.getElem?_setIfInBounds_self_of_lt (by omega)]; simp
 ·rw [Array.getElem?_setIfInBounds_ne (by omega), hc k hk]; simp [e]
theorem congr {q : Nat → Nat} (h : ForestAt w g p) (he : ∀ i, i < 12 → q i = p i) : ForestAt w g q := by
 obtain ⟨cs, hh, hs, hc⟩ := h
 exact ⟨cs, hh, hs, fun i hi => by rw [he i hi]; exact hc i hi⟩
end ForestAt
def Falls (p : Nat → Nat) : Prop := ∀ i, p i ≤ i
def rootOf (p : Nat → Nat) (v : Nat) : Nat := if h : p v < v then rootOf p (p v) else v
termination_by v
theorem rootOf_le (p : Nat → Nat) (v : Nat) : rootOf p v ≤ v := by
 induction v using Nat.strongRecOn with
 | ind v ih =>
  rw [rootOf]
  split
  ·rename_i h
   exact Nat.le_trans (ih _ h) (Nat.le_of_lt h)
  ·exact Nat.le_refl _
def joinOf (p : Nat → Nat) (a b : Nat) : Nat → Nat := fun j => if j = max (rootOf p a) (rootOf p b) then min (rootOf p a) (rootOf p b) else p j
theorem joinOf_falls {p : Nat → Nat} (h : Falls p) (a b : Nat) : Falls (joinOf p a b) := fun i => by
 unfold joinOf
 split
 ·subst_vars; omega
 ·exact h i
def forestOf (E : List S66) : Nat → Nat := E.foldl (fun p x => joinOf p x.f0.toNat x.f1.toNat) id
theorem forestOf_snoc (E : List S66) (k : Nat) (h : k < E.length) : forestOf (E.take (k + 1)) = joinOf (forestOf (E.take k)) (rd_T66 E k).f0.toNat (rd_T66 E k).f1.toNat := by
 unfold forestOf
 rw [List.take_succ_eq_append_getElem h, List.foldl_append]
 simp [rd_T66, List.getD_eq_getElem?_getD, List.getElem?_eq_getElem h]
theorem forestOf_falls (E : List S66) : Falls (forestOf E) := by
 suffices h : ∀ (E : List S66) p, Falls p → Falls (E.foldl (fun p x => joinOf p x.f0.toNat x.f1.toNat) p) from h E id (fun i => Nat.le_refl _)
 intro E
 induction E with
 | nil => exact fun p h => h
 | cons x E ih => exact fun p h => ih _ (joinOf_falls h _ _)
theorem ret_intn {k : IntKind} {a b : Int} (h : a = b) : Ending.returned (.int k a) = .returned (.int k b) := by rw [h]
theorem root_calls (g v : Nat) (p : Nat → Nat) (w : World) (hf : Falls p) (hv : v < 12) (hw : ForestAt w g p) :
  Calls Try.prog 124 #[.pointer (some ⟨g, 0, none⟩), .int .i64 v] w fun e w' => e = .returned (.int .i64 (rootOf p v : Nat)) ∧ w = w' := by
 go_enter Try.func124, Try.ntmps124
 go_wp2
 go_loop [1] (fun u => ∃ k : Nat, k < 12 ∧ u = .int .i64 k ∧ rootOf p k = rootOf p v) (fun u => (intOf u).toNat)
 case atStart => exact ⟨v, hv, rfl, rfl⟩
 case round =>
  obtain ⟨k, hk, rfl, hr⟩ := hrel
  have Hr := Lib.hid hr
  clear hr
  have hc := hw.cell k hk
  have hi0 : (0 : Int) ≤ (k : Int) := by omega
  have hi1 : (k : Int) < 12 := by omega
  have hle := hf k
  by_cases hlt : p k < k
  ·have hs : rootOf p k = rootOf p (p k) := by rw [rootOf, dif_pos hlt]
   have Hs := Lib.hid hs
   clear hs
   have hne : ((p k : Nat) : Int) ≠ (k : Int) := by omega
   go_wp2
   go_round
   case rel => exact ⟨p k, by omega, rfl, by rw [← Hr.out, Hs.out]⟩
   case measure => simp [intOf]; omega
  ·have hs : rootOf p k = k := by rw [rootOf, dif_neg hlt]
   have Hs := Lib.hid hs
   clear hs
   have hq : p k = k := by omega
   rw [hq] at hc
   clear hq
   go_wp2
   go_ret
   exact ⟨ret_intn (by rw [← Hr.out, Hs.out]), rfl⟩
theorem join_calls (g a b : Nat) (p : Nat → Nat) (w : World) (hf : Falls p) (ha : a < 12) (hb : b < 12) (hw : ForestAt w g p) :
  Calls Try.prog 123 #[.pointer (some ⟨g, 0, none⟩), .int .i64 a, .int .i64 b] w fun e w' => e = .returned (.tuple #[]) ∧ ForestAt w' g (joinOf p a b) ∧ w.grownBy w' (some g) := by
 have h1 := rootOf_le p a
 have h2 := rootOf_le p b
 generalize hra : rootOf p a = ra at h1
 generalize hrb : rootOf p b = rb at h2
 have ca := root_calls g a p w hf ha hw
 have cb := root_calls g b p w hf hb hw
 rw [hra] at ca
 rw [hrb] at cb
 have CA := Aside0.mk ca
 have CB := Aside0.mk cb
 have Hj : Aside0 (ForestAt (w.setCell ⟨g, max ra rb, none⟩ (.int .i64 (min ra rb : Nat))) g (joinOf p a b)) := ⟨by unfold joinOf; rw [hra, hrb]; exact hw.set _ (by omega) _⟩
 have Hg : Aside0 (w.grownBy (w.setCell ⟨g, max ra rb, none⟩ (.int .i64 (min ra rb : Nat))) (some g)) := ⟨grown_set1 ..⟩
 clear hra hrb ca cb
 have hra12 : ra < 12 := by omega
 have hrb12 : rb < 12 := by omega
 have hi0 : (0 : Int) ≤ (ra : Int) := by omega
 have hi1 : (ra : Int) < 12 := by omega
 have hj0 : (0 : Int) ≤ (rb : Int) := by omega
 have hj1 : (rb : Int) < 12 := by omega
 have hca := hw.cell ra hra12
 have hfa := hw.frozen ra
 have hcb := hw.cell rb hrb12
 have hfb := hw.frozen rb
 have HW := Aside0.mk hw
 clear hw h1 h2 hra12 hrb12
 rcases Nat.lt_trichotomy ra rb with hlt | heq | hlt
 ·rw [show max ra rb = rb from by omega, show min ra rb = ra from by omega] at Hj Hg
  have hl1 : (ra : Int) < (rb : Int) := by omega
  have hl2 : ¬ (rb : Int) < (ra : Int) := by omega
  have hl3 : (ra : Int) ≤ (rb : Int) := by omega
  have hl4 : ¬ (rb : Int) ≤ (ra : Int) := by omega
  go_enter Try.func123, Try.ntmps123
  go_wp2_with (first | (go_at_call 124; (first | (with_reducible refine CA.out.mono ?_) | (with_reducible refine CB.out.mono ?_)); rintro e w1 ⟨rfl, rfl⟩))
  go_end0
  exact ⟨rfl, Hj.out, Hg.out⟩
 ·subst heq
  rw [Nat.max_self, Nat.min_self] at Hj Hg
  clear hcb hfb hj0 hj1
  go_enter Try.func123, Try.ntmps123
  go_wp2_with (first | (go_at_call 124; (first | (with_reducible refine CA.out.mono ?_) | (with_reducible refine CB.out.mono ?_)); rintro e w1 ⟨rfl, rfl⟩))
  go_end0
  exact ⟨rfl, Hj.out, Hg.out⟩
 ·rw [show max ra rb = ra from by omega, show min ra rb = rb from by omega] at Hj Hg
  have hl1 : (rb : Int) < (ra : Int) := by omega
  have hl2 : ¬ (ra : Int) < (rb : Int) := by omega
  have hl3 : (rb : Int) ≤ (ra : Int) := by omega
  have hl4 : ¬ (ra : Int) ≤ (rb : Int) := by omega
  go_enter Try.func123, Try.ntmps123
  go_wp2_with (first | (go_at_call 124; (first | (with_reducible refine CA.out.mono ?_) | (with_reducible refine CB.out.mono ?_)); rintro e w1 ⟨rfl, rfl⟩))
  go_end0
  exact ⟨rfl, Hj.out, Hg.out⟩
theorem grown_calls (w : World) : Calls Try.prog 122 #[] w fun e w' => e = .returned (.agg #[.int .i64 0, .int .i64 1, .int .i64 2, .int .i64 3, .int .i64 4, .int .i64 5, .int .i64 6, .int .i64 7, .int .i64 8, .int .i64 9, .int .i64 10, .int .i64 11]) ∧ Below w.heap.size w w' := by
 go_enter Try.func122, Try.ntmps122
 go_wp2
 have hB := below_alloc (below_alloc (Below.refl w.heap.size w) (.cells #[.int .i64 0, .int .i64 0, .int .i64 0, .int .i64 0, .int .i64 0, .int .i64 0, .int .i64 0, .int .i64 0, .int .i64 0, .int .i64 0, .int .i64 0, .int .i64 0] 139)) (.cells #[.int .i64 0, .int .i64 0, .int .i64 0, .int .i64 0, .int .i64 0, .int .i64 0, .int .i64 0, .int .i64 0, .int .i64 0, .int .i64 0, .int .i64 0, .int .i64 0] 139)
 have h0 : ((w.alloc (.cells #[.int .i64 0, .int .i64 0, .int .i64 0, .int .i64 0, .int .i64 0, .int .i64 0, .int .i64 0, .int .i64 0, .int .i64 0, .int .i64 0, .int .i64 0, .int .i64 0] 139)).alloc (.cells #[.int .i64 0, .int .i64 0, .int .i64 0, .int .i64 0, .int .i64 0, .int .i64 0, .int .i64 0, .int .i64 0, .int .i64 0, .int .i64 0, .int .i64 0, .int .i64 0] 139)).heap[w.heap.size]? = some (.cells #[.int .i64 0, .int .i64 0, .int .i64 0, .int .i64 0, .int .i64 0, .int .i64 0, .int .i64 0, .int .i64 0, .int .i64 0, .int .i64 0, .int .i64 0, .int .i64 0] 139 (0, 0)) := blk_alloc (heap_alloc_new w _) _
 have h1 : ForestAt ((w.alloc (.cells #[.int .i64 0, .int .i64 0, .int .i64 0, .int .i64 0, .int .i64 0, .int .i64 0, .int .i64 0, .int .i64 0, .int .i64 0, .int .i64 0, .int .i64 0, .int .i64 0] 139)).alloc (.cells #[.int .i64 0, .int .i64 0, .int .i64 0, .int .i64 0, .int .i64 0, .int .i64 0, .int .i64 0, .int .i64 0, .int .i64 0, .int .i64 0, .int .i64 0, .int .i64 0] 139)) (w.heap.size + 1) (fun i => if i < 0 then i else 0) := by
  refine ⟨#[.int .i64 0, .int .i64 0, .int .i64 0, .int .i64 0, .int .i64 0, .int .i64 0, .int .i64 0, .int .i64 0, .int .i64 0, .int .i64 0, .int .i64 0, .int .i64 0], by simpa using heap_alloc_new (w.alloc (.cells #[.int .i64 0, .int .i64 0, .int .i64 0, .int .i64 0, .int .i64 0, .int .i64 0, .int .i64 0, .int .i64 0, .int .i64 0, .int .i64 0, .int .i64 0, .int .i64 0] 139)) (.cells #[.int .i64 0, .int .i64 0, .int .i64 0, .int .i64 0, .int .i64 0, .int .i64 0, .int .i64 0, .int .i64 0, .int .i64 0, .int .i64 0, .int .i64 0, .int .i64 0] 139), rfl, fun i hi => ?_⟩
  match i, hi with | 0, _ => rfl | 1, _ => rfl | 2, _ => rfl | 3, _ => rfl | 4, _ => rfl | 5, _ => rfl | 6, _ => rfl | 7, _ => rfl | 8, _ => rfl | 9, _ => rfl | 10, _ => rfl | 11, _ => rfl
 generalize hgb : w.heap.size = gb at h0 h1 hB ⊢
 generalize ((w.alloc (.cells #[.int .i64 0, .int .i64 0, .int .i64 0, .int .i64 0, .int .i64 0, .int .i64 0, .int .i64 0, .int .i64 0, .int .i64 0, .int .i64 0, .int .i64 0, .int .i64 0] 139)).alloc (.cells #[.int .i64 0, .int .i64 0, .int .i64 0, .int .i64 0, .int .i64 0, .int .i64 0, .int .i64 0, .int .i64 0, .int .i64 0, .int .i64 0, .int .i64 0, .int .i64 0] 139)) = W0 at h0 h1 hB ⊢
 go_loopw [2, 3] (fun _ i wr => ∃ k : Nat, k ≤ 12 ∧ i = .int .i64 k ∧ Aside0 (wr.heap[gb]? = some (.cells #[.int .i64 0, .int .i64 0, .int .i64 0, .int .i64 0, .int .i64 0, .int .i64 0, .int .i64 0, .int .i64 0, .int .i64 0, .int .i64 0, .int .i64 0, .int .i64 0] 139 (0, 0))) ∧ Aside0 (ForestAt wr (gb + 1) (fun i => if i < k then i else 0)) ∧ Aside0 (Below gb w wr)) (fun _ i _ => 12 - (intOf i).toNat)
 case atStart => exact ⟨0, by omega, rfl, ⟨h0⟩, ⟨h1⟩, ⟨hB⟩⟩
 case round =>
  obtain ⟨k, hk, rfl, H0, H1, HB⟩ := hrel
  by_cases hlt : k < 12
  ·have hc := H1.out.cell k hlt
   have hf := H1.out.frozen k
   have hi0 : (0 : Int) ≤ (k : Int) := by omega
   have hi1 : (k : Int) < 12 := by omega
   have n0 := Aside0.mk (blk_grown H0.out (grown_set1 wr (gb + 1) k (.int .i64 k)) (by simp))
   have n1 := Aside0.mk ((H1.out.set k hlt k).congr (q := fun i => if i < k + 1 then i else 0) (fun i hi => by (try dsimp only); split <;> split <;> (try split) <;> omega))
   have n2 := Aside0.mk (HB.out.grown (grown_set1 wr (gb + 1) k (.int .i64 k)) (by have := H1.out.lt; omega) (fun j e => by cases e; omega))
   go_wp2
   go_roundw
   case rel => exact ⟨k + 1, by omega, by go_num, n0, n1, n2⟩
   case measure => (show 12 - ((k : Int) + 1).toNat < 12 - ((k : Int)).toNat; omega)
  ·obtain rfl : k = 12 := by omega
   have hc0 : wr.cell? ⟨gb + 1, 0, none⟩ = some (.int .i64 0) := H1.out.cell 0 (by omega)
   have hz0 : wr.cell? ⟨gb, 0, none⟩ = some (.int .i64 0) := (blk_cell H0.out 0).trans rfl
   have hf0 := blk_frozen H0.out 0
   have hc1 : wr.cell? ⟨gb + 1, 1, none⟩ = some (.int .i64 1) := H1.out.cell 1 (by omega)
   have hz1 : wr.cell? ⟨gb, 1, none⟩ = some (.int .i64 0) := (blk_cell H0.out 1).trans rfl
   have hf1 := blk_frozen H0.out 1
   have hc2 : wr.cell? ⟨gb + 1, 2, none⟩ = some (.int .i64 2) := H1.out.cell 2 (by omega)
   have hz2 : wr.cell? ⟨gb, 2, none⟩ = some (.int .i64 0) := (blk_cell H0.out 2).trans rfl
   have hf2 := blk_frozen H0.out 2
   have hc3 : wr.cell? ⟨gb + 1, 3, none⟩ = some (.int .i64 3) := H1.out.cell 3 (by omega)
   have hz3 : wr.cell? ⟨gb, 3, none⟩ = some (.int .i64 0) := (blk_cell H0.out 3).trans rfl
   have hf3 := blk_frozen H0.out 3
   have hc4 : wr.cell? ⟨gb + 1, 4, none⟩ = some (.int .i64 4) := H1.out.cell 4 (by omega)
   have hz4 : wr.cell? ⟨gb, 4, none⟩ = some (.int .i64 0) := (blk_cell H0.out 4).trans rfl
   have hf4 := blk_frozen H0.out 4
   have hc5 : wr.cell? ⟨gb + 1, 5, none⟩ = some (.int .i64 5) := H1.out.cell 5 (by omega)
   have hz5 : wr.cell? ⟨gb, 5, none⟩ = some (.int .i64 0) := (blk_cell H0.out 5).trans rfl
   have hf5 := blk_frozen H0.out 5
   have hc6 : wr.cell? ⟨gb + 1, 6, none⟩ = some (.int .i64 6) := H1.out.cell 6 (by omega)
   have hz6 : wr.cell? ⟨gb, 6, none⟩ = some (.int .i64 0) := (blk_cell H0.out 6).trans rfl
   have hf6 := blk_frozen H0.out 6
   have hc7 : wr.cell? ⟨gb + 1, 7, none⟩ = some (.int .i64 7) := H1.out.cell 7 (by omega)
   have hz7 : wr.cell? ⟨gb, 7, none⟩ = some (.int .i64 0) := (blk_cell H0.out 7).trans rfl
   have hf7 := blk_frozen H0.out 7
   have hc8 : wr.cell? ⟨gb + 1, 8, none⟩ = some (.int .i64 8) := H1.out.cell 8 (by omega)
   have hz8 : wr.cell? ⟨gb, 8, none⟩ = some (.int .i64 0) := (blk_cell H0.out 8).trans rfl
   have hf8 := blk_frozen H0.out 8
   have hc9 : wr.cell? ⟨gb + 1, 9, none⟩ = some (.int .i64 9) := H1.out.cell 9 (by omega)
   have hz9 : wr.cell? ⟨gb, 9, none⟩ = some (.int .i64 0) := (blk_cell H0.out 9).trans rfl
   have hf9 := blk_frozen H0.out 9
   have hc10 : wr.cell? ⟨gb + 1, 10, none⟩ = some (.int .i64 10) := H1.out.cell 10 (by omega)
   have hz10 : wr.cell? ⟨gb, 10, none⟩ = some (.int .i64 0) := (blk_cell H0.out 10).trans rfl
   have hf10 := blk_frozen H0.out 10
   have hc11 : wr.cell? ⟨gb + 1, 11, none⟩ = some (.int .i64 11) := H1.out.cell 11 (by omega)
   have hz11 : wr.cell? ⟨gb, 11, none⟩ = some (.int .i64 0) := (blk_cell H0.out 11).trans rfl
   have hf11 := blk_frozen H0.out 11
   go_wp2
   have hs := H0.out
   replace hs := blk_set hs 0 (.int .i64 0)
   replace hs := blk_set hs 1 (.int .i64 1)
   replace hs := blk_set hs 2 (.int .i64 2)
   replace hs := blk_set hs 3 (.int .i64 3)
   replace hs := blk_set hs 4 (.int .i64 4)
   replace hs := blk_set hs 5 (.int .i64 5)
   replace hs := blk_set hs 6 (.int .i64 6)
   replace hs := blk_set hs 7 (.int .i64 7)
   replace hs := blk_set hs 8 (.int .i64 8)
   replace hs := blk_set hs 9 (.int .i64 9)
   replace hs := blk_set hs 10 (.int .i64 10)
   replace hs := blk_set hs 11 (.int .i64 11)
   simp only [List.setIfInBounds_toArray, List.set_cons_zero, List.set_cons_succ] at hs
   refine bodyPost_ret (v := .agg #[.int .i64 0, .int .i64 1, .int .i64 2, .int .i64 3, .int .i64 4, .int .i64 5, .int .i64 6, .int .i64 7, .int .i64 8, .int .i64 9, .int .i64 10, .int .i64 11]) (results_cell_row rfl _ _ gb 139 #[.int .i64 0, .int .i64 1, .int .i64 2, .int .i64 3, .int .i64 4, .int .i64 5, .int .i64 6, .int .i64 7, .int .i64 8, .int .i64 9, .int .i64 10, .int .i64 11] (0, 0) _ rfl hs Try.underlying139 rfl rfl) rfl ⟨rfl, ?_⟩
   iterate 12 (refine below_set ?_ (by omega))
   rw [hgb]
   exact HB.out
end
theorem joined_calls (N : Int) (A0 : Option Addr) (c0 : Nat) (E : List S66) (w : World) (hr0 : Kd.C k66 w A0 E.length E) (hE : EdgesIn 12 E) :
  Calls Try.prog 117 #[.agg #[.int .i64 N, .slice A0 E.length c0]] w fun e w' => e = .returned (.agg #[.int .i64 (forestOf E 0 : Nat), .int .i64 (forestOf E 1 : Nat), .int .i64 (forestOf E 2 : Nat), .int .i64 (forestOf E 3 : Nat), .int .i64 (forestOf E 4 : Nat), .int .i64 (forestOf E 5 : Nat), .int .i64 (forestOf E 6 : Nat), .int .i64 (forestOf E 7 : Nat), .int .i64 (forestOf E 8 : Nat), .int .i64 (forestOf E 9 : Nat), .int .i64 (forestOf E 10 : Nat), .int .i64 (forestOf E 11 : Nat)]) ∧ Below w.heap.size w w' := by
 have hu := Try.underlying24
 have hue := Try.underlying66
 have HE := Aside0.mk hE.get
 clear hE
 go_enter Try.func117, Try.ntmps117
 go_wp2_with (first | (go_at_call 122; refine (grown_calls _).mono ?_; rintro e w1 ⟨rfl, hb⟩; have hbx : w1.heap[w.heap.size]? = some (.cells #[.int .i64 N, .slice A0 E.length c0] 24 (0, 0)) := blk_below (blk_alloc (heap_alloc_new w _) _) hb; have hbz : w1.heap[w.heap.size + 1]? = some (.cells #[.int .i64 0, .int .i64 0, .int .i64 0, .int .i64 0, .int .i64 0, .int .i64 0, .int .i64 0, .int .i64 0, .int .i64 0, .int .i64 0, .int .i64 0, .int .i64 0] 139 (0, 0)) := blk_below (heap_alloc2_new w _ _) hb; have HB0 := Aside0.mk (below_step (below_alloc (below_alloc (Below.refl w.heap.size w) _) _) hb); clear hb; have hc1 : (w1.alloc (.cells #[.int .i64 0, .int .i64 1, .int .i64 2, .int .i64 3, .int .i64 4, .int .i64 5, .int .i64 6, .int .i64 7, .int .i64 8, .int .i64 9, .int .i64 10, .int .i64 11] 139)).cell? ⟨w.heap.size, 1, none⟩ = some (.slice A0 E.length c0) := (blk_cell (blk_alloc hbx _) 1).trans rfl))
 have HBX := Aside0.mk (blk_alloc hbx (.cells #[.int .i64 0, .int .i64 1, .int .i64 2, .int .i64 3, .int .i64 4, .int .i64 5, .int .i64 6, .int .i64 7, .int .i64 8, .int .i64 9, .int .i64 10, .int .i64 11] 139))
 have HBZ := Aside0.mk (blk_alloc hbz (.cells #[.int .i64 0, .int .i64 1, .int .i64 2, .int .i64 3, .int .i64 4, .int .i64 5, .int .i64 6, .int .i64 7, .int .i64 8, .int .i64 9, .int .i64 10, .int .i64 11] 139))
 have HB1 := Aside0.mk (below_alloc HB0.out (.cells #[.int .i64 0, .int .i64 1, .int .i64 2, .int .i64 3, .int .i64 4, .int .i64 5, .int .i64 6, .int .i64 7, .int .i64 8, .int .i64 9, .int .i64 10, .int .i64 11] 139))
 have HF : Aside0 (ForestAt (w1.alloc (.cells #[.int .i64 0, .int .i64 1, .int .i64 2, .int .i64 3, .int .i64 4, .int .i64 5, .int .i64 6, .int .i64 7, .int .i64 8, .int .i64 9, .int .i64 10, .int .i64 11] 139)) w1.heap.size (forestOf (E.take 0))) := ⟨⟨#[.int .i64 0, .int .i64 1, .int .i64 2, .int .i64 3, .int .i64 4, .int .i64 5, .int .i64 6, .int .i64 7, .int .i64 8, .int .i64 9, .int .i64 10, .int .i64 11], heap_alloc_new _ _, rfl, fun i hi => by
  match i, hi with | 0, _ => rfl | 1, _ => rfl | 2, _ => rfl | 3, _ => rfl | 4, _ => rfl | 5, _ => rfl | 6, _ => rfl | 7, _ => rfl | 8, _ => rfl | 9, _ => rfl | 10, _ => rfl | 11, _ => rfl⟩⟩
 have hlt : w.heap.size + 1 < w1.heap.size := blk_lt hbz
 clear hbx hbz HB0 hc1
 generalize (w1.alloc (.cells #[.int .i64 0, .int .i64 1, .int .i64 2, .int .i64 3, .int .i64 4, .int .i64 5, .int .i64 6, .int .i64 7, .int .i64 8, .int .i64 9, .int .i64 10, .int .i64 11] 139)) = W0 at HBX HBZ HB1 HF ⊢
 generalize w1.heap.size = gf at HF hlt ⊢
 clear w1
 go_loopw [10] (fun i wr => ∃ k : Nat, k ≤ E.length ∧ i = .int .i64 k ∧ Aside0 (wr.heap[w.heap.size]? = some (.cells #[.int .i64 N, .slice A0 E.length c0] 24 (0, 0))) ∧ Aside0 (wr.heap[w.heap.size + 1]? = some (.cells #[.int .i64 0, .int .i64 0, .int .i64 0, .int .i64 0, .int .i64 0, .int .i64 0, .int .i64 0, .int .i64 0, .int .i64 0, .int .i64 0, .int .i64 0, .int .i64 0] 139 (0, 0))) ∧ Aside0 (ForestAt wr gf (forestOf (E.take k))) ∧ Aside0 (Below w.heap.size w wr)) (fun i _ => E.length - (intOf i).toNat)
 case atStart => exact ⟨0, by omega, rfl, HBX, HBZ, HF, HB1⟩
 case round =>
  clear HBX HBZ HF HB1
  obtain ⟨k, hk, rfl, HBX, HBZ, HF, HB⟩ := hrel
  by_cases hkl : k < E.length
  ·obtain ⟨h1, h2, h3, h4, -, -⟩ := HE.out k hkl
   have Hs := Lib.hid (forestOf_snoc E k hkl)
   obtain ⟨ad, rfl, hx0, hx1, hx2⟩ := at_T66 hr0 k (by omega) (by omega)
   rw [Int.toNat_natCast] at hx0 hx1 hx2
   generalize rd_T66 E k = x at h1 h2 h3 h4 hx0 hx1 hx2 Hs
   obtain ⟨a, b, m⟩ := x
   simp only at h1 h2 h3 h4 hx0 hx1 hx2
   obtain ⟨a, rfl⟩ := Int.eq_ofNat_of_zero_le h1
   obtain ⟨b, rfl⟩ := Int.eq_ofNat_of_zero_le h3
   have hx0 := pw_cell_below HB.out hx0
   have hx1 := pw_cell_below HB.out hx1
   have hx2 := pw_cell_below HB.out hx2
   have hk0 : (0 : Int) ≤ (k : Int) := by omega
   have hk1 : (k : Int) < (E.length : Int) := by omega
   have hml := hr0.2.1
   have hw64 : wrap64 ((k : Int) + 1) = (k : Int) + 1 := by unfold wrap64; omega
   have HF1 := Aside0.mk (HF.out.alloc (.cells #[.int .i64 a, .int .i64 b, .int .i64 m] 66))
   have HX1 := Aside0.mk (blk_alloc HBX.out (.cells #[.int .i64 a, .int .i64 b, .int .i64 m] 66))
   have HZ1 := Aside0.mk (blk_alloc HBZ.out (.cells #[.int .i64 a, .int .i64 b, .int .i64 m] 66))
   have HB1 := Aside0.mk (below_alloc HB.out (.cells #[.int .i64 a, .int .i64 b, .int .i64 m] 66))
   have ha : a < 12 := by omega
   have hb : b < 12 := by omega
   clear h1 h2 h3 h4
   go_wp2_with (first | (go_at_call 123; refine (join_calls gf a b _ _ (forestOf_falls _) ha hb HF1.out).mono ?_; rintro e w2 ⟨rfl, hf, hg⟩; have n0 := Aside0.mk hf; have n1 := Aside0.mk (blk_grown HX1.out hg (by simp; omega)); have n2 := Aside0.mk (blk_grown HZ1.out hg (by simp; omega)); have n3 := Aside0.mk (Below.grown HB1.out hg HB1.out.size (fun j e => by cases e; omega)); clear hf hg))
   go_roundw
   case rel => exact ⟨k + 1, by omega, by go_num, n1, n2, ⟨by rw [Hs.out]; exact n0.out⟩, n3⟩
   case measure => (show E.length - ((k : Int) + 1).toNat < E.length - ((k : Int)).toNat; omega)
  ·obtain rfl : k = E.length := by omega
   rw [List.take_length] at HF
   have hc0 := HF.out.cell 0 (by omega)
   have hz0 : wr.cell? ⟨w.heap.size + 1, 0, none⟩ = some (.int .i64 0) := (blk_cell HBZ.out 0).trans rfl
   have hf0 := blk_frozen HBZ.out 0
   have hc1 := HF.out.cell 1 (by omega)
   have hz1 : wr.cell? ⟨w.heap.size + 1, 1, none⟩ = some (.int .i64 0) := (blk_cell HBZ.out 1).trans rfl
   have hf1 := blk_frozen HBZ.out 1
   have hc2 := HF.out.cell 2 (by omega)
   have hz2 : wr.cell? ⟨w.heap.size + 1, 2, none⟩ = some (.int .i64 0) := (blk_cell HBZ.out 2).trans rfl
   have hf2 := blk_frozen HBZ.out 2
   have hc3 := HF.out.cell 3 (by omega)
   have hz3 : wr.cell? ⟨w.heap.size + 1, 3, none⟩ = some (.int .i64 0) := (blk_cell HBZ.out 3).trans rfl
   have hf3 := blk_frozen HBZ.out 3
   have hc4 := HF.out.cell 4 (by omega)
   have hz4 : wr.cell? ⟨w.heap.size + 1, 4, none⟩ = some (.int .i64 0) := (blk_cell HBZ.out 4).trans rfl
   have hf4 := blk_frozen HBZ.out 4
   have hc5 := HF.out.cell 5 (by omega)
   have hz5 : wr.cell? ⟨w.heap.size + 1, 5, none⟩ = some (.int .i64 0) := (blk_cell HBZ.out 5).trans rfl
   have hf5 := blk_frozen HBZ.out 5
   have hc6 := HF.out.cell 6 (by omega)
   have hz6 : wr.cell? ⟨w.heap.size + 1, 6, none⟩ = some (.int .i64 0) := (blk_cell HBZ.out 6).trans rfl
   have hf6 := blk_frozen HBZ.out 6
   have hc7 := HF.out.cell 7 (by omega)
   have hz7 : wr.cell? ⟨w.heap.size + 1, 7, none⟩ = some (.int .i64 0) := (blk_cell HBZ.out 7).trans rfl
   have hf7 := blk_frozen HBZ.out 7
   have hc8 := HF.out.cell 8 (by omega)
   have hz8 : wr.cell? ⟨w.heap.size + 1, 8, none⟩ = some (.int .i64 0) := (blk_cell HBZ.out 8).trans rfl
   have hf8 := blk_frozen HBZ.out 8
   have hc9 := HF.out.cell 9 (by omega)
   have hz9 : wr.cell? ⟨w.heap.size + 1, 9, none⟩ = some (.int .i64 0) := (blk_cell HBZ.out 9).trans rfl
   have hf9 := blk_frozen HBZ.out 9
   have hc10 := HF.out.cell 10 (by omega)
   have hz10 : wr.cell? ⟨w.heap.size + 1, 10, none⟩ = some (.int .i64 0) := (blk_cell HBZ.out 10).trans rfl
   have hf10 := blk_frozen HBZ.out 10
   have hc11 := HF.out.cell 11 (by omega)
   have hz11 : wr.cell? ⟨w.heap.size + 1, 11, none⟩ = some (.int .i64 0) := (blk_cell HBZ.out 11).trans rfl
   have hf11 := blk_frozen HBZ.out 11
   go_wp2
   have hs := HBZ.out
   replace hs := blk_set hs 0 (.int .i64 (forestOf E 0 : Nat))
   replace hs := blk_set hs 1 (.int .i64 (forestOf E 1 : Nat))
   replace hs := blk_set hs 2 (.int .i64 (forestOf E 2 : Nat))
   replace hs := blk_set hs 3 (.int .i64 (forestOf E 3 : Nat))
   replace hs := blk_set hs 4 (.int .i64 (forestOf E 4 : Nat))
   replace hs := blk_set hs 5 (.int .i64 (forestOf E 5 : Nat))
   replace hs := blk_set hs 6 (.int .i64 (forestOf E 6 : Nat))
   replace hs := blk_set hs 7 (.int .i64 (forestOf E 7 : Nat))
   replace hs := blk_set hs 8 (.int .i64 (forestOf E 8 : Nat))
   replace hs := blk_set hs 9 (.int .i64 (forestOf E 9 : Nat))
   replace hs := blk_set hs 10 (.int .i64 (forestOf E 10 : Nat))
   replace hs := blk_set hs 11 (.int .i64 (forestOf E 11 : Nat))
   simp only [List.setIfInBounds_toArray, List.set_cons_zero, List.set_cons_succ] at hs
   refine bodyPost_ret (v := .agg #[.int .i64 (forestOf E 0 : Nat), .int .i64 (forestOf E 1 : Nat), .int .i64 (forestOf E 2 : Nat), .int .i64 (forestOf E 3 : Nat), .int .i64 (forestOf E 4 : Nat), .int .i64 (forestOf E 5 : Nat), .int .i64 (forestOf E 6 : Nat), .int .i64 (forestOf E 7 : Nat), .int .i64 (forestOf E 8 : Nat), .int .i64 (forestOf E 9 : Nat), .int .i64 (forestOf E 10 : Nat), .int .i64 (forestOf E 11 : Nat)]) (results_cell_row rfl _ _ (w.heap.size + 1) 139 #[.int .i64 (forestOf E 0 : Nat), .int .i64 (forestOf E 1 : Nat), .int .i64 (forestOf E 2 : Nat), .int .i64 (forestOf E 3 : Nat), .int .i64 (forestOf E 4 : Nat), .int .i64 (forestOf E 5 : Nat), .int .i64 (forestOf E 6 : Nat), .int .i64 (forestOf E 7 : Nat), .int .i64 (forestOf E 8 : Nat), .int .i64 (forestOf E 9 : Nat), .int .i64 (forestOf E 10 : Nat), .int .i64 (forestOf E 11 : Nat)] (0, 0) _ rfl hs Try.underlying139 rfl rfl) rfl ⟨rfl, ?_⟩
   iterate 12 (refine below_set ?_ (by simp))
   exact HB.out
end Go.Proofs.Ytffdiakgjakngaa.P
