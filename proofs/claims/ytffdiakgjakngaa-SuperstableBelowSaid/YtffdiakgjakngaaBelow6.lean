/- A part of the proof that SuperstableBelow answers true (text 6 of 12): own walks and plain laws; no conditions. -/
import Derived.Lib.SliceRun
import Derived.Test.YtffdiakgjakngaaBelow5
namespace Go.Proofs.Ytffdiakgjakngaa.P
open Go.RowKit Go.Proofs.YtffdiakgjakngaaW.PrintWords Go.Proofs.YtffdiakgjakngaaW.PrintLast Go.Proofs.YtffdiakgjakngaaW.PrintMore
set_option linter.unusedVariables false
set_option linter.unusedSimpArgs false
set_option maxHeartbeats 8000000
set_option maxRecDepth 100000
def noneTo (waits : Nat → Bool) (k : Nat) : Bool := (List.range k).all fun i => !waits i
theorem noneTo_succ (waits : Nat → Bool) (k : Nat) : noneTo waits (k + 1) = (noneTo waits k && !waits k) := by simp [noneTo, List.range_succ, List.all_append]
theorem noneTo_false {waits : Nat → Bool} {k m : Nat} (h : waits k = true) (hk : k < m) : noneTo waits m = false := by
 unfold noneTo
 rw [List.all_eq_false]
 exact ⟨k, List.mem_range.2 hk, by simp [h]⟩
theorem index_calls (ad : Addr) (waits : Nat → Bool) (w : World) (hc : ∀ i, i < 12 → w.cell? (ad.add i) = some (.bool (waits i))) :
  Calls Try.prog 96 #[.slice (some ad) 12 12, .bool true] w fun e w' => ∃ r : Int, e = .returned (.int .i64 r) ∧ decide (r < 0) = noneTo waits 12 ∧ w = w' := by
 have HC := Aside0.mk hc
 clear hc
 go_enter Try.func96, Try.ntmps96
 go_wp2
 go_loop [8] (fun i => ∃ k : Nat, k ≤ 12 ∧ i = .int .i64 k ∧ Aside0 (noneTo waits k = true)) (fun i => 12 - (intOf i).toNat)
 case atStart => exact ⟨0, by omega, rfl, ⟨rfl⟩⟩
 case round =>
  obtain ⟨k, hk, rfl, HN⟩ := hrel
  by_cases hlt : k < 12
  ·have hc := HC.out k hlt
   have hi0 : (0 : Int) ≤ (k : Int) := by omega
   have hi1 : (k : Int) < 12 := by omega
   cases hb : waits k with
   | true =>
    have Hb := Lib.hid hb
    rw [hb] at hc
    clear hb
    go_wp2
    go_ret
    exact ⟨k, rfl, by rw [noneTo_false Hb.out hlt]; simp, rfl⟩
   | false =>
    have Hb := Lib.hid hb
    rw [hb] at hc
    clear hb
    go_wp2
    go_round
    case rel => exact ⟨k + 1, by omega, by go_num, ⟨by rw [noneTo_succ, HN.out, Hb.out]; rfl⟩⟩
    case measure => simp [intOf]; omega
  ·obtain rfl : k = 12 := by omega
   go_wp2
   go_ret
   exact ⟨-1, rfl, by rw [HN.out]; decide, rfl⟩
theorem next_calls (g : Nat) (d : Value) (q : Int) (rows val : Value) (waits : Nat → Bool) (w : World) (hw : PileAt w g d q rows val waits) :
  Calls Try.prog 78 #[.pointer (some ⟨g, 0, none⟩)] w fun e w' => ∃ r : Int, e = .returned (.int .i64 r) ∧ decide (r < 0) = noneTo waits 12 ∧ w = w' := by
 have hup := Try.underlying110
 have hub := Try.underlying108
 have HI := Aside0.mk (index_calls ⟨g, 6, none⟩ waits w (fun i hi => by
  have h := hw.cell_waits i hi
  rw [add_at]
  exact h))
 have hfz := hw.frozen 6
 have hlt := hw.lt
 go_enter Try.func78, Try.ntmps78
 go_wp2_with (go_at_call 96; refine HI.out.mono ?_; rintro e w1 ⟨r, rfl, hr, rfl⟩; have HR := Aside0.mk hr; clear hr)
 go_ret
 exact ⟨r, rfl, HR.out, rfl⟩
theorem rooted_zero {k : Nat} {N : Int} {E : List S66} {q : Int} (h : stabilize_rooted.f k N E q = some 0) : graph_Check.f k N E = some 0 ∧ (0 ≤ N ∧ N ≤ 12) ∧ rootsTo (forestOf E) N.toNat = 1 ∧ 0 ≤ q ∧ q < N := by
 unfold stabilize_rooted.f connect_Connected.f at h
 simp only [Option.bind_assoc] at h
 obtain ⟨t, ht, h⟩ := Option.bind_eq_some_iff.1 h
 by_cases h0 : t = 0
 ·subst h0
  rw [if_pos rfl] at h
  by_cases hk : okConn N E = true
  ·rw [if_pos hk] at h
   simp only [Option.bind_some, if_pos] at h
   simp only [okConn, Bool.and_eq_true, decide_eq_true_eq] at hk
   refine ⟨ht, hk.1, ?_⟩
   by_cases hr : rootsTo (forestOf E) N.toNat = 1
   ·simp only [hr, decide_true, if_true] at h
    by_cases h1 : q < 0
    ·rw [if_pos h1] at h; exact absurd (Option.some.inj h) (by decide)
    ·rw [if_neg h1] at h
     by_cases h2 : q ≥ N
     ·rw [if_pos h2] at h; exact absurd (Option.some.inj h) (by decide)
     ·exact ⟨hr, by omega, by omega⟩
   ·simp [hr] at h
  ·rw [if_neg hk] at h; cases h
 ·rw [if_neg h0] at h
  simp [h0] at h
def okList (N : Int) (E : List S66) : Bool := multsOk E && edgesInB N E
def stabilize_Stable.f (k : Nat) (N : Int) (E : List S66) (q : Int) (d : List Int) : Option (Bool × Int) :=
 (stabilize_Check.f k N E q d).bind fun t => if t = 0 then (if okList N E = true ∧ d.length = N.toNat then some (noneTo (looseB q (pileVal N.toNat E) d) N.toNat, 0) else none) else some (false, t)
theorem check_zero {k : Nat} {N : Int} {E : List S66} {q : Int} {d : List Int} (h : stabilize_Check.f k N E q d = some 0) : stabilize_rooted.f k N E q = some 0 := by
 unfold stabilize_Check.f at h
 obtain ⟨t, ht, h⟩ := Option.bind_eq_some_iff.1 h
 by_cases h0 : t = 0
 ·subst h0; exact ht
 ·rw [if_neg h0] at h; exact absurd (Option.some.inj h) h0
theorem noneTo_cut {f : Nat → Bool} {n m : Nat} (h : n ≤ m) : noneTo (fun x => if x < n then f x else false) m = noneTo f n := by
 unfold noneTo
 rw [Bool.eq_iff_iff, List.all_eq_true, List.all_eq_true]
 constructor
 ·intro h1 x hx
  have h2 := List.mem_range.1 hx
  have := h1 x (List.mem_range.2 (by omega))
  simpa [h2] using this
 ·intro h1 x hx
  by_cases hl : x < n
  ·have := h1 x (List.mem_range.2 hl); simpa [hl] using this
  ·simp [hl]
theorem given_good (k n : Nat) (A0 : Option Addr) (c0 : Nat) (E : List S66) (q : Int) (Ad : Option Addr) (cd : Nat) (dl : List Int) (w : World) (hr0 : Kd.C k66 w A0 E.length E) (hc0 : E.length ≤ c0) (hd : Kd.C (Kd.int .i64) w Ad dl.length dl) (hcd : dl.length ≤ cd)
  (hdl : dl.length = n) (hck : stabilize_Check.f k n E q dl = some 0) (hE : multsOk E = true) (hin : EdgesIn n E) :
  Calls Try.prog 77 #[.agg #[.int .i64 n, .slice A0 E.length c0], .int .i64 q, .slice Ad dl.length cd] w fun e w' => ∃ (gp : Nat) (Av1 Av2 : Option Addr) (cv1 cv2 : Nat) (rv : Value), e = .returned (.tuple #[.pointer (some ⟨gp, 0, none⟩), .int .i64 0]) ∧ PileAt w' gp (.slice Av1 dl.length cv1) q rv (.slice Av2 n cv2) (fun x => if x < dl.length then looseB q (pileVal n E) dl x else false) ∧ Below w.heap.size w w' := by
 have hu := Try.underlying24
 obtain ⟨hg, ⟨_, hn⟩, _, _⟩ := rooted_zero (check_zero hck)
 have Hdl := Aside0.mk hdl
 have Hck := Aside0.mk hck
 have Hg := Aside0.mk hg
 have HE := Aside0.mk hE
 have HI := Aside0.mk hin
 have hn12 : n ≤ 12 := by omega
 clear hdl hck hg hE hin hn
 have HX := Aside0.mk (heap_alloc_new w (.cells #[.int .i64 n, .slice A0 E.length c0] 24))
 go_enter Try.func77, Try.ntmps77
 go_wp2_with (first | (go_at_call 88; refine (stabilize_Check.calls k n A0 c0 E q Ad cd dl 0 _ (Kd.C_alloc hr0 _) hc0 (Kd.C_alloc hd _) hcd Hck.out).mono ?_; rintro e w1 ⟨rfl, hb⟩; have HB1 := Aside0.mk (below_step (below_alloc (Below.refl w.heap.size w) _) hb); have hx0 : w1.cell? ⟨w.heap.size, 0, none⟩ = some (.int .i64 n) := (blk_cell (blk_below HX.out hb) 0).trans rfl; have hx1 : w1.cell? ⟨w.heap.size, 1, none⟩ = some (.slice A0 E.length c0) := (blk_cell (blk_below HX.out hb) 1).trans rfl; clear hb) | (go_at_call 92; refine (pileOf_calls k n A0 c0 E q Ad cd dl _ (Kd.C_below hr0 HB1.out) hc0 (Kd.C_below hd HB1.out) hcd hn12 Hdl.out Hg.out HE.out HI.out).mono ?_; rintro e w2 ⟨gp, Av1, Av2, cv1, cv2, rv, rfl, hP, hR, hb⟩; have HP := Aside0.mk hP; have HB2 := Aside0.mk (below_step HB1.out hb); clear hP hR hb))
 go_ret2
 exact ⟨gp, Av1, Av2, cv1, cv2, rv, rfl, HP.out, HB2.out⟩
theorem given_bad (k : Nat) (N : Int) (A0 : Option Addr) (c0 : Nat) (E : List S66) (q : Int) (Ad : Option Addr) (cd : Nat) (dl : List Int) (t : Int) (w : World) (hr0 : Kd.C k66 w A0 E.length E) (hc0 : E.length ≤ c0) (hd : Kd.C (Kd.int .i64) w Ad dl.length dl) (hcd : dl.length ≤ cd)
  (hck : stabilize_Check.f k N E q dl = some t) (ht : t ≠ 0) :
  Calls Try.prog 77 #[.agg #[.int .i64 N, .slice A0 E.length c0], .int .i64 q, .slice Ad dl.length cd] w fun e w' => e = .returned (.tuple #[.pointer none, .int .i64 t]) ∧ Below w.heap.size w w' := by
 have hu := Try.underlying24
 have Hck := Aside0.mk hck
 have hne : (t != 0) = true := by simpa using ht
 clear hck ht
 go_enter Try.func77, Try.ntmps77
 go_wp2_with (go_at_call 88; refine (stabilize_Check.calls k N A0 c0 E q Ad cd dl t _ (Kd.C_alloc hr0 _) hc0 (Kd.C_alloc hd _) hcd Hck.out).mono ?_; rintro e w1 ⟨rfl, hb⟩; have HB1 := Aside0.mk (below_step (below_alloc (Below.refl w.heap.size w) _) hb); clear hb)
 go_ret2
 exact ⟨rfl, HB1.out⟩
theorem stabilize_Stable.calls (k : Nat) (a0_0 : Int) (A0_1 : Option Addr) (c0_1 : Nat) (l0_1 : List (S66)) (a1 : Int) (A2 : Option Addr) (c2 : Nat) (l2 : List Int) (r1 : Bool) (r2 : Int) (w : World) (hr0_1 : Kd.C k66 w A0_1 l0_1.length l0_1) (hc0_1 : l0_1.length ≤ c0_1) (hr2 : Kd.C (Kd.int .i64) w A2 l2.length l2) (hc2 : l2.length ≤ c2) (h : stabilize_Stable.f k a0_0 l0_1 a1 l2 = some (r1, r2)) :
  Calls Try.prog 56 #[.agg #[.int .i64 a0_0, .slice A0_1 l0_1.length c0_1], .int .i64 a1, .slice A2 l2.length c2] w fun e w' => e = .returned (.tuple #[.bool r1, .int .i64 r2]) ∧ Below w.heap.size w w' := by
 have hu := Try.underlying24
 unfold stabilize_Stable.f at h
 obtain ⟨t, ht, H⟩ := Option.bind_eq_some_iff.mp h
 clear h
 by_cases h0 : t = 0
 ·subst h0
  rw [if_pos rfl] at H
  by_cases hv : okList a0_0 l0_1 = true ∧ l2.length = a0_0.toNat
  ·rw [if_pos hv] at H
   simp only [Option.some.injEq, Prod.mk.injEq] at H
   obtain ⟨rfl, rfl⟩ := H
   obtain ⟨_, ⟨hN, hN12⟩, _, _⟩ := rooted_zero (check_zero ht)
   obtain ⟨n, rfl⟩ := Int.eq_ofNat_of_zero_le hN
   obtain ⟨hok, hlen⟩ := hv
   simp only [okList, Bool.and_eq_true] at hok
   rw [Int.toNat_natCast] at hlen ⊢
   have HG := Aside0.mk (fun W h1 h2 => given_good k n A0_1 c0_1 l0_1 a1 A2 c2 l2 W h1 hc0_1 h2 hc2 hlen ht hok.1 (edgesIn_of hok.2))
   have HL := Aside0.mk (show ∀ W : Nat → Bool, noneTo (fun x => if x < l2.length then W x else false) 12 = noneTo W n from fun W => by rw [hlen]; exact noneTo_cut (by omega))
   clear hlen hok ht
   go_enter Try.func56, Try.ntmps56
   go_wp2_with (first | (go_at_call 77; refine (HG.out _ (Kd.C_alloc hr0_1 _) (Kd.C_alloc hr2 _)).mono ?_; rintro e w1 ⟨gp, Av1, Av2, cv1, cv2, rv, rfl, hP, hb⟩; have HB := Aside0.mk (below_step (below_alloc (Below.refl w.heap.size w) _) hb); have HN := Aside0.mk (next_calls gp _ _ _ _ _ w1 hP); clear hP hb) | (go_at_call 78; refine HN.out.mono ?_; rintro e w2 ⟨r, rfl, hr, rfl⟩; rw [HL.out] at hr; have HR := Aside0.mk hr; clear hr))
   go_ret2
   refine ⟨?_, HB.out⟩
   show Ending.returned (.tuple #[.bool (decide (r < 0)), .int .i64 0]) = _
   rw [HR.out]
  ·rw [if_neg hv] at H; cases H
 ·rw [if_neg h0] at H
  simp only [Option.some.injEq, Prod.mk.injEq] at H
  obtain ⟨rfl, rfl⟩ := H
  have HG := Aside0.mk (fun W h1 h2 => given_bad k a0_0 A0_1 c0_1 l0_1 a1 A2 c2 l2 t W h1 hc0_1 h2 hc2 ht h0)
  have hne : (t == 0) = false := by simpa using h0
  clear ht h0
  go_enter Try.func56, Try.ntmps56
  go_wp2_with (go_at_call 77; refine (HG.out _ (Kd.C_alloc hr0_1 _) (Kd.C_alloc hr2 _)).mono ?_; rintro e w1 ⟨rfl, hb⟩; have HB := Aside0.mk (below_step (below_alloc (Below.refl w.heap.size w) _) hb); clear hb)
  go_ret2
  exact ⟨rfl, HB.out⟩
theorem leO_add {α : Type} {f : Nat → Option α} (h : ∀ k, LeO (f k) (f (k + 1))) {k : Nat} {r : α} (hk : f k = some r) : ∀ m, f (k + m) = some r
 | 0 => hk
 | m + 1 => h _ _ (leO_add h hk m)
theorem wrap_nat {i : Nat} (h : i ≤ 1000) : wrap64 ((i : Int) + 1) = ((i + 1 : Nat) : Int) := by
 rw [show wrap64 ((i : Int) + 1) = (i : Int) + 1 from by unfold wrap64; omega]
 omega
theorem within_ok {x : Int} (h : -1048576 ≤ x ∧ x ≤ 1048576) : chips_within.f x = some true := by
 unfold chips_within.f
 rw [if_pos (show x ≥ -1048576 from h.1)]
 simp [h.2]
theorem chips_l0 (c : List Int) (hc : c.length ≤ 12) (h : ∀ i : Nat, -1048576 ≤ rd c i ∧ rd c i ≤ 1048576) : ∀ (m K i : Nat), i + m = c.length → m < K → chips_Check.l0 K c c.length i = some 0
 | 0, 0, i, _, hK => by omega
 | 0, K + 1, i, hi, _ => by
  rw [chips_Check.l0, if_neg (by omega)]
 | m + 1, 0, i, _, hK => by omega
 | m + 1, K + 1, i, hi, hK => by
  rw [chips_Check.l0, if_pos (by omega), if_pos (by omega), if_pos (by omega), within_ok (h i), Option.bind_some, if_pos rfl, wrap_nat (by omega)]
  exact chips_l0 c hc h m K (i + 1) (by omega) (by omega)
theorem st_l0 (q : Int) (c : List Int) (hc : c.length ≤ 12) (h : ∀ i : Nat, 0 ≤ rd c i) : ∀ (m K i : Nat), i + m = c.length → m < K → stabilize_Check.l0 K q c c.length i = some 0
 | 0, 0, i, _, hK => by omega
 | 0, K + 1, i, hi, _ => by
  rw [stabilize_Check.l0, if_neg (by omega)]
 | m + 1, 0, i, _, hK => by omega
 | m + 1, K + 1, i, hi, hK => by
  have hi0 := h i
  rw [stabilize_Check.l0, if_pos (by omega), if_pos (by omega), if_pos (by omega), if_neg (show ¬ rd c i < 0 by omega), wrap_nat (by omega), st_l0 q c hc h m K (i + 1) (by omega) (by omega)]
  split <;> rfl
theorem burnt_all (b : Nat → Bool) : ∀ n, (unbTo b n).length = 0 ↔ (List.range n).all b = true
 | 0 => by simp [unbTo]
 | n + 1 => by
  have ih := burnt_all b n
  rw [List.range_succ, List.all_append]
  simp only [unbTo]
  cases hb : b n with
  | true => simp [hb] at ih ⊢; exact ih
  | false => simp [hb]
theorem check_ok {k n : Nat} {E : List S66} {q : Nat} {c : List Int} (hr : stabilize_rooted.f k n E q = some 0) (hc : OkC n q c) : stabilize_Check.f (k + 20) n E q c = some 0 := by
 obtain ⟨_, ⟨_, hn⟩, _, hq0, hqn⟩ := rooted_zero hr
 have hl := hc.1
 have h1 := leO_add (fun k => stabilize_rooted.mono n E q k) hr 20
 have h2 : chips_Check.f (k + 20) c n = some 0 := by
  unfold chips_Check.f chips_vertices.f
  rw [if_neg (by omega), if_neg (by omega), Option.bind_some, if_pos rfl, if_pos (by omega)]
  exact chips_l0 c (by omega) (fun i => by have := hc.2.1 i; omega) c.length (k + 20) 0 (by omega) (by omega)
 unfold stabilize_Check.f
 rw [h1, Option.bind_some, if_pos rfl, h2, Option.bind_some, if_pos rfl]
 exact st_l0 q c (by omega) (fun i => (hc.2.1 i).1) c.length (k + 20) 0 (by omega) (by omega)
theorem bcheck_ok {k n : Nat} {E : List S66} {q : Nat} {c : List Int} (hr : stabilize_rooted.f k n E q = some 0) (hc : OkC n q c) : burning_check.f (k + 20) n E q c = some 0 := by
 obtain ⟨_, ⟨_, hn⟩, _, hq0, hqn⟩ := rooted_zero hr
 have hl := hc.1
 unfold burning_check.f
 rw [check_ok hr hc, Option.bind_some, if_pos rfl, if_pos hq0, if_pos (by omega), if_pos hc.2.2]
theorem superstable_ok {k n : Nat} {E : List S66} {q : Nat} {c : List Int} (hr : stabilize_rooted.f k n E q = some 0) (hE : edgesInB n E = true) (hc : OkC n q c) : burning_Superstable.f (k + 20) n E q c = some (superB n (timesOf E) q c, 0) := by
 obtain ⟨_, ⟨_, hn⟩, _, hq0, hqn⟩ := rooted_zero hr
 have hl := hc.1
 unfold burning_Superstable.f burning_Burn.f
 rw [bcheck_ok hr hc, Option.bind_some, if_pos rfl, if_pos (by simp only [rightConf, Bool.and_eq_true, decide_eq_true_eq]; exact ⟨by omega, hE⟩), Option.bind_some, if_pos rfl]
 congr 2
 rw [Int.toNat_natCast, Int.toNat_natCast]
 have h := burnt_all (burnAll (sinkOnly q) (fireOf n E q c)) n
 rw [Bool.eq_iff_iff]
 unfold superB
 rw [show fireList n (catchB n (timesOf E) c) (sinkOnly q) = fireOf n E q c from rfl, ← h]
 simp
theorem calm_ok {k n : Nat} {E : List S66} {q : Nat} {c : List Int} (hr : stabilize_rooted.f k n E q = some 0) (hE : edgesInB n E = true) (hc : OkC n q c) : superstable_calm.f (k + 20) n E q c = some (superB n (timesOf E) q c) := by
 unfold superstable_calm.f
 rw [superstable_ok hr hE hc, Option.bind_some]
 cases superB n (timesOf E) q c <;> simp
theorem flamesTo_le {t : Nat → Nat → Int} (ht : ∀ i j, 0 ≤ t i j ∧ t i j ≤ 50) (b : Nat → Bool) (v : Nat) (n : Nat) (hn : n ≤ 12) : flamesTo t b v n ≤ 600 := by
 have := (flamesTo_bound (burnt := b) ht v n).2
 omega
theorem superB_small {n : Nat} {E : List S66} {q : Nat} (hE : edgesInB n E = true) (hn : n ≤ 12) {l : List Int} {v : Nat} (hv : v < n) (hq : v ≠ q) (h : superB n (timesOf E) q l = true) : rd l v < valOf n (timesOf E) v ∧ valOf n (timesOf E) v ≤ 600 := by
 have ht := (edgesIn_of hE).times
 exact ⟨((superB_iff (fun i j => (ht i j).1) q l).1 h).lt hv hq, flamesTo_le ht _ v n hn⟩
def topTo (val : List Int) (q : Int) (n j : Nat) : List Int := (List.range n).map fun v => if v < j ∧ (v : Int) ≠ q then rd val v - 1 else 0
theorem topTo_zero (val : List Int) (q : Int) (n : Nat) : topTo val q n 0 = List.replicate n 0 := by
 unfold topTo
 refine List.ext_getElem (by simp) fun i h1 h2 => ?_
 simp
theorem topTo_skip {val : List Int} {q : Int} {n j : Nat} (h : (j : Int) = q) : topTo val q n (j + 1) = topTo val q n j := by
 unfold topTo
 refine List.map_congr_left fun v _ => ?_
 by_cases e : v = j
 ·subst e; simp [h]
 ·have : (v < j + 1 ∧ (v : Int) ≠ q) ↔ (v < j ∧ (v : Int) ≠ q) := by omega
  simp only [this]
theorem topTo_set {val : List Int} {q : Int} {n j : Nat} (h : (j : Int) ≠ q) (hj : j < n) : topTo val q n (j + 1) = (topTo val q n j).set j (rd val j - 1) := by
 refine List.ext_getElem (by simp [topTo]) fun i h1 h2 => ?_
 rw [List.getElem_set]
 simp only [topTo, List.getElem_map, List.getElem_range]
 by_cases e : j = i
 ·subst e; simp [h]
 ·rw [if_neg e]
  have : (i < j + 1 ∧ (i : Int) ≠ q) ↔ (i < j ∧ (i : Int) ≠ q) := by omega
  simp only [this]
theorem pileVal_length (n : Nat) (E : List S66) : (pileVal n E).length = n := valTo_length n _ _
theorem pileVal_bound {n : Nat} {E : List S66} (h : multsOk E = true) (i : Nat) : 0 ≤ rd (pileVal n E) i ∧ rd (pileVal n E) i ≤ 4000 := by
 have h1 := valTo_bound n (singlesTo E E.length) (singlesTo E E.length).length i
 have h2 := singles_le h
 unfold pileVal
 omega
theorem pileOf_calls' (k n : Nat) (A0 : Option Addr) (c0 : Nat) (E : List S66) (q : Int) (Ad : Option Addr) (cd : Nat) (dl : List Int) (w : World) (hr0 : Kd.C k66 w A0 E.length E) (hc0 : E.length ≤ c0) (hd : Kd.C (Kd.int .i64) w Ad n dl) (hcd : n ≤ cd)
  (hn : n ≤ 12) (hdl : dl.length = n) (ht : graph_Check.f k n E = some 0) (hE : multsOk E = true) (hin : EdgesIn n E) :
  Calls Try.prog 92 #[.agg #[.int .i64 n, .slice A0 E.length c0], .int .i64 q, .slice Ad n cd] w fun e w' => ∃ (gp : Nat) (Av1 Av2 : Option Addr) (cv1 cv2 : Nat) (rv : Value), e = .returned (.tuple #[.pointer (some ⟨gp, 0, none⟩), .int .i64 0]) ∧ PileAt w' gp (.slice Av1 n cv1) q rv (.slice Av2 n cv2) (fun x => if x < n then looseB q (pileVal n E) dl x else false) ∧ (Kd.int .i64).R 3 w' w.heap.size (fun _ => True) (.slice Av2 n cv2) (pileVal n E) ∧ Below w.heap.size w w' := by
 subst hdl
 exact pileOf_calls k dl.length A0 c0 E q Ad cd dl w hr0 hc0 hd hcd hn rfl ht hE hin
def stabilize_Maximal.f (k : Nat) (N : Int) (E : List S66) (q : Int) : Option (List Int × Int) :=
 (stabilize_rooted.f k N E q).bind fun t => if t = 0 then (if okList N E = true then some (topTo (pileVal N.toNat E) q N.toNat N.toNat, 0) else none) else some ([], t)
theorem maximal_bad (k : Nat) (N : Int) (A0 : Option Addr) (c0 : Nat) (E : List S66) (q : Int) (t : Int) (w : World) (hr0 : Kd.C k66 w A0 E.length E) (hc0 : E.length ≤ c0)
  (hck : stabilize_rooted.f k N E q = some t) (ht : t ≠ 0) :
  Calls Try.prog 69 #[.agg #[.int .i64 N, .slice A0 E.length c0], .int .i64 q] w fun e w' => e = .returned (.tuple #[.slice none 0 0, .int .i64 t]) ∧ Below w.heap.size w w' := by
 have hu := Try.underlying24
 have Hck := Aside0.mk hck
 have hne : (t != 0) = true := by simpa using ht
 clear hck ht
 go_enter Try.func69, Try.ntmps69
 go_wp2_with (go_at_call 91; refine (stabilize_rooted.calls k N A0 c0 E q t _ (Kd.C_alloc hr0 _) hc0 Hck.out).mono ?_; rintro e w1 ⟨rfl, hb⟩; have HB1 := Aside0.mk (below_step (below_alloc (Below.refl w.heap.size w) _) hb); clear hb)
 go_ret2
 exact ⟨rfl, HB1.out⟩
theorem maximal_good (k n : Nat) (A0 : Option Addr) (c0 : Nat) (E : List S66) (q : Int) (w : World) (hr0 : Kd.C k66 w A0 E.length E) (hc0 : E.length ≤ c0)
  (hck : stabilize_rooted.f k n E q = some 0) (hE : multsOk E = true) (hin : EdgesIn n E) :
  Calls Try.prog 69 #[.agg #[.int .i64 n, .slice A0 E.length c0], .int .i64 q] w fun e w' => ∃ v, e = .returned (.tuple #[v, .int .i64 0]) ∧ (Kd.int .i64).R 3 w' w.heap.size (fun _ => True) v (topTo (pileVal n E) q n n) ∧ Below w.heap.size w w' := by
 have hu := Try.underlying24
 have hup := Try.underlying110
 obtain ⟨hg, ⟨_, hn⟩, _, hq0, hqn⟩ := rooted_zero hck
 obtain ⟨zs, hmk, hzr⟩ := made_ints 33 Try.underlying33 n (by omega)
 obtain ⟨ys, hmk2, hyr⟩ := made_ints 42 Try.underlying42 n (by omega)
 have HZ := Aside0.mk hzr
 have HY := Aside0.mk hyr
 have Hck := Aside0.mk hck
 have Hg := Aside0.mk hg
 have HE := Aside0.mk hE
 have HI := Aside0.mk hin
 have hn12 : n ≤ 12 := by omega
 clear hzr hyr hck hg hE hin hn
 have HX := Aside0.mk (heap_alloc_new w (.cells #[.int .i64 n, .slice A0 E.length c0] 24))
 go_enter Try.func69, Try.ntmps69
 go_wp2_with (go_at_call 91; refine (stabilize_rooted.calls k n A0 c0 E q 0 _ (Kd.C_alloc hr0 _) hc0 Hck.out).mono ?_; rintro e w1 ⟨rfl, hb⟩; have HB1 := Aside0.mk (below_step (below_alloc (Below.refl w.heap.size w) _) hb); have HX1 := Aside0.mk (blk_below HX.out hb); clear hb)
 generalize hgb : w.heap.size = gb at HX HB1 HX1 ⊢
 have hgl := blk_lt HX1.out
 have hx0 : w1.cell? ⟨gb, 0, none⟩ = some (.int .i64 n) := (blk_cell HX1.out 0).trans rfl
 have hx1 : w1.cell? ⟨gb, 1, none⟩ = some (.slice A0 E.length c0) := (blk_cell HX1.out 1).trans rfl
 have hy0 : (w1.alloc (.cells zs 3)).drew.cell? ⟨gb, 0, none⟩ = some (.int .i64 n) := (blk_cell (blk_alloc HX1.out _) 0).trans rfl
 have hy1 : (w1.alloc (.cells zs 3)).drew.cell? ⟨gb, 1, none⟩ = some (.slice A0 E.length c0) := (blk_cell (blk_alloc HX1.out _) 1).trans rfl
 have HP := Aside0.mk (pileOf_calls' k n A0 c0 E q (some ⟨w1.heap.size, 0, none⟩) n (List.replicate n 0) (w1.alloc (.cells zs 3)).drew (Kd.C_drew (Kd.C_alloc (Kd.C_below hr0 (by rw [hgb]; exact HB1.out)) _)) hc0 (by have h := (Kd.R_reads' (Kd.R_drew (HZ.out w1 (fun _ => True) trivial))).2.2; rw [List.length_replicate] at h; exact h) (Nat.le_refl _) hn12 (by simp) Hg.out HE.out HI.out)
 have HS1 : Aside0 (gb ≤ (w1.alloc (.cells zs 3)).drew.heap.size) := ⟨by have h : (w1.alloc (.cells zs 3)).drew.heap.size = w1.heap.size + 1 := World.size_alloc w1 _; omega⟩
 have HB1d := Aside0.mk (below_drew1 (HB1.out.alloc (Nat.le_of_lt hgl) (.cells zs 3)))
 have HX1d := Aside0.mk (show (w1.alloc (.cells zs 3)).drew.heap[gb]? = some (.cells #[.int .i64 n, .slice A0 E.length c0] 24 (0, 0)) from blk_alloc HX1.out _)
 go_wp2
 go_region_with ((go_at_call 92; refine HP.out.mono ?_; rintro e w2 ⟨gp, Av1, Av2, cv1, cv2, rv, rfl, hP, hR, hb⟩; have HB2 := Aside0.mk (HB1d.out.trans (hb.mono HS1.out)); have HX2 := Aside0.mk (blk_below HX1d.out hb); have HP2 := Aside0.mk hP; have HR2 := Aside0.mk (Kd.R_lower hR HS1.out); clear hP hR hb))
 all_goals have hz0 : w2.cell? ⟨gb, 0, none⟩ = some (.int .i64 n) := (blk_cell HX2.out 0).trans rfl
 all_goals have hgl2 := blk_lt HX2.out
 all_goals have HP3 := Aside0.mk (HP2.out.below (below_alloc (Below.refl w2.heap.size w2) (.cells ys 3)))
 all_goals have HR3 := Aside0.mk (Kd.R_alloc HR2.out (.cells ys 3))
 all_goals have HB3 := Aside0.mk (HB2.out.alloc (Nat.le_of_lt hgl2) (.cells ys 3))
 all_goals have HO3 := Aside0.mk (Kd.R_lower (HY.out w2 (fun k => k = w2.heap.size) rfl) (Nat.le_of_lt hgl2))
 all_goals have hw3 := HP3.out.cell_val
 all_goals have hbv : Aside0 (some w2.heap.size ≠ (Value.slice Av2 n cv2).ownBlock) := ⟨fun e => by have := Kd.R_lt HR2.out _ e.symm; omega⟩
 all_goals clear HX HB1 HX1 HB1d HX1d HS1 HP HB2 HX2 HP2 HR2 hx0 hx1 hy0 hy1 hmk
 all_goals go_wp2
 all_goals clear hz0 hmk2 hgl2 hw3 HP3
 all_goals generalize w2.alloc (.cells ys 3) = w3 at HR3 HB3 HO3 ⊢
 all_goals generalize w2.heap.size = ob at HO3 hbv ⊢
 all_goals
  have HVB := Aside0.mk (pileVal_bound (n := n) HE.out)
  have HVL := Aside0.mk (pileVal_length n E)
  obtain ⟨vl, hvl⟩ : ∃ vl, vl = pileVal n E := ⟨_, rfl⟩
  rw [← hvl] at HR3 HVB HVL
  have HVE := Aside0.mk hvl
  clear hvl
  rw [← topTo_zero vl q n] at HO3
  go_loopw [38] (fun i wr => ∃ (j : Nat), j ≤ n ∧ i = .int .i64 j ∧ Aside0 ((Kd.int .i64).R 3 wr gb (fun _ => True) (.slice Av2 n cv2) vl) ∧ Aside0 ((Kd.int .i64).R 3 wr gb (fun k => k = ob) (.slice (some ⟨ob, 0, none⟩) n n) (topTo vl q n j)) ∧ Aside0 (Below gb w wr)) (fun i _ => n - (intOf i).toNat)
  case atStart => exact ⟨0, by omega, rfl, HR3, HO3, HB3⟩
  case round =>
   clear HR3 HO3 HB3
   obtain ⟨j, hj, rfl, HR, HO, HB⟩ := hrel
   by_cases hjn : j < n
   ·obtain ⟨-, -, hC⟩ := Kd.R_reads' HR.out
    rw [HVL.out] at hC
    obtain ⟨ad, rfl, hx⟩ := Kd.at_int hC j (by omega) (by omega)
    rw [Int.toNat_natCast] at hx
    clear hC
    have hvb := HVB.out j
    have hi0 : (0 : Int) ≤ (j : Int) := by omega
    have hi1 : (j : Int) < (n : Int) := by omega
    by_cases hq : (j : Int) = q
    ·have Hs := Aside0.mk (topTo_skip (val := vl) (n := n) hq)
     subst hq
     go_wp2
     go_roundw
     case rel => exact ⟨j + 1, by omega, by go_num, HR, ⟨by rw [Hs.out]; exact HO.out⟩, HB⟩
     case measure => exact (show n - ((j : Int) + 1).toNat < n - ((j : Int)).toNat by omega)
    ·have Hs := Aside0.mk (topTo_set (val := vl) hq hjn)
     have hqb : ((j : Int) != q) = true := by simpa using hq
     obtain ⟨hcl, hfz⟩ := Kd.R_celln (0 : Int) HO.out (j : Int) (by omega) (by omega)
     have hp := Kd.R_putg HO.out (j : Int) (rd vl j - 1)
     rw [Int.toNat_natCast] at hcl hfz hp
     have HO1 := Aside0.mk hp.1
     have HR1 := Aside0.mk (Kd.R_grown1 HR.out rfl hp.2 hbv.out)
     have HB1 := Aside0.mk (Below.setCell (p := ⟨ob, j, none⟩) HB.out (Kd.R_base HO.out ob rfl) (.int .i64 (rd vl j - 1)))
     clear hp hq
     generalize rd vl j = x at hx hvb HO1 HR1 HB1 Hs
     go_wp2
     go_roundw
     case rel => exact ⟨j + 1, by omega, by go_num, HR1, ⟨by rw [Hs.out]; exact HO1.out⟩, HB1⟩
     case measure => exact (show n - ((j : Int) + 1).toNat < n - ((j : Int)).toNat by omega)
   ·obtain rfl : j = n := by omega
    go_wp2
    go_ret2
    exact ⟨.slice (some ⟨ob, 0, none⟩) _ _, rfl, by rw [hgb, ← HVE.out]; exact Kd.R_mono HO.out (fun _ _ => trivial), by rw [hgb]; exact HB.out⟩
theorem stabilize_Maximal.calls (k : Nat) (a0_0 : Int) (A0_1 : Option Addr) (c0_1 : Nat) (l0_1 : List (S66)) (a1 : Int) (r1 : List Int) (r2 : Int) (w : World) (hr0_1 : Kd.C k66 w A0_1 l0_1.length l0_1) (hc0_1 : l0_1.length ≤ c0_1) (h : stabilize_Maximal.f k a0_0 l0_1 a1 = some (r1, r2)) :
  Calls Try.prog 69 #[.agg #[.int .i64 a0_0, .slice A0_1 l0_1.length c0_1], .int .i64 a1] w fun e w' => ∃ v0_ : Value, e = .returned (.tuple #[v0_, .int .i64 r2]) ∧ Kd.R (Kd.int .i64) 3 w' w.heap.size (fun _ => True) v0_ r1 ∧ Below w.heap.size w w' := by
 unfold stabilize_Maximal.f at h
 obtain ⟨t, ht, H⟩ := Option.bind_eq_some_iff.mp h
 by_cases h0 : t = 0
 ·subst h0
  rw [if_pos rfl] at H
  by_cases hv : okList a0_0 l0_1 = true
  ·rw [if_pos hv] at H
   simp only [Option.some.injEq, Prod.mk.injEq] at H
   obtain ⟨rfl, rfl⟩ := H
   obtain ⟨_, ⟨hN, hN12⟩, _, _⟩ := rooted_zero ht
   obtain ⟨n, rfl⟩ := Int.eq_ofNat_of_zero_le hN
   simp only [okList, Bool.and_eq_true] at hv
   rw [Int.toNat_natCast]
   exact maximal_good k n A0_1 c0_1 l0_1 a1 w hr0_1 hc0_1 ht hv.1 (edgesIn_of hv.2)
  ·rw [if_neg hv] at H; cases H
 ·rw [if_neg h0] at H
  simp only [Option.some.injEq, Prod.mk.injEq] at H
  obtain ⟨rfl, rfl⟩ := H
  refine (maximal_bad k a0_0 A0_1 c0_1 l0_1 a1 t w hr0_1 hc0_1 ht h0).mono ?_
  rintro e w' ⟨rfl, hb⟩
  exact ⟨_, rfl, Kd.R_nil _ _ _ _ _, hb⟩
def superstable_first.f (k : Nat) (a0_0 : Int) (l0_1 : List (S66)) (a1 : Int) : Option (List Int × Int) := (stabilize_Maximal.f k a0_0 l0_1 a1).bind fun bt120 => (some (bt120.1, bt120.2))
theorem superstable_first.calls (k : Nat) (a0_0 : Int) (A0_1 : Option Addr) (c0_1 : Nat) (l0_1 : List (S66)) (a1 : Int) (r1 : List Int) (r2 : Int) (w : World) (hr0_1 : Kd.C k66 w A0_1 l0_1.length l0_1) (hc0_1 : l0_1.length ≤ c0_1) (h : superstable_first.f k a0_0 l0_1 a1 = some (r1, r2)) :
  Calls Try.prog 43 #[.agg #[.int .i64 a0_0, .slice A0_1 l0_1.length c0_1], .int .i64 a1] w fun e w' => ∃ v0_ : Value, e = .returned (.tuple #[v0_, .int .i64 r2]) ∧ Kd.R (Kd.int .i64) 3 w' w.heap.size (fun _ => True) v0_ r1 ∧ Below w.heap.size w w' := by
 have hu24 := Try.underlying24
 have HR0_1 := Aside0.mk hr0_1
 have HC0_1 := Aside0.mk hc0_1
 clear hr0_1 hc0_1
 have HB := Aside0.mk (Below.refl w.heap.size w)
 have H : ((stabilize_Maximal.f k a0_0 l0_1 a1).bind fun bt120 => (some (bt120.1, bt120.2))) = some (r1, r2) := h
 clear h
 replace H := Option.bind_eq_some_iff.mp H
 obtain ⟨⟨t120, t123⟩, A30, H⟩ := H
 replace H : (some (t120, t123)) = some (r1, r2) := H
 have A3 := Aside0.mk A30
 clear A30
 simp only [Option.some.injEq, Prod.mk.injEq] at H
 obtain ⟨rfl, rfl⟩ := H
 go_enter Try.func43, Try.ntmps43
 go_wp2_with (first | ((with_reducible refine gate_dst (N := 2) rfl ?_); refine zX 2 #[.int .i64 a0_0, .slice A0_1 l0_1.length c0_1] 24 ?_; intro gb119 hg w4 hbox hb; have BK119 := Aside0.mk (hbox); have GW119 := zG HB hg; have GE119 := zG HB hg; replace HB := zS HB hb; clear hb hbox hg; obtain ⟨hcz5_0, hcz5_1, hfz5_0, hfz5_1⟩ := zD2 BK119) | ((with_reducible refine gate_callee (f := 69) rfl ?_); refine zL (some 8) Try.func69 #[.agg #[.int .i64 a0_0, .slice A0_1 l0_1.length c0_1], .int .i64 a1] ?_; (with_reducible refine (stabilize_Maximal.calls k a0_0 _ _ l0_1 a1 t120 t123 _ ?side1 ?side2 A3.out).mono ?_); (case side1 => exact Kd.C_below HR0_1.out zB); (case side2 => exact HC0_1.out); rintro e w6 ⟨v121, rfl, ho0, hb⟩; refine ⟨_, rfl, ?_⟩; have HO122 := Aside0.mk (Kd.R_lower ho0 (below_size zB)); replace BK119 := zb BK119 hb; replace HB := zS HB hb; (try clear hb); (try clear ho0)))
 go_ret2
 exact ⟨_, zE, by (with_reducible repeat (first | apply Kd.R_alloc | apply Kd.R_drewN | apply Kd.R_drew)); exact HO122.out, zB⟩
section
attribute [local go_sem] Oper.semAt_some
theorem run_loadVar_one {P : Program} {ty : TypeId} {d : TypeDesc} (w : World) (a : Addr) (v : Value) (h : P.underlying ty = some d) (k : (match d with | .struct _ | .array _ _ => true | _ => false) = false) (c : w.cell? a = some v) : (loadVar ty a).run P w = .ok v w := by
 have e : (isAgg ty).run P w = .ok false w := by
  unfold isAgg
  rw [Sem.run_bind]
  have hu : (underlying ty).run P w = .ok d w := by simp [underlying, Sem.run_bind, Result.andThen, h]
  rw [hu]
  cases d <;> first | (simp at k; done) | rfl
 unfold loadVar
 rw [Sem.run_bind, e]
 simp [Result.andThen, go_sem, c]
theorem results_cells2 {P : Program} {fn : Func} {p u : Tmp} {t1 t2 : TypeId} {d1 d2 : TypeDesc} (h : fn.results = #[.cell p t1, .cell u t2]) (tmps : Array Value) (w : World) (a b : Addr) (v1 v2 : Value) (hp : tmps.getD p undef = .pointer (some a)) (hu : tmps.getD u undef = .pointer (some b))
  (h1 : P.underlying t1 = some d1) (h2 : P.underlying t2 = some d2) (k1 : (match d1 with | .struct _ | .array _ _ => true | _ => false) = false) (k2 : (match d2 with | .struct _ | .array _ _ => true | _ => false) = false) (c1 : w.cell? a = some v1) (c2 : w.cell? b = some v2) :
  (results fn tmps).run P w = .ok (.tuple #[v1, v2]) w := by
 have hp' : tmps[p]?.getD undef = .pointer (some a) := by simpa using hp
 have hu' : tmps[u]?.getD undef = .pointer (some b) := by simpa using hu
 simp [results, h, hp', hu', asAddr, Sem.run_bind, Result.andThen, run_loadVar_one w a v1 h1 k1 c1, run_loadVar_one w b v2 h2 k2 c2]
theorem configurations_calls (N : Int) (A0 : Option Addr) (c0 : Nat) (E : List S66) (q : Int) (w : World) : Calls Try.prog 44 #[.agg #[.int .i64 N, .slice A0 E.length c0], .int .i64 q] w fun e w' => e = .returned (.func (.func 70) #[] #[.pointer (some ⟨w.heap.size, 0, none⟩), .pointer (some ⟨w.heap.size + 1, 0, none⟩)]) ∧ w' = (w.alloc (.cells #[.int .i64 N, .slice A0 E.length c0] 24)).alloc (.cells #[.int .i64 q] 3) := by
 go_enter Try.func44, Try.ntmps44
 go_wp2
 go_ret
 exact ⟨rfl, rfl⟩
def confB : Nat := 1000
def confs (n : Nat) (E : List S66) (q : Nat) : List (List Int) := outB q confB (superB n (timesOf E) q) n []
def superstable_All.f (k : Nat) (N : Int) (E : List S66) (q : Int) : Option (List (List Int) × Int) :=
 (superstable_first.f k N E q).bind fun t => if t.2 = 0 then (if (confs N.toNat E q.toNat).length ≤ 16384 then some (confs N.toNat E q.toNat, 0) else none) else some ([], t.2)
theorem first_zero {k : Nat} {N : Int} {E : List S66} {q : Int} {l : List Int} (h : superstable_first.f k N E q = some (l, 0)) : stabilize_rooted.f k N E q = some 0 ∧ multsOk E = true ∧ edgesInB N E = true ∧ l = topTo (pileVal N.toNat E) q N.toNat N.toNat := by
 unfold superstable_first.f stabilize_Maximal.f at h
 simp only [Option.bind_assoc] at h
 obtain ⟨t, ht, h⟩ := Option.bind_eq_some_iff.1 h
 by_cases h0 : t = 0
 ·subst h0
  rw [if_pos rfl] at h
  by_cases hk : okList N E = true
  ·rw [if_pos hk] at h
   simp only [okList, Bool.and_eq_true] at hk
   simp only [Option.bind_some, Option.some.injEq, Prod.mk.injEq] at h
   exact ⟨ht, hk.1, hk.2, h.1.symm⟩
  ·rw [if_neg hk] at h; cases h
 ·rw [if_neg h0] at h
  simp only [Option.bind_some, Option.some.injEq, Prod.mk.injEq] at h
  exact absurd h.2 h0
theorem bodyPostM_ret {F : Fence} {n : Nat} {P : Program} {fn : Func} {R : Ending → World → Prop} {a : Act} {w : World} {v : Value} (hd : a.defers = []) (hres : (results fn a.tmps).run P w = .ok v w) (hR : R (.returned v) w) : bodyPostM F n P fn R .ret a w := by
 show LeavesInM F n P fn a.tmps R a.defers .returning w
 rw [hd]
 exact ⟨_, hres, hR⟩
theorem two_cells {w1 : World} {r : Nat} {t1 t2 : TypeId} {u1 u2 : Value} (v1 v2 : Value) (X1 : w1.heap[r]? = some (.cells #[u1] t1 (0, 0))) (X2 : w1.heap[r + 1]? = some (.cells #[u2] t2 (0, 0))) :
  ((w1.setCell ⟨r, 0, none⟩ v1).setCell ⟨r + 1, 0, none⟩ v2).cell? ⟨r, 0, none⟩ = some v1 ∧ ((w1.setCell ⟨r, 0, none⟩ v1).setCell ⟨r + 1, 0, none⟩ v2).cell? ⟨r + 1, 0, none⟩ = some v2 := by
 have h1 := blk_set X1 0 v1
 have h2 := blk_far (p := ⟨r + 1, 0, none⟩) h1 (by show r ≠ r + 1; omega) v2
 have h3 := blk_far (p := ⟨r, 0, none⟩) X2 (by show r + 1 ≠ r; omega) v1
 have h4 := blk_set h3 0 v2
 exact ⟨(blk_cell h2 0).trans (by simp), (blk_cell h4 0).trans (by simp)⟩
theorem three_boxes (w : World) (o0 o1 o2 : Obj) : (((w.alloc o0).alloc o1).alloc o2).heap[w.heap.size]? = some o0 ∧ (((w.alloc o0).alloc o1).alloc o2).heap[w.heap.size + 1]? = some o1 ∧ (((w.alloc o0).alloc o1).alloc o2).heap[w.heap.size + 1 + 1]? = some o2 := by
 refine ⟨?_, ?_, ?_⟩
 ·rw [Below.heap_alloc _ _ _ (by simp; omega), Below.heap_alloc _ _ _ (by simp)]; exact heap_alloc_new w o0
 ·rw [Below.heap_alloc _ _ _ (by simp)]; have h := heap_alloc_new (w.alloc o0) o1; simpa using h
 ·have h := heap_alloc_new ((w.alloc o0).alloc o1) o2; simpa using h
theorem all_bad (k : Nat) (N : Int) (A0 : Option Addr) (c0 : Nat) (E : List S66) (q : Int) (l : List Int) (t : Int) (w : World) (hr0 : Kd.C k66 w A0 E.length E) (hc0 : E.length ≤ c0) (hf : superstable_first.f k N E q = some (l, t)) (ht : t ≠ 0) :
  Calls Try.prog 12 #[.agg #[.int .i64 N, .slice A0 E.length c0], .int .i64 q] w fun e w' => e = .returned (.tuple #[.slice none 0 0, .int .i64 t]) ∧ Below w.heap.size w w' := by
 have hu := Try.underlying24
 have Hf := Aside0.mk hf
 have hne : (t != 0) = true := by simpa using ht
 have HXS := Aside0.mk (three_boxes w (.cells #[.int .i64 N, .slice A0 E.length c0] 24) (.cells #[.slice none 0 0] 27) (.cells #[.int .i64 0] 28))
 have hg0 : (((w.alloc (.cells #[.int .i64 N, .slice A0 E.length c0] 24)).alloc (.cells #[.slice none 0 0] 27)).alloc (.cells #[.int .i64 0] 28)).cell? ⟨w.heap.size, 0, none⟩ = some (.int .i64 N) := (blk_cell HXS.out.1 0).trans rfl
 have hg1 : (((w.alloc (.cells #[.int .i64 N, .slice A0 E.length c0] 24)).alloc (.cells #[.slice none 0 0] 27)).alloc (.cells #[.int .i64 0] 28)).cell? ⟨w.heap.size, 1, none⟩ = some (.slice A0 E.length c0) := (blk_cell HXS.out.1 1).trans rfl
 clear hf ht
 refine (callsIn_wide (n := 10)).1 ?_
 refine callsIn_of_wp_marks Try.func12 rfl trivial ?_ rfl
 simp only [Try.ntmps12, List.size_toArray, List.length_cons, List.length_nil, Nat.reduceAdd, Nat.reduceSub, Array.replicate_succ, Array.replicate_zero, List.push_toArray, List.append_toArray, List.nil_append, List.cons_append]
 gi_wp2_with (refine ⟨trivial, ?_⟩; gi_at_call 43; refine (callsIn_wide.2 (superstable_first.calls k N A0 c0 E q l t _ (Kd.C_alloc (Kd.C_alloc (Kd.C_alloc hr0 _) _) _) hc0 Hf.out)).mono ?_; rintro e w1 ⟨v, rfl, hr1, hb⟩; have HB := Aside0.mk ((below_alloc (below_alloc (below_alloc (Below.refl w.heap.size w) _) _) _).trans (hb.mono (by simp; omega))); have X1 := Aside0.mk (blk_below HXS.out.2.1 hb); have X2 := Aside0.mk (blk_below HXS.out.2.2 hb); have q1 : w1.cell? ⟨w.heap.size + 1, 0, none⟩ = some (.slice none 0 0) := (blk_cell X1.out 0).trans rfl; have q2 : w1.frozen? ⟨w.heap.size + 1, 0, none⟩ = false := blk_frozen X1.out 0; have X3 := Aside0.mk (blk_far (p := ⟨w.heap.size + 1, 0, none⟩) X2.out (by show w.heap.size + 1 + 1 ≠ w.heap.size + 1; omega) (.slice none 0 0)); have q3 : (w1.setCell ⟨w.heap.size + 1, 0, none⟩ (.slice none 0 0)).cell? ⟨w.heap.size + 1 + 1, 0, none⟩ = some (.int .i64 0) := (blk_cell X3.out 0).trans rfl; have q4 := blk_frozen X3.out 0; clear hr1 hb)
 obtain ⟨c1, c2⟩ := two_cells (.slice none 0 0) (.int .i64 t) X1.out X2.out
 exact bodyPostM_ret rfl (results_cells2 (p := 4) (u := 5) rfl _ _ ⟨w.heap.size + 1, 0, none⟩ ⟨w.heap.size + 1 + 1, 0, none⟩ _ _ rfl rfl Try.underlying27 Try.underlying28 rfl rfl c1 c2) ⟨rfl, (HB.out.setCell (p := ⟨w.heap.size + 1, 0, none⟩) (by show w.heap.size ≤ w.heap.size + 1; omega) _).setCell (p := ⟨w.heap.size + 1 + 1, 0, none⟩) (by show w.heap.size ≤ w.heap.size + 1 + 1; omega) _⟩
end
section
attribute [local go_sem] Oper.semAt_some
theorem all_good (k n : Nat) (A0 : Option Addr) (c0 : Nat) (E : List S66) (q : Nat) (l : List Int) (w : World) (hr0 : Kd.C k66 w A0 E.length E) (hc0 : E.length ≤ c0) (hf : superstable_first.f k n E q = some (l, 0)) (htot : (confs n E q).length ≤ 16384) :
  Calls Try.prog 12 #[.agg #[.int .i64 n, .slice A0 E.length c0], .int .i64 q] w fun e w' => ∃ v, e = .returned (.tuple #[v, .int .i64 0]) ∧ (Kd.slice 3 (Kd.int .i64)).R 42 w' w.heap.size (fun _ => True) v (confs n E q) ∧ Below w.heap.size w w' := by
 have hu := Try.underlying24
 obtain ⟨hr, hm, hin, -⟩ := first_zero hf
 obtain ⟨_, ⟨_, hn⟩, _, hq0, hqn⟩ := rooted_zero hr
 have hn12 : n ≤ 12 := by omega
 have hcalm := Aside0.mk (fun c (hc : OkC n q c) => calm_ok hr hin hc)
 have hsmall : Aside0 (∀ (p : List Int) (x kk : Nat), superB n (timesOf E) q (p ++ (x : Int) :: List.replicate kk 0) = true → p.length + 1 + kk = n → p.length ≠ q → x + 1 < confB) := ⟨fun p x kk h hp hpq => by
  have h1 := superB_small hin hn12 (v := p.length) (by omega) hpq h
  have hx : rd (p ++ (x : Int) :: List.replicate kk 0) p.length = x := by simp [rd, List.getD_eq_getElem?_getD]
  rw [hx] at h1
  show x + 1 < 1000
  omega⟩
 have Htot := Aside0.mk htot
 have Hf := Aside0.mk hf
 have HXS := Aside0.mk (three_boxes w (.cells #[.int .i64 n, .slice A0 E.length c0] 24) (.cells #[.slice none 0 0] 27) (.cells #[.int .i64 0] 28))
 have hg0 : (((w.alloc (.cells #[.int .i64 n, .slice A0 E.length c0] 24)).alloc (.cells #[.slice none 0 0] 27)).alloc (.cells #[.int .i64 0] 28)).cell? ⟨w.heap.size, 0, none⟩ = some (.int .i64 n) := (blk_cell HXS.out.1 0).trans rfl
 have hg1 : (((w.alloc (.cells #[.int .i64 n, .slice A0 E.length c0] 24)).alloc (.cells #[.slice none 0 0] 27)).alloc (.cells #[.int .i64 0] 28)).cell? ⟨w.heap.size, 1, none⟩ = some (.slice A0 E.length c0) := (blk_cell HXS.out.1 1).trans rfl
 clear hf hr hm hin htot hq0 hqn hn
 refine (callsIn_wide (n := 10)).1 ?_
 refine callsIn_of_wp_marks Try.func12 rfl trivial ?_ rfl
 simp only [Try.ntmps12, List.size_toArray, List.length_cons, List.length_nil, Nat.reduceAdd, Nat.reduceSub, Array.replicate_succ, Array.replicate_zero, List.push_toArray, List.append_toArray, List.nil_append, List.cons_append]
 gi_wp2_with (first | (refine ⟨trivial, ?_⟩; gi_at_call 43; refine (callsIn_wide.2 (superstable_first.calls k n A0 c0 E q l 0 _ (Kd.C_alloc (Kd.C_alloc (Kd.C_alloc hr0 _) _) _) hc0 Hf.out)).mono ?_; rintro e w1 ⟨v, rfl, hr1, hb⟩; have HB := Aside0.mk ((below_alloc (below_alloc (below_alloc (Below.refl w.heap.size w) _) _) _).trans (hb.mono (by simp; omega))); have X0 := Aside0.mk (blk_below HXS.out.1 hb); have X1 := Aside0.mk (blk_below HXS.out.2.1 hb); have X2 := Aside0.mk (blk_below HXS.out.2.2 hb); have y0 : (w1.alloc (.cells #[.slice none 0 0] 27)).cell? ⟨w.heap.size, 0, none⟩ = some (.int .i64 n) := (blk_cell (blk_alloc X0.out _) 0).trans rfl; have y1 : (w1.alloc (.cells #[.slice none 0 0] 27)).cell? ⟨w.heap.size, 1, none⟩ = some (.slice A0 E.length c0) := (blk_cell (blk_alloc X0.out _) 1).trans rfl; clear hr1 hb) | (refine ⟨trivial, ?_⟩; gi_at_call 44; refine (callsIn_wide.2 (configurations_calls n A0 c0 E q _)).mono ?_; rintro e w3 ⟨rfl, rfl⟩))
 have hwl : w.heap.size + 1 + 1 < w1.heap.size := blk_lt X2.out
 have hww := HB.out.size
 obtain ⟨og, hog⟩ : ∃ o : Obj, o = .cells #[.int .i64 n, .slice A0 E.length c0] 24 := ⟨_, rfl⟩
 obtain ⟨oq, hoq⟩ : ∃ o : Obj, o = .cells #[.int .i64 q] 3 := ⟨_, rfl⟩
 obtain ⟨oo, hoo⟩ : ∃ o : Obj, o = .cells #[.slice none 0 0] 27 := ⟨_, rfl⟩
 obtain ⟨Z0, Z1, Z2⟩ := three_boxes w1 oo og oq
 have HO3 := Aside0.mk (Z0.trans (by rw [hoo] : _ = some (.cells #[.slice none 0 0] 27 (0, 0))))
 have HG3 := Aside0.mk (Z1.trans (by rw [hog] : _ = some (.cells #[.int .i64 n, .slice A0 E.length c0] 24 (0, 0))))
 have HQ3 := Aside0.mk (Z2.trans (by rw [hoq] : _ = some (.cells #[.int .i64 q] 3 (0, 0))))
 have HB3 := Aside0.mk (below_alloc (below_alloc (below_alloc HB.out oo) og) oq)
 have X13 := Aside0.mk (blk_alloc (blk_alloc (blk_alloc X1.out oo) og) oq)
 have X23 := Aside0.mk (blk_alloc (blk_alloc (blk_alloc X2.out oo) og) oq)
 clear Z0 Z1 Z2
 subst hog hoq hoo
 clear y0 y1 hg0 hg1 X0 X1 X2 HB HXS
 generalize (((w1.alloc (.cells #[.slice none 0 0] 27)).alloc (.cells #[.int .i64 n, .slice A0 E.length c0] 24)).alloc (.cells #[.int .i64 q] 3)) = W3 at HO3 HG3 HQ3 HB3 X13 X23 ⊢
 have hbo := blk_lt HO3.out
 have hbg := blk_lt HG3.out
 have hbq := blk_lt HQ3.out
 generalize hbq1 : w1.heap.size + 1 + 1 = qx at HQ3 hbq ⊢
 generalize hbg1 : w1.heap.size + 1 = gx at HG3 hbg hbq1 ⊢
 generalize w1.heap.size = bo at HO3 hwl hww hbo hbg1 ⊢
 have hws := HB3.out.size
 refine wpIn_rangeFunc_st (σ := Unit) (α := List Int × Value) (F := Fence.wide) (n := 10) rfl (by decide) (gf := 70) (lb := #[.pointer (some ⟨gx, 0, none⟩), .pointer (some ⟨qx, 0, none⟩)]) rfl trivial (enters_of Try.func70 (by kernel_rfl) rfl)
  (fun o => conf1_seq (w0 := w) (B := confB) (K := k + 20) (n := n) (A0 := A0) (c0 := c0) (E := E) (q := q) (gx := gx) (qx := qx) (calm := superB n (timesOf E) q) _ (W3.heap.size + 2) (by simp) hn12 hr0 hc0 hcalm.out hsmall.out (by decide) (by decide) Htot.out (blk_alloc (blk_alloc HG3.out _) _) (blk_alloc (blk_alloc HQ3.out _) _) (below_alloc (below_alloc HB3.out _) _)) (fun _ => rfl)
  (fun _ => True) ?adm ?st ?ar
  (fun _ pre W => W3.heap.size + 2 ≤ W.heap.size ∧ ∃ v, W.heap[bo]? = some (.cells #[v] 27 (0, 0)) ∧ W.heap[w.heap.size + 1]? = some (.cells #[.slice none 0 0] 27 (0, 0)) ∧ W.heap[w.heap.size + 1 + 1]? = some (.cells #[.int .i64 0] 28 (0, 0)) ∧ (Kd.slice 3 (Kd.int .i64)).R 42 W w.heap.size (fun k => ¬ (k = gx ∨ k = qx ∨ W3.heap.size + 2 ≤ k ∧ k < W3.heap.size + 2 + 4)) v (pre.map Prod.fst) ∧ Below w.heap.size w W) (fun _ _ _ _ => False)
  ?is (fun _ _ _ _ _ _ h _ => h) ?ib (fun _ _ _ _ _ h _ => h) ?kt ?h0 ?a1 ?assign ?body ?done (fun _ _ _ _ _ _ _ h => h.elim)
 case assign =>
  intro l x W K hK
  gi_wp2
  exact hK
 case adm =>
  intro o s W1 h
  exact ⟨trivial, by rw [h]; exact KeepLD.refl _ _⟩
 case st => intro s A B _ h k o h1 h2 h3 _; exact (h.block k (Array.getElem?_eq_some_iff.1 h3).1 (fun e => by injection e; omega)).trans h3
 case ar => intro s x A B _ h k o h1 h2 h3 _; exact (h.1.block k (Array.getElem?_eq_some_iff.1 h3).1 (fun e => by injection e; omega)).trans h3
 case is =>
  rintro s pre A B _ ⟨hs, v, h1, h2, h3, h4, h5⟩ hst
  exact ⟨Nat.le_trans hs hst.size, v, (hst.block bo (blk_lt h1) (fun e => by injection e; omega)).trans h1, (hst.block _ (blk_lt h2) (fun e => by injection e; omega)).trans h2, (hst.block _ (blk_lt h3) (fun e => by injection e; omega)).trans h3, Kd.R_grown h4 hst (fun k hk e => hk (.inr (.inr (by injection e; omega)))), pw_below_grown h5 _ h5.size hst (fun k e => by injection e; omega)⟩
 case ib =>
  rintro s pre A B ⟨hs, v, h1, h2, h3, h4, h5⟩ hb
  exact ⟨by rw [hb.size]; exact hs, v, hb.cells h1, hb.cells h2, hb.cells h3, R_bk h4 hb, h5.trans (hb.below w.heap.size (by omega))⟩
 case kt =>
  intro s A B C D hab hbc hcd
  refine ⟨fun hsz => ((hab.below w.heap.size (by omega)).trans (hbc.1 (by rw [hab.size]; exact hsz))).trans (hcd.below w.heap.size (by omega)), fun k hk hsz => ?_⟩
  have hkl : k ≠ W3.heap.size + 1 := by rcases hk with rfl | rfl | hk <;> omega
  exact (hcd.heap k hkl).trans ((hbc.2 k hk (by rw [hab.size]; exact hsz)).trans (hab.heap k hkl))
 case h0 =>
  rintro o s W1 rfl
  exact ⟨by simp, _, blk_alloc (blk_alloc HO3.out _) _, blk_alloc (blk_alloc X13.out _) _, blk_alloc (blk_alloc X23.out _) _, Kd.R_nil _ _ _ _ _, below_alloc (below_alloc HB3.out _) _⟩
 case body =>
  rintro l s pre ⟨xl, xv⟩ Wb W1 W _ ⟨hs, v, i1, i2, i3, i4, i5⟩ ⟨har, hrx, hsz4⟩ hbd hbk
  simp only at hrx
  obtain ⟨Ax, cx, rfl⟩ := Kd.R_slice hrx
  have hbW : Wb.heap.size ≤ W.heap.size := by have := hbk.size; have := har.size; omega
  have b1 := Aside0.mk (hbk.cells ((har.block bo (blk_lt i1) (fun e => by injection e; omega)).trans i1))
  have b2 := Aside0.mk (hbk.cells ((har.block _ (blk_lt i2) (fun e => by injection e; omega)).trans i2))
  have b3 := Aside0.mk (hbk.cells ((har.block _ (blk_lt i3) (fun e => by injection e; omega)).trans i3))
  have b4 := Aside0.mk (R_bk (Kd.R_grown i4 har (fun k hk e => hk (.inr (.inr (by injection e; omega))))) hbk)
  have b5 := Aside0.mk ((pw_below_grown i5 _ i5.size har (fun k e => by injection e; omega)).trans (hbk.below w.heap.size (by omega)))
  have bx := Aside0.mk (Kd.M_row (Kd.R_lower (Kd.R_mono (ok' := fun k => Wb.heap.size ≤ k) (Kd.R_bound (R_bk hrx hbk)) (fun k hk => hk.2.1)) i5.size))
  have hvl : ∀ k, v.ownBlock = some k → k < Wb.heap.size := fun k hk => Kd.R_lt i4 k hk
  have HVL := Aside0.mk hvl
  have HTY := Aside0.mk (Kd.R_typed i4)
  clear i1 i2 i3 i4 i5 har hrx hbk hvl
  obtain ⟨Ar, cr, rfl⟩ := Kd.R_slice b4.out
  have hep : (pre.map Prod.fst).length = pre.length := by simp
  rw [hep] at b1 b4 HVL HTY
  have hc := keeps_box b1.out
  have hf := blk_frozen b1.out 0
  have hne : (((pre.length : Nat) : Int) == 16384) = false := by simp; omega
  have LN : Aside0 (((pre.map Prod.fst).length + 1) * 24 ≤ 140737488355328) := ⟨by rw [hep]; omega⟩
  have HOKP : Aside0 (∀ k, Wb.heap.size ≤ k → ¬ (k = gx ∨ k = qx ∨ W3.heap.size + 2 ≤ k ∧ k < W3.heap.size + 2 + 4) ∧ some k ≠ (Value.slice Ar pre.length cr).ownBlock) := ⟨fun k hk => ⟨by omega, fun e => by have := HVL.out k e.symm; omega⟩⟩
  have HFR : Aside0 (∀ k, W.heap.size ≤ k → ¬ (k = gx ∨ k = qx ∨ W3.heap.size + 2 ≤ k ∧ k < W3.heap.size + 2 + 4)) := ⟨fun k hk => by omega⟩
  gi_wp2_with (gi_at_builtin; go_loud (refine R_append_in (Kd.slice 3 (Kd.int .i64)) (w0 := w) w.heap.size rfl (.tmp 26) (.tmp 28) 27 42 (.slice none 0 0) 24 rfl Try.underlying27 info42 rfl (by decide) (by omega) (.slice Ar pre.length cr) (pre.map Prod.fst) xl [.slice Ax xl.length cx] (fun k => ¬ (k = gx ∨ k = qx ∨ W3.heap.size + 2 ≤ k ∧ k < W3.heap.size + 2 + 4)) (fun k => Wb.heap.size ≤ k) rfl rfl bx.out HOKP.out HFR.out b4.out b5.out b5.out.size LN.out ?_; intro v1 w1' hown hb hgr hat; obtain ⟨A1, c1, rfl⟩ := Kd.R_slice hown; have X1 := Aside0.mk ((hgr.block bo (blk_lt b1.out) (Kd.R_ne b4.out b1.out (by decide))).trans b1.out); have X2 := Aside0.mk ((hgr.block _ (blk_lt b2.out) (Kd.R_ne b4.out b2.out (by decide))).trans b2.out); have X3 := Aside0.mk ((hgr.block _ (blk_lt b3.out) (Kd.R_ne b4.out b3.out (by decide))).trans b3.out); have hc1 := keeps_box X1.out; have hf1 := blk_frozen X1.out 0; have HO1 := Aside0.mk hown; have HB1 := Aside0.mk hb; have HG1 := Aside0.mk hgr; clear hown hb hgr hat))
  refine ⟨(keepLD_append b4.out HG1.out).trans (keepLD_set _ _ (blk_lt HO3.out)), ⟨fun hsz => Below.setCell ((Below.refl w.heap.size W).grown HG1.out hsz (Kd.R_base b4.out)) (by show w.heap.size ≤ bo; omega) _, fun k hk hlt => ?_⟩, by have := HG1.out.size; simp; omega, .slice A1 (pre.length + 1) c1, by simpa using blk_set X1.out 0 (.slice A1 (pre.length + 1) c1), blk_far X2.out (by show w.heap.size + 1 ≠ bo; omega) _, blk_far X3.out (by show w.heap.size + 1 + 1 ≠ bo; omega) _, ?_, below_set HB1.out (by show w.heap.size ≤ bo; omega)⟩
  ·have hkb : k ≠ bo := by rcases hk with rfl | rfl | hk <;> omega
   rw [Below.heap_setCell _ _ _ _ hkb]
   exact HG1.out.block k hlt (fun e => (b4.out.1 k e.symm) hk)
  ·have h := Kd.R_set HO1.out X1.out (by decide) 0 (.slice A1 (pre.length + 1) c1)
   simpa using h
 case done =>
  rintro s xs W W' _ hxs ⟨hs, v, i1, i2, i3, i4, i5⟩ hbk hdf
  obtain ⟨Av, cv, hv⟩ := Kd.R_slice i4
  rw [List.length_map] at hv
  subst hv
  have b1 := Aside0.mk (hbk.cells i1)
  have b2 := Aside0.mk (hbk.cells i2)
  have b3 := Aside0.mk (hbk.cells i3)
  have b4 := Aside0.mk (R_bk i4 hbk)
  have b5 := Aside0.mk (i5.trans (hbk.below w.heap.size (by omega)))
  have HDF := Aside0.mk hdf
  have HXS := Aside0.mk (show xs.map Prod.fst = confs n E q from hxs)
  clear i1 i2 i3 i4 i5 hdf hxs hbk
  have hc := keeps_box b1.out
  have q1 : W'.cell? ⟨w.heap.size + 1, 0, none⟩ = some (.slice none 0 0) := (blk_cell b2.out 0).trans rfl
  have q2 : W'.frozen? ⟨w.heap.size + 1, 0, none⟩ = false := blk_frozen b2.out 0
  have X3 := Aside0.mk (blk_far (p := ⟨w.heap.size + 1, 0, none⟩) b3.out (by show w.heap.size + 1 + 1 ≠ w.heap.size + 1; omega) (.slice Av xs.length cv))
  have q3 : (W'.setCell ⟨w.heap.size + 1, 0, none⟩ (.slice Av xs.length cv)).cell? ⟨w.heap.size + 1 + 1, 0, none⟩ = some (.int .i64 0) := (blk_cell X3.out 0).trans rfl
  have q4 := blk_frozen X3.out 0
  have Y1 := Aside0.mk (blk_far (p := ⟨w.heap.size + 1 + 1, 0, none⟩) (blk_set b2.out 0 (.slice Av xs.length cv)) (by show w.heap.size + 1 ≠ w.heap.size + 1 + 1; omega) (.int .i64 0))
  have Y2 := Aside0.mk (blk_set X3.out 0 (.int .i64 0))
  have hbd : w.heap.size + 1 ≠ W3.heap.size := by omega
  have hbd2 : w.heap.size + 1 + 1 ≠ W3.heap.size := by omega
  have Y3 := Aside0.mk (show ((W'.setCell ⟨w.heap.size + 1, 0, none⟩ (.slice Av xs.length cv)).setCell ⟨w.heap.size + 1 + 1, 0, none⟩ (.int .i64 0)).heap[W3.heap.size]? = some (.deferred (some [])) from by rw [Below.heap_setCell _ _ _ _ (fun e => hbd2 e.symm), Below.heap_setCell _ _ _ _ (fun e => hbd e.symm)]; exact HDF.out)
  have Y4 := Aside0.mk (Kd.R_set (Kd.R_set b4.out b2.out (by decide) 0 (.slice Av xs.length cv)) X3.out (by decide) 0 (.int .i64 0))
  have Y5 := Aside0.mk ((b5.out.setCell (p := ⟨w.heap.size + 1, 0, none⟩) (by show w.heap.size ≤ w.heap.size + 1; omega) (.slice Av xs.length cv)).setCell (p := ⟨w.heap.size + 1 + 1, 0, none⟩) (by show w.heap.size ≤ w.heap.size + 1 + 1; omega) (.int .i64 0))
  gi_wp2_with fail
  have hbk5 : Bk W3.heap.size ((W'.setCell ⟨w.heap.size + 1, 0, none⟩ (.slice Av xs.length cv)).setCell ⟨w.heap.size + 1 + 1, 0, none⟩ (.int .i64 0)) (((W'.setCell ⟨w.heap.size + 1, 0, none⟩ (.slice Av xs.length cv)).setCell ⟨w.heap.size + 1 + 1, 0, none⟩ (.int .i64 0)).putObj W3.heap.size (.deferred none)) := ⟨_, _, Y3.out, rfl, rfl⟩
  refine bodyPostM_one (D := W3.heap.size) rfl Y3.out (results_cells2 (p := 4) (u := 5) rfl _ _ ⟨w.heap.size + 1, 0, none⟩ ⟨w.heap.size + 1 + 1, 0, none⟩ (.slice Av xs.length cv) (.int .i64 0) rfl rfl Try.underlying27 Try.underlying28 rfl rfl ((blk_cell (hbk5.cells Y1.out) 0).trans (by simp)) ((blk_cell (hbk5.cells Y2.out) 0).trans (by simp))) ⟨_, rfl, ?_, Y5.out.trans (hbk5.below w.heap.size (by omega))⟩
  rw [← HXS.out]
  exact Kd.R_mono (R_bk Y4.out hbk5) (fun _ _ => trivial)
theorem superstable_All.calls (k : Nat) (a0_0 : Int) (A0_1 : Option Addr) (c0_1 : Nat) (l0_1 : List (S66)) (a1 : Int) (r1 : List (List Int)) (r2 : Int) (w : World) (hr0_1 : Kd.C k66 w A0_1 l0_1.length l0_1) (hc0_1 : l0_1.length ≤ c0_1) (h : superstable_All.f k a0_0 l0_1 a1 = some (r1, r2)) :
  Calls Try.prog 12 #[.agg #[.int .i64 a0_0, .slice A0_1 l0_1.length c0_1], .int .i64 a1] w fun e w' => ∃ v0_ : Value, e = .returned (.tuple #[v0_, .int .i64 r2]) ∧ Kd.N (Kd.slice 3 (Kd.int .i64)) 42 w' w.heap.size (fun k_ => (w.heap.size ≤ k_)) v0_ r1 ∧ Below w.heap.size w w' := by
 unfold superstable_All.f at h
 obtain ⟨⟨l, t⟩, ht, H⟩ := Option.bind_eq_some_iff.mp h
 simp only at H
 by_cases h0 : t = 0
 ·subst h0
  rw [if_pos rfl] at H
  by_cases hv : (confs a0_0.toNat l0_1 a1.toNat).length ≤ 16384
  ·rw [if_pos hv] at H
   simp only [Option.some.injEq, Prod.mk.injEq] at H
   obtain ⟨rfl, rfl⟩ := H
   obtain ⟨hr, -, -, -⟩ := first_zero ht
   obtain ⟨_, ⟨hN, hN12⟩, _, hq0, _⟩ := rooted_zero hr
   obtain ⟨n, rfl⟩ := Int.eq_ofNat_of_zero_le hN
   obtain ⟨q, rfl⟩ := Int.eq_ofNat_of_zero_le hq0
   rw [Int.toNat_natCast, Int.toNat_natCast] at hv ⊢
   refine (all_good k n A0_1 c0_1 l0_1 q l w hr0_1 hc0_1 ht hv).mono ?_
   rintro e w' ⟨v, rfl, h1, h2⟩
   exact ⟨v, rfl, Kd.R_N (Kd.R_mono (Kd.R_bound h1) (fun k hk => hk.2.1)), h2⟩
  ·rw [if_neg hv] at H; cases H
 ·rw [if_neg h0] at H
  simp only [Option.some.injEq, Prod.mk.injEq] at H
  obtain ⟨rfl, rfl⟩ := H
  refine (all_bad k a0_0 A0_1 c0_1 l0_1 a1 l t w hr0_1 hc0_1 ht h0).mono ?_
  rintro e w' ⟨rfl, hb⟩
  exact ⟨_, rfl, Kd.R_N (Kd.R_nil _ _ _ _ _), hb⟩
end
def DelAt (qx gx : Nat) (row : Option Nat) (wb : World) (l : List (List Int)) (del : List Int → Bool) : Prop :=
 ∀ (W' : World) (A0 : Option Addr) (c0 : Nat) (x : List Int), wb.grownBy W' row → x ∈ l → x.length ≤ c0 → Kd.C (Kd.int .i64) W' A0 x.length x →
  Calls Try.prog 52 #[.slice A0 x.length c0, .pointer (some ⟨qx, 0, none⟩), .pointer (some ⟨gx, 0, none⟩)] W' fun e w' => e = .returned (.bool (del x)) ∧ Below W'.heap.size W' w'
theorem rd_L2_mem {l : List (List Int)} {i : Nat} (h : i < l.length) : rd_L2 l i ∈ l := by
 have e : rd_L2 l i = l[i] := by simp [rd_L2, List.getD_eq_getElem?_getD, List.getElem?_eq_getElem h]
 rw [e]; exact List.getElem_mem h
theorem indexFunc_calls (qx gx base : Nat) (row : Option Nat) (A : Option Addr) (cap : Nat) (ok : Nat → Prop) (l : List (List Int)) (del : List Int → Bool) (wb W : World) (hN : Kd.N (Kd.slice 3 (Kd.int .i64)) 42 W base ok (.slice A l.length cap) l) (hwb : wb.grownBy W row) (hD : DelAt qx gx row wb l del) :
  Calls Try.prog 61 #[.slice A l.length cap, .func (.func 52) #[] #[.pointer (some ⟨qx, 0, none⟩), .pointer (some ⟨gx, 0, none⟩)]] W fun e w' => ∃ r : Int, e = .returned (.int .i64 r) ∧ ((r = -1 ∧ ∀ j : Nat, j < l.length → del (rd_L2 l j) = false) ∨ ∃ i : Nat, r = i ∧ i < l.length ∧ del (rd_L2 l i) = true ∧ ∀ j : Nat, j < i → del (rd_L2 l j) = false) ∧ Below W.heap.size W w' := by
 have HN := Aside0.mk hN
 have HWB := Aside0.mk hwb
 have HD := Aside0.mk hD
 clear hN hwb hD
 go_enter Try.func61, Try.ntmps61
 go_wp2
 go_loopw [8] (fun i wr => ∃ k : Nat, k ≤ l.length ∧ i = .int .i64 k ∧ Aside0 (∀ j : Nat, j < k → del (rd_L2 l j) = false) ∧ Aside0 (Below W.heap.size W wr)) (fun i _ => l.length - (intOf i).toNat)
 case atStart => exact ⟨0, by omega, rfl, ⟨fun j hj => by omega⟩, ⟨Below.refl _ _⟩⟩
 case round =>
  obtain ⟨k, hk, rfl, HF, HB⟩ := hrel
  by_cases hkl : k < l.length
  ·obtain ⟨-, hcap, hC⟩ := Kd.N_reads' (Kd.N_below HN.out HB.out)
   obtain ⟨ad, Ac, cc, rfl, hx0, hcc, hcr⟩ := at_L2 hC k (by omega) (by omega)
   rw [Int.toNat_natCast] at hx0
   have HM := Aside0.mk (HD.out wr Ac cc (rd_L2 l k) (HWB.out.trans (grown_of_below HB.out _)) (rd_L2_mem hkl) hcc hcr)
   have HRK := Aside0.mk (rfl : rd_L2 l k = rd_L2 l k)
   have hk0 : (0 : Int) ≤ (k : Int) := by omega
   have hk1 : (k : Int) < (l.length : Int) := by omega
   have hlb : l.length ≤ 9223372036854775807 := Kd.C_max hC
   clear hC hcr hcc hcap
   cases hb : del (rd_L2 l k) with
   | true =>
    rw [hb] at HM
    have Hb := Aside0.mk hb
    clear hb
    go_wp2_with (go_at_call 52; refine HM.out.mono ?_; rintro e w1 ⟨rfl, hb1⟩; have HB1 := Aside0.mk hb1; clear hb1)
    go_ret
    exact ⟨k, rfl, .inr ⟨k, rfl, hkl, Hb.out, HF.out⟩, HB.out.trans (HB1.out.mono HB.out.size)⟩
   | false =>
    rw [hb] at HM
    have Hb := Aside0.mk hb
    clear hb
    go_wp2_with (go_at_call 52; refine HM.out.mono ?_; rintro e w1 ⟨rfl, hb1⟩; have HB1 := Aside0.mk hb1; clear hb1)
    go_roundw
    case rel => exact ⟨k + 1, by omega, by go_num, ⟨fun j hj => by
     by_cases e : j = k
     ·subst e; exact Hb.out
     ·exact HF.out j (by omega)⟩, ⟨HB.out.trans (HB1.out.mono HB.out.size)⟩⟩
    case measure => exact (show l.length - ((k : Int) + 1).toNat < l.length - ((k : Int)).toNat by omega)
  ·obtain rfl : k = l.length := by omega
   go_wp2
   go_ret
   exact ⟨-1, rfl, .inl ⟨rfl, HF.out⟩, HB.out⟩
theorem rd_L2_set {ys : List (List Int)} {i m : Nat} (h : i ≠ m) (x : List Int) : rd_L2 (ys.set i x) m = rd_L2 ys m := by
 simp [rd_L2, List.getD_eq_getElem?_getD, List.getElem?_set, h]
theorem ne_minus (i : Nat) : ((i : Int) == -1) = false := by
 rw [beq_eq_false_iff_ne]; omega
theorem take_next {l : List (List Int)} {j : Nat} (h : j < l.length) : l.take (j + 1) = l.take j ++ [rd_L2 l j] := by
 rw [List.take_succ_eq_append_getElem h]
 simp [rd_L2, List.getD_eq_getElem?_getD, List.getElem?_eq_getElem h]
theorem take_set_next {ys : List (List Int)} {i : Nat} (h : i < ys.length) (x : List Int) : (ys.set i x).take (i + 1) = ys.take i ++ [x] := by
 rw [List.take_succ_eq_append_getElem (by simpa using h)]
 simp [List.take_set_of_le]
theorem filter_next {l : List (List Int)} {del : List Int → Bool} {j : Nat} (h : j < l.length) : (l.take (j + 1)).filter (fun x => !del x) = (l.take j).filter (fun x => !del x) ++ (if del (rd_L2 l j) then [] else [rd_L2 l j]) := by
 rw [take_next h, List.filter_append]
 cases hd : del (rd_L2 l j) <;> simp [hd]
theorem zeroDiv (w : World) : (zeroValue 42).run Try.prog w = .ok (.slice none 0 0) w := by kernel_rfl
theorem filter_first {l : List (List Int)} {del : List Int → Bool} {i : Nat} (h1 : del (rd_L2 l i) = true) (h2 : ∀ j : Nat, j < i → del (rd_L2 l j) = false) (h : i < l.length) : l.take i = (l.take (i + 1)).filter fun x => !del x := by
 rw [take_next h, List.filter_append]
 rw [show [rd_L2 l i].filter (fun x => !del x) = [] by simp [h1], List.append_nil]
 symm
 rw [List.filter_eq_self]
 intro x hx
 obtain ⟨j, hj, rfl⟩ := List.mem_take_iff_getElem.1 hx
 have h3 := h2 j (by omega)
 have e : rd_L2 l j = l[j]'(by omega) := by simp [rd_L2, List.getD_eq_getElem?_getD, List.getElem?_eq_getElem (by omega : j < l.length)]
 rw [e] at h3
 simp [h3]
theorem n_put {W : World} {base g0 n cap : Nat} {ok : Nat → Prop} {ys : List (List Int)} {x : List Int} {v : Value} {i : Nat} (h : Kd.N (Kd.slice 3 (Kd.int .i64)) 42 W base ok (.slice (some ⟨g0, 0, none⟩) n cap) ys) (hM : Kd.FK (Kd.slice 3 (Kd.int .i64)) W (fun k => ok k ∧ k ≠ g0) x [v]) (hi : i < n) :
  (∃ u, W.cell? ⟨g0, i, none⟩ = some u) ∧ W.frozen? ⟨g0, i, none⟩ = false ∧ Kd.N (Kd.slice 3 (Kd.int .i64)) 42 (W.setCell ⟨g0, i, none⟩ v) base ok (.slice (some ⟨g0, 0, none⟩) n cap) (ys.set i x) ∧ W.grownBy (W.setCell ⟨g0, i, none⟩ v) (some g0) := by
 obtain ⟨c, hcl, -, hcc, hfr⟩ := Kd.N_elem h [] (i : Int) (by omega) (by omega)
 obtain ⟨u, rfl⟩ : ∃ u, c = [u] := List.length_eq_one_iff.1 hcl
 have hs := Kd.N_seg h (i : Int) (by omega) (by omega) (c := [u]) (seg := [v]) (j := 0) (x' := x) (okp := fun k => ok k ∧ k ≠ g0) hcl hcc (by simp [Kd.slice]) (by simpa using hM) (fun k hk => hk)
 rw [Int.toNat_natCast] at hcc hs
 have h0 := hcc 0 u rfl
 have hf0 := hfr 0
 rw [Int.toNat_natCast] at hf0
 refine ⟨⟨u, by simpa [Kd.slice] using h0⟩, by simpa [Kd.slice] using hf0, ?_⟩
 simpa [Kd.slice, World.setCells] using hs
theorem n_clear {base g0 n cap : Nat} {ok : Nat → Prop} : ∀ (m i : Nat) (W : World) (ys : List (List Int)), i + m = n → ys.length = n → Kd.N (Kd.slice 3 (Kd.int .i64)) 42 W base ok (.slice (some ⟨g0, 0, none⟩) n cap) ys →
  ∃ zs : List (List Int), zs.length = n ∧ zs.take i = ys.take i ∧ Kd.N (Kd.slice 3 (Kd.int .i64)) 42 (W.setCells g0 i (List.replicate m (.slice none 0 0))) base ok (.slice (some ⟨g0, 0, none⟩) n cap) zs ∧ W.grownBy (W.setCells g0 i (List.replicate m (.slice none 0 0))) (some g0) := by
 intro m
 induction m with
 | zero => intro i W ys _ hy h; exact ⟨ys, hy, rfl, h, ⟨rfl, rfl, rfl, Nat.le_refl _, fun _ _ _ => rfl⟩⟩
 | succ m ih =>
  intro i W ys hi hy h
  obtain ⟨-, -, h1, h2⟩ := n_put (x := []) (v := .slice none 0 0) (i := i) h (fun W' _ => ⟨none, 0, rfl, Nat.le_refl _, Kd.C_nil _ _⟩) (by omega)
  obtain ⟨zs, z1, z2, z3, z4⟩ := ih (i + 1) _ (ys.set i []) (by omega) (by rw [List.length_set]; exact hy) h1
  refine ⟨zs, z1, ?_, by rw [List.replicate_succ, World.setCells]; exact z3, by rw [List.replicate_succ, World.setCells]; exact h2.trans z4⟩
  have h5 := congrArg (List.take i) z2
  rw [List.take_take, List.take_take, show min i (i + 1) = i by omega] at h5
  rw [h5, List.take_set_of_le (Nat.le_refl i)]
theorem deleteFunc_some (qx gx base g0 cap : Nat) (ok : Nat → Prop) (l : List (List Int)) (del : List Int → Bool) (wb W : World) (hN : Kd.N (Kd.slice 3 (Kd.int .i64)) 42 W base ok (.slice (some ⟨g0, 0, none⟩) l.length cap) l) (hwb : wb.grownBy W (some g0)) (hD : DelAt qx gx (some g0) wb l del) (hex : ∃ j : Nat, j < l.length ∧ del (rd_L2 l j) = true) :
  Calls Try.prog 51 #[.slice (some ⟨g0, 0, none⟩) l.length cap, .func (.func 52) #[] #[.pointer (some ⟨qx, 0, none⟩), .pointer (some ⟨gx, 0, none⟩)]] W fun e w' => ∃ m : Nat, e = .returned (.slice (some ⟨g0, 0, none⟩) m cap) ∧ m = (l.filter fun x => !del x).length ∧ Kd.N (Kd.slice 3 (Kd.int .i64)) 42 w' base ok (.slice (some ⟨g0, 0, none⟩) m cap) (l.filter fun x => !del x) ∧ W.grownBy w' (some g0) := by
 have HN := Aside0.mk hN
 have HWB := Aside0.mk hwb
 have HD := Aside0.mk hD
 have HEX := Aside0.mk hex
 have HI : Aside0 (Calls Try.prog 61 #[.slice (some ⟨g0, 0, none⟩) l.length cap, .func (.func 52) #[] #[.pointer (some ⟨qx, 0, none⟩), .pointer (some ⟨gx, 0, none⟩)]] W fun e w' => ∃ i : Nat, e = .returned (.int .i64 i) ∧ i < l.length ∧ del (rd_L2 l i) = true ∧ (∀ j : Nat, j < i → del (rd_L2 l j) = false) ∧ Below W.heap.size W w') := ⟨(indexFunc_calls qx gx base (some g0) (some ⟨g0, 0, none⟩) cap ok l del wb W hN hwb hD).mono (by
  rintro e w' ⟨r, rfl, h | ⟨i, rfl, h1, h2, h3⟩, hb⟩
  ·obtain ⟨j, hj, hdj⟩ := hex
   rw [h.2 j hj] at hdj; cases hdj
  ·exact ⟨i, rfl, h1, h2, h3, hb⟩)⟩
 obtain ⟨-, hcap, hC0⟩ := Kd.N_reads' hN
 have hlb : l.length ≤ 9223372036854775807 := Kd.C_max hC0
 clear hN hwb hD hex hC0
 go_enter Try.func51, Try.ntmps51
 go_wp2_with (go_at_call 61; refine HI.out.mono ?_; rintro e w1 ⟨i0, rfl, hi0, hdi, hfi, hb⟩; have HDI := Aside0.mk hdi; have HFI := Aside0.mk hfi; have HB1 := Aside0.mk hb; have hne := ne_minus i0; clear hdi hfi hb)
 have HF0 := Aside0.mk (filter_first HDI.out HFI.out hi0)
 have HG0 := Aside0.mk (grown_of_below HB1.out (some g0))
 have HN1 := Aside0.mk (Kd.N_below HN.out HB1.out)
 clear HI HDI HFI HB1 HEX hne
 go_loopw [5, 6] (fun ii jj wr => ∃ (i j : Nat) (ys : List (List Int)), i < j ∧ j ≤ l.length ∧ ii = .int .i64 i ∧ jj = .int .i64 j ∧ Aside0 (ys.length = l.length) ∧ Aside0 (ys.take i = (l.take j).filter fun x => !del x) ∧ Aside0 (∀ m : Nat, j ≤ m → rd_L2 ys m = rd_L2 l m) ∧ Aside0 (Kd.N (Kd.slice 3 (Kd.int .i64)) 42 wr base ok (.slice (some ⟨g0, 0, none⟩) l.length cap) ys) ∧ Aside0 (W.grownBy wr (some g0))) (fun _ jj _ => l.length - (intOf jj).toNat)
 case atStart => exact ⟨i0, i0 + 1, l, by omega, by omega, rfl, by go_num, ⟨rfl⟩, HF0, ⟨fun _ _ => rfl⟩, HN1, HG0⟩
 case round =>
  clear HF0 HG0 HN1
  obtain ⟨i, j, ys, hij, hj, rfl, rfl, HYL, HT, HR, HN2, HG⟩ := hrel
  by_cases hjl : j < l.length
  ·obtain ⟨c, hcl, hFK, hcc, -⟩ := Kd.N_elem HN2.out [] (j : Int) (by omega) (by omega)
   rw [show ys.getD (j : Int).toNat [] = rd_L2 l j from HR.out j (Nat.le_refl _)] at hFK
   rw [Int.toNat_natCast] at hcc
   obtain ⟨Aj, cj, rfl, hle, hF⟩ := Kd.FK_slice_open hFK
   have hx0 : wr.cell? ⟨g0, j, none⟩ = some (.slice Aj (rd_L2 l j).length cj) := by have h := hcc 0 _ rfl; simpa [Kd.slice] using h
   have HM := Aside0.mk (HD.out wr Aj cj (rd_L2 l j) (HWB.out.trans HG.out) (rd_L2_mem hjl) hle (Kd.F_now hF))
   have HFK := Aside0.mk hFK
   have hj0 : (0 : Int) ≤ (j : Int) := by omega
   have hj1 : (j : Int) < (l.length : Int) := by omega
   have hi0' : (0 : Int) ≤ (i : Int) := by omega
   have hi1 : (i : Int) < (l.length : Int) := by omega
   have HTJ := Aside0.mk (show (l.take (j + 1)).filter (fun x => !del x) = (l.take j).filter (fun x => !del x) ++ (if del (rd_L2 l j) then [] else [rd_L2 l j]) from filter_next hjl)
   have HRX := Aside0.mk (show ∃ x, x = rd_L2 l j from ⟨_, rfl⟩)
   clear hcl hFK hcc hle hF
   cases hb : del (rd_L2 l j) with
   | true =>
    rw [hb] at HM HTJ
    clear hb
    go_wp2_with (go_at_call 52; refine HM.out.mono ?_; rintro e w2 ⟨rfl, hb1⟩; have HB2 := Aside0.mk hb1; clear hb1)
    go_roundw
    case rel => exact ⟨i, j + 1, ys, by omega, by omega, rfl, by go_num, HYL, ⟨by rw [HTJ.out, HT.out]; simp⟩, ⟨fun m hm => HR.out m (by omega)⟩, ⟨Kd.N_below HN2.out HB2.out⟩, ⟨HG.out.trans (grown_of_below HB2.out _)⟩⟩
    case measure => exact (show l.length - ((j : Int) + 1).toNat < l.length - ((j : Int)).toNat by omega)
   | false =>
    rw [hb] at HM HTJ
    clear hb
    go_wp2_with (go_at_call 52; refine HM.out.mono ?_; rintro e w2 ⟨rfl, hb1⟩; obtain ⟨q1, q2, q3⟩ := n_put (Kd.N_below HN2.out hb1) (Kd.FK_below HFK.out hb1) (show i < l.length by omega); have HB2 := Aside0.mk hb1; have HN3 := Aside0.mk q3.1; have HG3 := Aside0.mk q3.2; obtain ⟨q0, q1⟩ := q1; clear q3 hb1)
    go_roundw
    case rel => exact ⟨i + 1, j + 1, ys.set i (rd_L2 l j), by omega, by omega, by go_num, by go_num, ⟨by rw [List.length_set]; exact HYL.out⟩, ⟨by rw [take_set_next (by rw [HYL.out]; omega), HTJ.out, HT.out]; simp⟩, ⟨fun m hm => by rw [rd_L2_set (by omega)]; exact HR.out m (by omega)⟩, HN3, ⟨(HG.out.trans (grown_of_below HB2.out _)).trans HG3.out⟩⟩
    case measure => exact (show l.length - ((j : Int) + 1).toNat < l.length - ((j : Int)).toNat by omega)
  ·obtain rfl : j = l.length := by omega
   have hcl := Lib.run_clear_slice (P := Try.prog) wr 27 42 0 (.slice none 0 0) Try.underlying27 zeroDiv rfl rfl g0 i (l.length - i) (cap - i) (by omega) (fun j hj => by
    obtain ⟨⟨u, hu⟩, -⟩ := n_put (x := []) (v := .slice none 0 0) (i := i + j) HN2.out (fun W' _ => ⟨none, 0, rfl, Nat.le_refl _, Kd.C_nil _ _⟩) (by omega)
    rw [hu]; rfl) (fun j hj => (n_put (x := []) (v := .slice none 0 0) (i := i + j) HN2.out (fun W' _ => ⟨none, 0, rfl, Nat.le_refl _, Kd.C_nil _ _⟩) (by omega)).2.1)
   obtain ⟨zs, z1, z2, z3, z4⟩ := n_clear (l.length - i) i wr ys (by omega) HYL.out HN2.out
   have HZ1 := Aside0.mk z1
   have HZ2 := Aside0.mk z2
   have HZ3 := Aside0.mk z3
   have HZ4 := Aside0.mk z4
   have hi0 : (0 : Int) ≤ (i : Int) := by omega
   have hi1 : (i : Int) ≤ (l.length : Int) := by omega
   have hi2 : (i : Int) ≤ (cap : Int) := by omega
   have hci : ¬ cap = i := by omega
   clear z1 z2 z3 z4
   generalize wr.setCells g0 i (List.replicate (l.length - i) (.slice none 0 0)) = w9 at hcl HZ3 HZ4
   go_wp2
   go_ret
   have hft : (l.filter fun x => !del x) = zs.take i := by
    have h := HT.out
    rw [List.take_length] at h
    rw [← h, HZ2.out]
   have hml : i = (l.filter fun x => !del x).length := by rw [hft, List.length_take, HZ1.out]; omega
   refine ⟨i, rfl, hml, ?_, HG.out.trans HZ4.out⟩
   rw [hft]
   exact Kd.N_take HZ3.out (by rw [HZ1.out]; omega)
theorem filter_none {l : List (List Int)} {del : List Int → Bool} (h : ∀ j : Nat, j < l.length → del (rd_L2 l j) = false) : (l.filter fun x => !del x) = l := by
 rw [List.filter_eq_self]
 intro x hx
 obtain ⟨j, hj, rfl⟩ := List.mem_iff_getElem.1 hx
 have h3 := h j hj
 have e : rd_L2 l j = l[j] := by simp [rd_L2, List.getD_eq_getElem?_getD, List.getElem?_eq_getElem hj]
 rw [e] at h3
 simp [h3]
theorem deleteFunc_none (qx gx base : Nat) (row : Option Nat) (A : Option Addr) (cap : Nat) (ok : Nat → Prop) (l : List (List Int)) (del : List Int → Bool) (wb W : World) (hN : Kd.N (Kd.slice 3 (Kd.int .i64)) 42 W base ok (.slice A l.length cap) l) (hwb : wb.grownBy W row) (hD : DelAt qx gx row wb l del) (hex : ∀ j : Nat, j < l.length → del (rd_L2 l j) = false) :
  Calls Try.prog 51 #[.slice A l.length cap, .func (.func 52) #[] #[.pointer (some ⟨qx, 0, none⟩), .pointer (some ⟨gx, 0, none⟩)]] W fun e w' => e = .returned (.slice A l.length cap) ∧ Below W.heap.size W w' := by
 have HI : Aside0 (Calls Try.prog 61 #[.slice A l.length cap, .func (.func 52) #[] #[.pointer (some ⟨qx, 0, none⟩), .pointer (some ⟨gx, 0, none⟩)]] W fun e w' => e = .returned (.int .i64 (-1)) ∧ Below W.heap.size W w') := ⟨(indexFunc_calls qx gx base row A cap ok l del wb W hN hwb hD).mono (by
  rintro e w' ⟨r, rfl, ⟨rfl, h⟩ | ⟨i, rfl, h1, h2, h3⟩, hb⟩
  ·exact ⟨rfl, hb⟩
  ·rw [hex i h1] at h2; cases h2)⟩
 clear hN hwb hD hex
 go_enter Try.func51, Try.ntmps51
 go_wp2_with (go_at_call 61; refine HI.out.mono ?_; rintro e w1 ⟨rfl, hb⟩; have HB1 := Aside0.mk hb; clear hb)
 go_ret
 exact ⟨rfl, HB1.out⟩
def api_Divisor_int_31.l0 : Nat → List Int → List Int → Int → Int → Option (Bool)
 | 0, _, _, _, _ => none
 | k + 1, x0, x1, x12, x13 => if x13 < x12 then (if 0 ≤ x13 then (if x13 < (x0.length : Int) then (if x13 < (x1.length : Int) then (if (rd x0 x13) = (rd x1 x13) then (api_Divisor_int_31.l0 k x0 x1 x12 (wrap64 (x13 + 1))) else (some false)) else (none)) else (none)) else (none)) else (some true)
def api_Divisor_int_31.f (k : Nat) (l0 : List Int) (l1 : List Int) : Option (Bool) := if (l0.length : Int) = (l1.length : Int) then (api_Divisor_int_31.l0 k l0 l1 (l0.length : Int) 0) else (some false)
theorem api_Divisor_int_31.calls (k : Nat) (A0 : Option Addr) (c0 : Nat) (l0 : List Int) (A1 : Option Addr) (c1 : Nat) (l1 : List Int) (r : Bool) (w : World) (hr0 : Kd.C (Kd.int .i64) w A0 l0.length l0) (hc0 : l0.length ≤ c0) (hr1 : Kd.C (Kd.int .i64) w A1 l1.length l1) (hc1 : l1.length ≤ c1) (h : api_Divisor_int_31.f k l0 l1 = some r) :
  Calls Try.prog 31 #[.slice A0 l0.length c0, .slice A1 l1.length c1] w fun e w' => e = .returned (.bool r) ∧ Drawn0 w w' := by
 have HR0 := Aside0.mk hr0
 have HC0 := Aside0.mk hc0
 clear hr0 hc0
 have HR1 := Aside0.mk hr1
 have HC1 := Aside0.mk hc1
 clear hr1 hc1
 have H : (if (l0.length : Int) = (l1.length : Int) then (api_Divisor_int_31.l0 k l0 l1 (l0.length : Int) 0) else (some false)) = some r := h
 clear h
 by_cases c3 : (l0.length : Int) = (l1.length : Int)
 ·rw [if_pos c3] at H
  have c3b0 : ((l0.length : Int) == (l1.length : Int)) = true := beq_iff_eq.mpr c3
  have c3b1 : ((l0.length : Int) != (l1.length : Int)) = false := bne_eq_false_iff_eq.mpr c3
  have c3b2 : (l0.length == l1.length) = true := by first | simpa using c3 | (simp at c3 ⊢; omega)
  clear c3
  have H' := Aside0.mk H
  clear H
  go_enter Try.func31, Try.ntmps31
  go_wp2
  repeat (go_quiet (fail); try go_wp2)
  go_loopg [13] k (fun kq v13 w' => ∃ (x13_1 : Int), v13 = .int .i64 x13_1 ∧ Aside0 (api_Divisor_int_31.l0 kq l0 l1 (l0.length : Int) x13_1 = some r) ∧ Aside0 (kq ≤ k) ∧ Drawn0 w w')
  case atStart => exact ⟨(0), zT, H', ⟨Nat.le_refl _⟩, by repeat (first | exact Drawn0.refl _ | apply Drawn0.step)⟩
  case round =>
   clear H'
   try clear c1
   try clear p2
   try clear c3
   try clear c3b0
   try clear c3b1
   try clear c3b2
   obtain ⟨x13_1, rfl, HA, HK1, ⟨m1, rfl⟩⟩ := hrel
   cases gk with
   | zero => exact absurd HA.out (by simp [api_Divisor_int_31.l0])
   | succ k1 =>
    have H := HA.out
    clear HA
    simp only [api_Divisor_int_31.l0] at H
    by_cases c4 : x13_1 < (l0.length : Int)
    ·rw [if_pos c4] at H
     have c4b0 : decide (x13_1 < (l0.length : Int)) = true := decide_eq_true c4
     clear c4
     by_cases c5 : 0 ≤ x13_1
     ·rw [if_pos c5] at H
      have c5b0 : decide (0 ≤ x13_1) = true := decide_eq_true c5
      clear c5
      by_cases c6 : x13_1 < (l0.length : Int)
      ·rw [if_pos c6] at H
       have c6b0 : decide (x13_1 < (l0.length : Int)) = true := decide_eq_true c6
       clear c6
       by_cases c7 : x13_1 < (l1.length : Int)
       ·rw [if_pos c7] at H
        have c7b0 : decide (x13_1 < (l1.length : Int)) = true := decide_eq_true c7
        clear c7
        by_cases c8 : (rd l0 x13_1) = (rd l1 x13_1)
        ·rw [if_pos c8] at H
         have c8b0 : ((rd l0 x13_1) == (rd l1 x13_1)) = true := beq_iff_eq.mpr c8
         have c8b1 : ((rd l0 x13_1) != (rd l1 x13_1)) = false := bne_eq_false_iff_eq.mpr c8
         clear c8
         have H' := Aside0.mk H
         clear H
         have p393 : 0 ≤ (x13_1 : Int) := of_decide_eq_true ‹_›
         have q393 : x13_1 < (l0.length : Int) := of_decide_eq_true ‹_›
         obtain ⟨ad393, e393, hx393_0⟩ := Kd.at_int HR0.out x13_1 p393 q393
         cases e393
         replace p393 := eq_true p393
         replace q393 := eq_true q393
         have p394 : 0 ≤ (x13_1 : Int) := of_decide_eq_true ‹_›
         have q394 : x13_1 < (l1.length : Int) := of_decide_eq_true ‹_›
         obtain ⟨ad394, e394, hx394_0⟩ := Kd.at_int HR1.out x13_1 p394 q394
         cases e394
         replace p394 := eq_true p394
         replace q394 := eq_true q394
         go_wp2
         repeat (go_quiet (fail); try go_wp2)
         go_roundg k1
         case measure => have := HK1.out; omega
         case rel => exact ⟨(wrap64 (x13_1 + 1)), zT, H', ⟨by have := HK1.out; omega⟩, by repeat (first | exact Drawn0.refl _ | apply Drawn0.step)⟩
        ·rw [if_neg c8] at H
         have c8b0 : ((rd l0 x13_1) == (rd l1 x13_1)) = false := beq_eq_false_iff_ne.mpr c8
         have c8b1 : ((rd l0 x13_1) != (rd l1 x13_1)) = true := bne_iff_ne.mpr c8
         obtain rfl := Option.some.inj H
         have p393 : 0 ≤ (x13_1 : Int) := of_decide_eq_true ‹_›
         have q393 : x13_1 < (l0.length : Int) := of_decide_eq_true ‹_›
         obtain ⟨ad393, e393, hx393_0⟩ := Kd.at_int HR0.out x13_1 p393 q393
         cases e393
         replace p393 := eq_true p393
         replace q393 := eq_true q393
         have p394 : 0 ≤ (x13_1 : Int) := of_decide_eq_true ‹_›
         have q394 : x13_1 < (l1.length : Int) := of_decide_eq_true ‹_›
         obtain ⟨ad394, e394, hx394_0⟩ := Kd.at_int HR1.out x13_1 p394 q394
         cases e394
         replace p394 := eq_true p394
         replace q394 := eq_true q394
         go_wp2
         repeat (go_quiet (fail); try go_wp2)
         go_ret
         exact ⟨zT, by repeat (first | exact Drawn0.refl _ | apply Drawn0.step)⟩
       ·rw [if_neg c7] at H
        exact absurd H (by simp)
      ·rw [if_neg c6] at H
       exact absurd H (by simp)
     ·rw [if_neg c5] at H
      exact absurd H (by simp)
    ·rw [if_neg c4] at H
     have c4b0 : decide (x13_1 < (l0.length : Int)) = false := decide_eq_false c4
     clear c4
     obtain rfl := Option.some.inj H
     go_wp2
     repeat (go_quiet (fail); try go_wp2)
     go_ret
     exact ⟨zT, by repeat (first | exact Drawn0.refl _ | apply Drawn0.step)⟩
 ·rw [if_neg c3] at H
  have c3b0 : ((l0.length : Int) == (l1.length : Int)) = false := beq_eq_false_iff_ne.mpr c3
  have c3b1 : ((l0.length : Int) != (l1.length : Int)) = true := bne_iff_ne.mpr c3
  have c3b2 : (l0.length == l1.length) = false := by first | simpa using c3 | (simp at c3 ⊢; omega)
  obtain rfl := Option.some.inj H
  go_enter Try.func31, Try.ntmps31
  go_wp2
  repeat (go_quiet (fail); try go_wp2)
  go_ret
  exact ⟨zT, by repeat (first | exact Drawn0.refl _ | apply Drawn0.step)⟩
theorem below1_calls (K : Nat) (gd : Nat) (A : Option Addr) (c : Nat) (x : List Int) (Ad : Option Addr) (cd : Nat) (d : List Int) (r : Bool) (W : World) (hg : W.heap[gd]? = some (.cells #[.slice Ad d.length cd] 42 (0, 0))) (hx : Kd.C (Kd.int .i64) W A x.length x) (hc : x.length ≤ c) (hd : Kd.C (Kd.int .i64) W Ad d.length d) (hcd : d.length ≤ cd) (h : api_Divisor_int_31.f K x d = some r) :
  Calls Try.prog 37 #[.slice A x.length c, .pointer (some ⟨gd, 0, none⟩)] W fun e w' => e = .returned (.bool r) ∧ Below W.heap.size W w' := by
 have hd0 : W.cell? ⟨gd, 0, none⟩ = some (.slice Ad d.length cd) := (blk_cell hg 0).trans rfl
 have HX := Aside0.mk hx
 have HD := Aside0.mk hd
 have H := Aside0.mk h
 clear hx hd h hg
 go_enter Try.func37, Try.ntmps37
 go_wp2_with (go_at_call 31; refine (api_Divisor_int_31.calls K A c x Ad cd d r _ HX.out hc HD.out hcd H.out).mono ?_; rintro e w' ⟨rfl, ⟨nd, rfl⟩⟩)
 go_ret
 exact ⟨rfl, pw_below_drewN (Below.refl _ _) _⟩
def SeekB (gd : Nat) (W : World) (l : List (List Int)) (p : List Int → Bool) : Prop :=
 ∀ (W' : World) (A0 : Option Addr) (c0 : Nat) (x : List Int), Below W.heap.size W W' → x ∈ l → x.length ≤ c0 → Kd.C (Kd.int .i64) W' A0 x.length x →
  Calls Try.prog 37 #[.slice A0 x.length c0, .pointer (some ⟨gd, 0, none⟩)] W' fun e w' => e = .returned (.bool (p x)) ∧ Below W'.heap.size W' w'
theorem indexB_calls (gd base : Nat) (A : Option Addr) (cap : Nat) (ok : Nat → Prop) (l : List (List Int)) (p : List Int → Bool) (W : World) (hN : Kd.N (Kd.slice 3 (Kd.int .i64)) 42 W base ok (.slice A l.length cap) l) (hD : SeekB gd W l p) :
  Calls Try.prog 61 #[.slice A l.length cap, .func (.func 37) #[] #[.pointer (some ⟨gd, 0, none⟩)]] W fun e w' => ∃ r : Int, e = .returned (.int .i64 r) ∧ (r = -1 ∧ l.any p = false ∨ 0 ≤ r ∧ l.any p = true) ∧ Below W.heap.size W w' := by
 have HN := Aside0.mk hN
 have HD := Aside0.mk hD
 clear hN hD
 go_enter Try.func61, Try.ntmps61
 go_wp2
 go_loopw [8] (fun i wr => ∃ k : Nat, k ≤ l.length ∧ i = .int .i64 k ∧ Aside0 (∀ j : Nat, j < k → p (rd_L2 l j) = false) ∧ Aside0 (Below W.heap.size W wr)) (fun i _ => l.length - (intOf i).toNat)
 case atStart => exact ⟨0, by omega, rfl, ⟨fun j hj => by omega⟩, ⟨Below.refl _ _⟩⟩
 case round =>
  obtain ⟨k, hk, rfl, HF, HB⟩ := hrel
  by_cases hkl : k < l.length
  ·obtain ⟨-, hcap, hC⟩ := Kd.N_reads' (Kd.N_below HN.out HB.out)
   obtain ⟨ad, Ac, cc, rfl, hx0, hcc, hcr⟩ := at_L2 hC k (by omega) (by omega)
   rw [Int.toNat_natCast] at hx0
   have HM := Aside0.mk (HD.out wr Ac cc (rd_L2 l k) HB.out (rd_L2_mem hkl) hcc hcr)
   have HRK := Aside0.mk (rfl : rd_L2 l k = rd_L2 l k)
   have hk0 : (0 : Int) ≤ (k : Int) := by omega
   have hk1 : (k : Int) < (l.length : Int) := by omega
   have hlb : l.length ≤ 9223372036854775807 := Kd.C_max hC
   clear hC hcr hcc hcap
   cases hb : p (rd_L2 l k) with
   | true =>
    rw [hb] at HM
    have Hb := Aside0.mk hb
    clear hb
    go_wp2_with (go_at_call 37; refine HM.out.mono ?_; rintro e w1 ⟨rfl, hb1⟩; have HB1 := Aside0.mk hb1; clear hb1)
    go_ret
    exact ⟨k, rfl, .inr ⟨by omega, List.any_eq_true.2 ⟨_, rd_L2_mem hkl, Hb.out⟩⟩, HB.out.trans (HB1.out.mono HB.out.size)⟩
   | false =>
    rw [hb] at HM
    have Hb := Aside0.mk hb
    clear hb
    go_wp2_with (go_at_call 37; refine HM.out.mono ?_; rintro e w1 ⟨rfl, hb1⟩; have HB1 := Aside0.mk hb1; clear hb1)
    go_roundw
    case rel => exact ⟨k + 1, by omega, by go_num, ⟨fun j hj => by
     by_cases e : j = k
     ·subst e; exact Hb.out
     ·exact HF.out j (by omega)⟩, ⟨HB.out.trans (HB1.out.mono HB.out.size)⟩⟩
    case measure => exact (show l.length - ((k : Int) + 1).toNat < l.length - ((k : Int)).toNat by omega)
  ·obtain rfl : k = l.length := by omega
   go_wp2
   go_ret
   refine ⟨-1, rfl, .inl ⟨rfl, ?_⟩, HB.out⟩
   rw [List.any_eq_false]
   intro x hx
   obtain ⟨j, hj, rfl⟩ := List.mem_iff_getElem.1 hx
   have h3 := HF.out j hj
   rw [show rd_L2 l j = l[j] by simp [rd_L2, List.getD_eq_getElem?_getD, List.getElem?_eq_getElem hj]] at h3
   simp [h3]
theorem containsB_calls (gd base : Nat) (A : Option Addr) (cap : Nat) (ok : Nat → Prop) (l : List (List Int)) (p : List Int → Bool) (W : World) (hN : Kd.N (Kd.slice 3 (Kd.int .i64)) 42 W base ok (.slice A l.length cap) l) (hD : SeekB gd W l p) (hp : l.any p = true) :
  Calls Try.prog 32 #[.slice A l.length cap, .func (.func 37) #[] #[.pointer (some ⟨gd, 0, none⟩)]] W fun e w' => e = .returned (.bool true) ∧ Below W.heap.size W w' := by
 have HI : Aside0 (Calls Try.prog 61 #[.slice A l.length cap, .func (.func 37) #[] #[.pointer (some ⟨gd, 0, none⟩)]] W fun e w' => ∃ r : Int, e = .returned (.int .i64 r) ∧ 0 ≤ r ∧ Below W.heap.size W w') := ⟨(indexB_calls gd base A cap ok l p W hN hD).mono (by
  rintro e w' ⟨r, rfl, h | h, hb⟩
  ·rw [hp] at h; cases h.2
  ·exact ⟨r, rfl, h.1, hb⟩)⟩
 clear hN hD hp
 go_enter Try.func32, Try.ntmps32
 go_wp2_with (go_at_call 61; refine HI.out.mono ?_; rintro e w1 ⟨r, rfl, hr0, hb⟩; have HB1 := Aside0.mk hb; have hr1 : decide (r ≥ 0) = true := decide_eq_true hr0; clear hb)
 go_ret
 exact ⟨by first | rfl | simp [hr0], HB1.out⟩
def superstable_raised.l0 : Nat → Int → List Int → Int → Int → List (S66) → Option (List Int)
 | 0, _, _, _, _, _ => none
 | k + 1, x1, x2, x3, x272000, x272001 => (superstable_calm.f k x272000 x272001 x1 x2).bind fun t277 => (if t277 = true then (if 0 ≤ x3 then (if x3 < (x2.length : Int) then (superstable_raised.l0 k x1 (x2.set (x3 : Int).toNat (wrap64 ((rd x2 x3) + 1))) x3 x272000 x272001) else (none)) else (none)) else (if 0 ≤ x3 then (if x3 < (x2.length : Int) then (some (x2.set (x3 : Int).toNat (wrap64 ((rd x2 x3) - 1)))) else (none)) else (none)))
def superstable_raised.f (k : Nat) (a0_0 : Int) (l0_1 : List (S66)) (a1 : Int) (l2 : List Int) (a3 : Int) : Option (List Int) := (api_Divisor_int_36.f l2).bind fun t272 => (if 0 ≤ a3 then (if a3 < (t272.length : Int) then (superstable_raised.l0 k a1 (t272.set (a3 : Int).toNat (wrap64 ((rd t272 a3) + 1))) a3 a0_0 l0_1) else (none)) else (none))
theorem superstable_raised.calls (k : Nat) (a0_0 : Int) (A0_1 : Option Addr) (c0_1 : Nat) (l0_1 : List (S66)) (a1 : Int) (A2 : Option Addr) (c2 : Nat) (l2 : List Int) (a3 : Int) (r : List Int) (w : World) (hr0_1 : Kd.C k66 w A0_1 l0_1.length l0_1) (hc0_1 : l0_1.length ≤ c0_1) (hr2 : Kd.C (Kd.int .i64) w A2 l2.length l2) (hc2 : l2.length ≤ c2) (h : superstable_raised.f k a0_0 l0_1 a1 l2 a3 = some r) :
  Calls Try.prog 53 #[.agg #[.int .i64 a0_0, .slice A0_1 l0_1.length c0_1], .int .i64 a1, .slice A2 l2.length c2, .int .i64 a3] w fun e w' => ∃ v0_ : Value, e = .returned (v0_) ∧ Kd.R (Kd.int .i64) 3 w' w.heap.size (fun _ => True) v0_ r ∧ Below w.heap.size w w' := by
 have hu24 := Try.underlying24
 have HR0_1 := Aside0.mk hr0_1
 have HC0_1 := Aside0.mk hc0_1
 clear hr0_1 hc0_1
 have HR2 := Aside0.mk hr2
 have HC2 := Aside0.mk hc2
 clear hr2 hc2
 have HB := Aside0.mk (Below.refl w.heap.size w)
 have H : ((api_Divisor_int_36.f l2).bind fun t272 => (if 0 ≤ a3 then (if a3 < (t272.length : Int) then (superstable_raised.l0 k a1 (t272.set (a3 : Int).toNat (wrap64 ((rd t272 a3) + 1))) a3 a0_0 l0_1) else (none)) else (none))) = some r := h
 clear h
 replace H := Option.bind_eq_some_iff.mp H
 obtain ⟨t272, A50, H⟩ := H
 replace H : (if 0 ≤ a3 then (if a3 < (t272.length : Int) then (superstable_raised.l0 k a1 (t272.set (a3 : Int).toNat (wrap64 ((rd t272 a3) + 1))) a3 a0_0 l0_1) else (none)) else (none)) = some r := H
 have A5 := Aside0.mk A50
 clear A50
 by_cases c6 : 0 ≤ a3
 ·rw [if_pos c6] at H
  have c6b0 : decide (0 ≤ a3) = true := decide_eq_true c6
  clear c6
  by_cases c7 : a3 < (t272.length : Int)
  ·rw [if_pos c7] at H
   have c7b0 : decide (a3 < (t272.length : Int)) = true := decide_eq_true c7
   clear c7
   obtain ⟨y276, hy276⟩ : ∃ y_ : List Int, y_ = (t272.set (a3 : Int).toNat (wrap64 ((rd t272 a3) + 1))) := ⟨_, rfl⟩
   replace H : (superstable_raised.l0 k a1 y276 a3 a0_0 l0_1) = some r := by first | (rw [hy276]; with_reducible exact H) | (have H2_ := (Option.bind_some _ _).symm.trans H; rw [hy276]; with_reducible exact H2_) | (have H2_ := (Option.bind_some _ _).symm.trans H; with_reducible exact H2_) | with_reducible exact H | (rw [hy276]; exact H) | exact H
   have Ny276 := Aside0.mk hy276
   clear hy276
   have H' := Aside0.mk H
   clear H
   go_enter Try.func53, Try.ntmps53
   go_wp2_with (first | ((with_reducible refine gate_dst (N := 4) rfl ?_); refine zX 4 #[.int .i64 a0_0, .slice A0_1 l0_1.length c0_1] 24 ?_; intro gb271 hg w9 hbox hb; have BK271 := Aside0.mk (hbox); have GW271 := zG HB hg; have GE271 := zG HB hg; replace HB := zS HB hb; clear hb hbox hg) | ((with_reducible refine gate_callee (f := 36) rfl ?_); refine zL (some 10) Try.func36 #[.slice A2 l2.length c2] ?_; (with_reducible refine (api_Divisor_int_36.calls _ _ l2 t272 _ ?side1 ?side2 A5.out).mono ?_); (case side1 => exact Kd.C_below HR2.out zB); (case side2 => exact HC2.out); rintro e w10 ⟨v273, rfl, ho0, hb⟩; refine ⟨_, rfl, ?_⟩; have HO274 := Aside0.mk (Kd.R_lower ho0 (below_size zB)); replace BK271 := zb BK271 hb; replace HB := zS HB hb; (try clear hb); (try clear ho0); obtain ⟨Ao11, co11, eo11⟩ := Kd.R_slice HO274.out; subst eo11; have p275 : 0 ≤ (a3 : Int) := of_decide_eq_true ‹_›; have q275 : a3 < (t272.length : Int) := of_decide_eq_true ‹_›; obtain ⟨ad275, e275, hx275_0⟩ := Kd.at_int (Kd.R_reads' HO274.out).2.2 a3 p275 q275; cases e275; replace p275 := eq_true p275; replace q275 := eq_true q275; have p8 : 0 ≤ (a3 : Int) := of_decide_eq_true ‹_›; have q8 : (a3 : Int) < ((t272.length : Int) : Int) := of_decide_eq_true ‹_›; obtain ⟨go8, co8, eo8, gb8, gl8, cl8, HG8⟩ := Kd.R_form HO274.out (by omega); (first | cases eo8 | (injection eo8 with ea_ en_ ec_; (first | subst ea_ | (injection ea_ with ea_; subst ea_)); subst ec_; clear en_)); have GB8 := Aside0.mk gb8; have GG8 := Aside0.mk HG8; clear gb8 gl8 HG8; (first | simp only [add_plain] at hx275_0 | skip); obtain ⟨hx8_0, hf8_0⟩ := Kd.R_celln 0 HO274.out (a3 : Int) p8 q8; replace p8 := eq_true p8; replace q8 := eq_true q8; obtain ⟨hy12_, hz12_⟩ := Kd.R_celln 0 HO274.out (a3 : Int) (of_decide_eq_true ‹_›) (of_decide_eq_true ‹_›); have HP12 := Kd.R_putg HO274.out (a3 : Int) (wrap64 ((rd t272 a3) + 1))) | ((with_reducible refine gate_store (t := 3) (p := 16) rfl ?_); refine store_event (t := 3) (p := 16) (v := ?vo_w13) (w1 := (w10.setCell ⟨go8, (a3 : Int).toNat, none⟩ (.int .i64 (wrap64 ((rd t272 a3) + 1))))) ?hg ?ho ?hn ?hr ?_; (case ho => rfl); (case hg => rfl); (case hn => rfl); (case hr => first | (go_simp; done) | (go_simp; rfl)); intro w13 hw; have hg : w10.grownBy w13 (some go8) := (by rw [hw]; exact HP12.2); have hp_ : Kd.R (Kd.int .i64) 3 w13 w.heap.size (fun _ => True) (.slice (some ⟨go8, 0, none⟩) t272.length co11) y276 := (by rw [hw, Ny276.out]; exact HP12.1); clear HP12; replace BK271 := Aside0.mk (blk_grown (zK BK271) hg (Kd.R_ne HO274.out BK271.out (by decide))); replace HO274 := Aside0.mk (hp_); replace HB := Aside0.mk ((by rw [hw]; exact below_set (HB.out) GB8.out : Below w.heap.size w w13)); clear hg hw hp_))
   go_loopg [] k (fun kq w' => ∃ (x2_1 : List Int), Aside0 (superstable_raised.l0 kq a1 x2_1 a3 a0_0 l0_1 = some r) ∧ Aside0 (kq ≤ k) ∧ Aside0 (Kd.R (Kd.int .i64) 3 w' w.heap.size (fun _ => True) (.slice (some ⟨go8, 0, none⟩) t272.length co11) x2_1) ∧ Aside0 (w'.heap[gb271]? = some (.cells #[.int .i64 a0_0, (.slice A0_1 l0_1.length c0_1)] 24 (0, 0))) ∧ Aside0 (Below w.heap.size w w'))
   case atStart => exact ⟨(y276), H', ⟨Nat.le_refl _⟩, ⟨zR HO274⟩, ⟨zK BK271⟩, ⟨zB⟩⟩
   case round =>
    clear H'
    try clear c2
    try clear p2
    try clear q2
    try clear hx2
    try clear c3
    try clear c5
    try clear c6
    try clear c6b0
    try clear p6
    try clear c7
    try clear c7b0
    try clear p8
    try clear q8
    try clear hx8
    try clear hf8
    try clear hx275_0
    try clear hx8_0
    try clear p275
    try clear p8
    try clear q275
    try clear q8
    obtain ⟨x2_1, HA, HK1, HO_2, BK271, HB⟩ := hrel
    have hl2_1 := (Kd.R_reads' HO_2.out).1
    rw [hl2_1] at HO_2
    (try simp only [hl2_1])
    (try simp only [hl2_1] at BK271)
    cases gk with
    | zero => exact absurd HA.out (by simp [superstable_raised.l0])
    | succ k1 =>
     have H := HA.out
     clear HA
     simp only [superstable_raised.l0] at H
     replace H := Option.bind_eq_some_iff.mp H
     obtain ⟨t277, A140, H⟩ := H
     replace H : (if t277 = true then (if 0 ≤ a3 then (if a3 < (x2_1.length : Int) then (superstable_raised.l0 k1 a1 (x2_1.set (a3 : Int).toNat (wrap64 ((rd x2_1 a3) + 1))) a3 a0_0 l0_1) else (none)) else (none)) else (if 0 ≤ a3 then (if a3 < (x2_1.length : Int) then (some (x2_1.set (a3 : Int).toNat (wrap64 ((rd x2_1 a3) - 1)))) else (none)) else (none))) = some r := H
     have A14 := Aside0.mk A140
     clear A140
     by_cases c15 : t277 = true
     ·subst c15
      have H1 : (if 0 ≤ a3 then (if a3 < (x2_1.length : Int) then (superstable_raised.l0 k1 a1 (x2_1.set (a3 : Int).toNat (wrap64 ((rd x2_1 a3) + 1))) a3 a0_0 l0_1) else (none)) else (none)) = some r := by rw [if_pos rfl] at H; exact H
      clear H
      have H := H1
      clear H1
      by_cases c16 : 0 ≤ a3
      ·rw [if_pos c16] at H
       have c16b0 : decide (0 ≤ a3) = true := decide_eq_true c16
       clear c16
       by_cases c17 : a3 < (x2_1.length : Int)
       ·rw [if_pos c17] at H
        have c17b0 : decide (a3 < (x2_1.length : Int)) = true := decide_eq_true c17
        clear c17
        obtain ⟨y279, hy279⟩ : ∃ y_ : List Int, y_ = (x2_1.set (a3 : Int).toNat (wrap64 ((rd x2_1 a3) + 1))) := ⟨_, rfl⟩
        replace H : (superstable_raised.l0 k1 a1 y279 a3 a0_0 l0_1) = some r := by first | (rw [hy279]; with_reducible exact H) | (have H2_ := (Option.bind_some _ _).symm.trans H; rw [hy279]; with_reducible exact H2_) | (have H2_ := (Option.bind_some _ _).symm.trans H; with_reducible exact H2_) | with_reducible exact H | (rw [hy279]; exact H) | exact H
        have Ny279 := Aside0.mk hy279
        clear hy279
        have H' := Aside0.mk H
        clear H
        obtain ⟨hcz19_0, hcz19_1, hfz19_0, hfz19_1⟩ := zD2 BK271
        go_wp2_with (first | ((with_reducible refine gate_callee (f := 72) rfl ?_); refine zL (some 20) Try.func72 #[.agg #[.int .i64 a0_0, .slice A0_1 l0_1.length c0_1], .int .i64 a1, .slice (some ⟨go8, 0, none⟩) x2_1.length co11] ?_; (with_reducible refine (superstable_calm.calls k1 a0_0 _ _ l0_1 a1 _ _ x2_1 true _ ?side1 ?side2 ?side3 ?side4 A14.out).mono ?_); (case side1 => exact Kd.C_below HR0_1.out zB); (case side2 => exact HC0_1.out); (case side3 => exact zC (Kd.R_reads' HO_2.out).2.2); (case side4 => exact (Kd.R_reads' HO_2.out).2.1); rintro e w20 ⟨rfl, hb⟩; refine ⟨_, rfl, ?_⟩; replace HO_2 := zbR HO_2 hb; replace BK271 := zb BK271 hb; replace HB := zS HB hb; (try clear hb); have p278 : 0 ≤ (a3 : Int) := of_decide_eq_true ‹_›; have q278 : a3 < (x2_1.length : Int) := of_decide_eq_true ‹_›; obtain ⟨ad278, e278, hx278_0⟩ := Kd.at_int (Kd.R_reads' HO_2.out).2.2 a3 p278 q278; obtain rfl : (⟨go8, 0, none⟩ : Addr) = ad278 := (by injection e278); (first | simp only [add_plain] at hx278_0 | simp only [add_at] at hx278_0 | simp only [Addr.add, Nat.zero_add] at hx278_0 | skip); replace p278 := eq_true p278; replace q278 := eq_true q278; have p18 : 0 ≤ (a3 : Int) := of_decide_eq_true ‹_›; have q18 : (a3 : Int) < ((x2_1.length : Int) : Int) := of_decide_eq_true ‹_›; obtain ⟨hx18_0, hf18_0⟩ := Kd.R_celln 0 HO_2.out (a3 : Int) p18 q18; replace p18 := eq_true p18; replace q18 := eq_true q18; obtain ⟨hy21_, hz21_⟩ := Kd.R_celln 0 HO_2.out (a3 : Int) (of_decide_eq_true ‹_›) (of_decide_eq_true ‹_›); have HP21 := Kd.R_putg HO_2.out (a3 : Int) (wrap64 ((rd x2_1 a3) + 1))) | ((with_reducible refine gate_store (t := 3) (p := 26) rfl ?_); refine store_event (t := 3) (p := 26) (v := ?vo_w22) (w1 := (w20.setCell ⟨go8, (a3 : Int).toNat, none⟩ (.int .i64 (wrap64 ((rd x2_1 a3) + 1))))) ?hg ?ho ?hn ?hr ?_; (case ho => rfl); (case hg => rfl); (case hn => rfl); (case hr => first | (go_simp; done) | (go_simp; rfl)); intro w22 hw; have hg : w20.grownBy w22 (some go8) := (by rw [hw]; exact HP21.2); have hp_ : Kd.R (Kd.int .i64) 3 w22 w.heap.size (fun _ => True) (.slice (some ⟨go8, 0, none⟩) x2_1.length co11) y279 := (by rw [hw, Ny279.out]; exact HP21.1); clear HP21; replace BK271 := Aside0.mk (blk_grown (zK BK271) hg (Kd.R_ne HO_2.out BK271.out (by decide))); replace HO_2 := Aside0.mk (hp_); replace HB := Aside0.mk ((by rw [hw]; exact below_set (HB.out) GB8.out : Below w.heap.size w w22)); clear hg hw hp_))
        (try simp only [← hl2_1])
        go_roundg k1
        case measure => have := HK1.out; omega
        case rel => exact ⟨(y279), H', ⟨by have := HK1.out; omega⟩, ⟨by (try simp only [hl2_1]); (with_reducible repeat (first | apply Kd.R_alloc | apply Kd.R_drewN | apply Kd.R_drew)); exact HO_2.out⟩, ⟨by (try simp only [hl2_1]); exact zK BK271⟩, ⟨zB⟩⟩
       ·rw [if_neg c17] at H
        exact absurd H (by simp)
      ·rw [if_neg c16] at H
       exact absurd H (by simp)
     ·replace c15 := Bool.eq_false_iff.mpr c15
      subst c15
      have H1 : (if 0 ≤ a3 then (if a3 < (x2_1.length : Int) then (some (x2_1.set (a3 : Int).toNat (wrap64 ((rd x2_1 a3) - 1)))) else (none)) else (none)) = some r := by rw [if_neg (show ¬ (false = true) by decide)] at H; exact H
      clear H
      have H := H1
      clear H1
      by_cases c23 : 0 ≤ a3
      ·rw [if_pos c23] at H
       have c23b0 : decide (0 ≤ a3) = true := decide_eq_true c23
       clear c23
       by_cases c24 : a3 < (x2_1.length : Int)
       ·rw [if_pos c24] at H
        have c24b0 : decide (a3 < (x2_1.length : Int)) = true := decide_eq_true c24
        clear c24
        obtain ⟨y281, hy281⟩ : ∃ y_ : List Int, y_ = (x2_1.set (a3 : Int).toNat (wrap64 ((rd x2_1 a3) - 1))) := ⟨_, rfl⟩
        replace H : (some y281) = some r := by first | (rw [hy281]; with_reducible exact H) | (have H2_ := (Option.bind_some _ _).symm.trans H; rw [hy281]; with_reducible exact H2_) | (have H2_ := (Option.bind_some _ _).symm.trans H; with_reducible exact H2_) | with_reducible exact H | (rw [hy281]; exact H) | exact H
        have Ny281 := Aside0.mk hy281
        clear hy281
        obtain rfl := Option.some.inj H
        obtain ⟨hcz26_0, hcz26_1, hfz26_0, hfz26_1⟩ := zD2 BK271
        go_wp2_with (first | ((with_reducible refine gate_callee (f := 72) rfl ?_); refine zL (some 20) Try.func72 #[.agg #[.int .i64 a0_0, .slice A0_1 l0_1.length c0_1], .int .i64 a1, .slice (some ⟨go8, 0, none⟩) x2_1.length co11] ?_; (with_reducible refine (superstable_calm.calls k1 a0_0 _ _ l0_1 a1 _ _ x2_1 false _ ?side1 ?side2 ?side3 ?side4 A14.out).mono ?_); (case side1 => exact Kd.C_below HR0_1.out zB); (case side2 => exact HC0_1.out); (case side3 => exact zC (Kd.R_reads' HO_2.out).2.2); (case side4 => exact (Kd.R_reads' HO_2.out).2.1); rintro e w27 ⟨rfl, hb⟩; refine ⟨_, rfl, ?_⟩; replace HO_2 := zbR HO_2 hb; replace BK271 := zb BK271 hb; replace HB := zS HB hb; (try clear hb); have p280 : 0 ≤ (a3 : Int) := of_decide_eq_true ‹_›; have q280 : a3 < (x2_1.length : Int) := of_decide_eq_true ‹_›; obtain ⟨ad280, e280, hx280_0⟩ := Kd.at_int (Kd.R_reads' HO_2.out).2.2 a3 p280 q280; obtain rfl : (⟨go8, 0, none⟩ : Addr) = ad280 := (by injection e280); (first | simp only [add_plain] at hx280_0 | simp only [add_at] at hx280_0 | simp only [Addr.add, Nat.zero_add] at hx280_0 | skip); replace p280 := eq_true p280; replace q280 := eq_true q280; have p25 : 0 ≤ (a3 : Int) := of_decide_eq_true ‹_›; have q25 : (a3 : Int) < ((x2_1.length : Int) : Int) := of_decide_eq_true ‹_›; obtain ⟨hx25_0, hf25_0⟩ := Kd.R_celln 0 HO_2.out (a3 : Int) p25 q25; replace p25 := eq_true p25; replace q25 := eq_true q25; obtain ⟨hy28_, hz28_⟩ := Kd.R_celln 0 HO_2.out (a3 : Int) (of_decide_eq_true ‹_›) (of_decide_eq_true ‹_›); have HP28 := Kd.R_putg HO_2.out (a3 : Int) (wrap64 ((rd x2_1 a3) - 1))) | ((with_reducible refine gate_store (t := 3) (p := 32) rfl ?_); refine store_event (t := 3) (p := 32) (v := ?vo_w29) (w1 := (w27.setCell ⟨go8, (a3 : Int).toNat, none⟩ (.int .i64 (wrap64 ((rd x2_1 a3) - 1))))) ?hg ?ho ?hn ?hr ?_; (case ho => rfl); (case hg => rfl); (case hn => rfl); (case hr => first | (go_simp; done) | (go_simp; rfl)); intro w29 hw; have hg : w27.grownBy w29 (some go8) := (by rw [hw]; exact HP28.2); have hp_ : Kd.R (Kd.int .i64) 3 w29 w.heap.size (fun _ => True) (.slice (some ⟨go8, 0, none⟩) x2_1.length co11) y281 := (by rw [hw, Ny281.out]; exact HP28.1); clear HP28; replace BK271 := Aside0.mk (blk_grown (zK BK271) hg (Kd.R_ne HO_2.out BK271.out (by decide))); replace HO_2 := Aside0.mk (hp_); replace HB := Aside0.mk ((by rw [hw]; exact below_set (HB.out) GB8.out : Below w.heap.size w w29)); clear hg hw hp_))
        go_ret
        exact ⟨_, zE, by (with_reducible repeat (first | apply Kd.R_alloc | apply Kd.R_drewN | apply Kd.R_drew)); exact HO_2.out, zB⟩
       ·rw [if_neg c24] at H
        exact absurd H (by simp)
      ·rw [if_neg c23] at H
       exact absurd H (by simp)
  ·rw [if_neg c7] at H
   exact absurd H (by simp)
 ·rw [if_neg c6] at H
  exact absurd H (by simp)
end Go.Proofs.Ytffdiakgjakngaa.P
