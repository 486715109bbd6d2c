/- RowsWrites: for every input the law returns true, and the input reads behind the call as it read before. (Part 9 of 11.) -/
import Derived.Test.YtfcndhajcikgiaaKWrites8
set_option linter.unusedVariables false
set_option linter.unusedSimpArgs false
namespace Go.Proofs.Ytfcndhajcikgiaa.B
open Go.RowKit Go.Proofs.YtfcndhajcikgiaaW.PrintWords Go.Proofs.YtfcndhajcikgiaaW.PrintLast Go.Proofs.YtfcndhajcikgiaaW.PrintMore
def bonsairef13_May.l0 : Nat → List (S30) → Int → Option (Bool)
  | 0, _, _ => none
  | k + 1, x0, x3 => if x3 < (x0.length : Int) then (if 0 ≤ x3 then ((bonsairef13_One.f k ((rd_T30 x0 x3).f0.f0) ((rd_T30 x0 x3).f0.f1) ((rd_T30 x0 x3).f1) ((rd_T30 x0 x3).f2) ((rd_T30 x0 x3).f3) ((rd_T30 x0 x3).f4)).bind fun t192 => (if t192 = true then (if x3 > 0 then (if 0 ≤ (wrap64 (x3 - 1)) then (if (wrap64 (x3 - 1)) < (x0.length : Int) then ((bonsairef02_Before.f ((rd_T30 x0 (wrap64 (x3 - 1))).f0.f0) ((rd_T30 x0 (wrap64 (x3 - 1))).f0.f1) ((rd_T30 x0 x3).f0.f0) ((rd_T30 x0 x3).f0.f1)).bind fun t195 => (if t195 = true then (bonsairef13_May.l0 k x0 (wrap64 (x3 + 1))) else (some false))) else (none)) else (none)) else (bonsairef13_May.l0 k x0 (wrap64 (x3 + 1)))) else (some false))) else (none)) else (some true)
def bonsairef13_May.f (k : Nat) (l0 : List (S30)) : Option (Bool) := if (l0.length : Int) > 2000 then (some false) else (bonsairef13_May.l0 k l0 0)
theorem bonsairef13_May.mono_l : ∀ k, (∀ y0 y1, LeO (bonsairef13_May.l0 k y0 y1) (bonsairef13_May.l0 (k + 1) y0 y1))
  | 0 => fun _ _ r h => by simp [bonsairef13_May.l0] at h
  | k + 1 => by
    have ih0 := bonsairef13_May.mono_l k
    · intro y0 y1
      unfold bonsairef13_May.l0
      repeat' first
      | (with_reducible exact ih0 _ _)
      | (with_reducible exact bonsairef13_One.mono _ _ _ _ _ _ _)
      | (with_reducible exact LeO.refl _)
      | (with_reducible exact LeO.none _)
      | (with_reducible refine LeO.ite ?_ ?_)
      | (with_reducible refine LeO.bind ?_ (fun _ => ?_))
      | exact ih0 _ _
      | exact bonsairef13_One.mono _ _ _ _ _ _ _
      | exact LeO.none _
      | refine LeO.ite ?_ ?_
      | refine LeO.bind ?_ (fun _ => ?_)
theorem bonsairef13_May.mono : ∀ a0 k, LeO (bonsairef13_May.f k a0) (bonsairef13_May.f (k + 1) a0) := by
  intro a0 k
  have ih0 := bonsairef13_May.mono_l k
  unfold bonsairef13_May.f
  repeat' first
      | (with_reducible exact ih0 _ _)
      | (with_reducible exact bonsairef13_One.mono _ _ _ _ _ _ _)
      | (with_reducible exact LeO.refl _)
      | (with_reducible exact LeO.none _)
      | (with_reducible refine LeO.ite ?_ ?_)
      | (with_reducible refine LeO.bind ?_ (fun _ => ?_))
      | exact ih0 _ _
      | exact bonsairef13_One.mono _ _ _ _ _ _ _
      | exact LeO.none _
      | refine LeO.ite ?_ ?_
      | refine LeO.bind ?_ (fun _ => ?_)
def bonsairef13_May.T6 : Bool × List (List Nat × List Nat) := (true, [([], []), ([], []), ([0, 1], [0, 1]), ([2], [2]), ([3], [3]), ([4], [4]), ([5, 4], [5]), ([6], [6]), ([7, 6], [6, 7]), ([8, 6, 6], [6, 8]), ([9], [9]), ([9], [9]), ([11, 9], [9, 11]), ([10, 12, 9], [9, 10, 12]), ([13, 9], [9, 13]), ([14, 9], [9, 14]), ([9], [9]), ([9], [9]), ([16, 17, 9], [9, 16, 17]), ([18, 9], [9, 18]), ([19, 9], [9, 19]), ([15, 20, 9, 9], [9, 15, 20]), ([21, 9], [9, 21]), ([9, 22, 6], [6, 9, 22]), ([6, 23], [6, 23])])
def bonsairef13_May.B6 : List Nat := [0, 0, 3, 7, 15, 31, 63, 127, 255, 511, 1023, 1023, 3071, 8191, 16383, 32767, 1023, 1023, 197631, 459775, 984063, 2097151, 4194303, 8388607, 16777215]
theorem bonsairef13_May.tab6 : rtab .any (opsOf Try.f16 6) = bonsairef13_May.T6 := by kernel_rfl
theorem bonsairef13_May.bits6 : waitsOk bonsairef13_May.T6.2 bonsairef13_May.B6 = true := by kernel_rfl
set_option maxHeartbeats 8000000 in
set_option maxRecDepth 100000 in
theorem bonsairef13_May.calls (k : Nat) (A0 : Option Addr) (c0 : Nat) (l0 : List (S30)) (r : Bool) (w : World) (hr0 : Kd.C k30 w A0 l0.length l0) (hc0 : l0.length ≤ c0) (h : bonsairef13_May.f k l0 = some r) :
    Calls Try.prog 16 #[.slice A0 l0.length c0] w fun e w' => e = .returned (.bool r) ∧ Below w.heap.size w w' := by
  have hu30 := Try.underlying30
  have hu27 := Try.underlying27
  have HR0 := Aside0.mk hr0
  have HC0 := Aside0.mk hc0
  clear hr0 hc0
  have HB := Aside0.mk (Below.refl w.heap.size w)
  have H : (if (l0.length : Int) > 2000 then (some false) else (bonsairef13_May.l0 k l0 0)) = some r := h
  clear h
  by_cases c2 : (l0.length : Int) > 2000
  · rw [if_pos c2] at H
    have c2b0 : decide (2000 < (l0.length : Int)) = true := decide_eq_true c2
    have c2b1 : decide (2000 < l0.length) = true := decide_eq_true (by omega)
    clear c2
    obtain rfl := Option.some.inj H
    go_enter Try.func16, Try.ntmps16
    go_wp2
    go_ret
    exact ⟨by first | rfl | (simp [errW_none, errW_some] <;> rfl) | (simp [*, errW_none, errW_some] <;> rfl), by repeat (first | (with_reducible first | exact HB.out | apply below_alloc | apply pw_below_drewN | apply below_drew1) | exact HB.out)⟩
  · rw [if_neg c2] at H
    have c2b0 : decide (2000 < (l0.length : Int)) = false := decide_eq_false c2
    have c2b1 : decide (2000 < l0.length) = false := decide_eq_false (by omega)
    clear c2
    have H' := Aside0.mk H
    clear H
    go_enter Try.func16, Try.ntmps16
    go_wp2
    go_loopg [3] k (fun kq v3 w' => ∃ (x3_1 : Int), v3 = .int .i64 x3_1 ∧ Aside0 (bonsairef13_May.l0 kq l0 x3_1 = some r) ∧ Aside0 (kq ≤ k) ∧ Aside0 (Below w.heap.size w w'))
    case atStart => exact ⟨(0), (by first | rfl | (simp; done) | (simp [*]; done)), H', ⟨Nat.le_refl _⟩, ⟨by repeat (first | (with_reducible first | exact HB.out | apply below_alloc | apply pw_below_drewN | apply below_drew1) | exact HB.out)⟩⟩
    case round =>
      clear H'
      try clear c1
      try clear c2
      try clear c2b0
      try clear c2b1
      try clear p2
      obtain ⟨x3_1, rfl, HA, HK1, HB⟩ := hrel
      cases gk with
      | zero => exact absurd HA.out (by simp [bonsairef13_May.l0])
      | succ k1 =>
        have H := HA.out
        clear HA
        simp only [bonsairef13_May.l0] at H
        by_cases c3 : x3_1 < (l0.length : Int)
        · rw [if_pos c3] at H
          have c3b0 : decide (x3_1 < (l0.length : Int)) = true := decide_eq_true c3
          clear c3
          by_cases c4 : 0 ≤ x3_1
          · rw [if_pos c4] at H
            have c4b0 : decide (0 ≤ x3_1) = true := decide_eq_true c4
            clear c4
            replace H := Option.bind_eq_some_iff.mp H
            obtain ⟨t192, A50, H⟩ := H
            replace H : (if t192 = true then (if x3_1 > 0 then (if 0 ≤ (wrap64 (x3_1 - 1)) then (if (wrap64 (x3_1 - 1)) < (l0.length : Int) then ((bonsairef02_Before.f ((rd_T30 l0 (wrap64 (x3_1 - 1))).f0.f0) ((rd_T30 l0 (wrap64 (x3_1 - 1))).f0.f1) ((rd_T30 l0 x3_1).f0.f0) ((rd_T30 l0 x3_1).f0.f1)).bind fun t195 => (if t195 = true then (bonsairef13_May.l0 k1 l0 (wrap64 (x3_1 + 1))) else (some false))) else (none)) else (none)) else (bonsairef13_May.l0 k1 l0 (wrap64 (x3_1 + 1)))) else (some false)) = some r := H
            have A5 := Aside0.mk A50
            clear A50
            by_cases c6 : t192 = true
            · subst c6
              have H1 : (if x3_1 > 0 then (if 0 ≤ (wrap64 (x3_1 - 1)) then (if (wrap64 (x3_1 - 1)) < (l0.length : Int) then ((bonsairef02_Before.f ((rd_T30 l0 (wrap64 (x3_1 - 1))).f0.f0) ((rd_T30 l0 (wrap64 (x3_1 - 1))).f0.f1) ((rd_T30 l0 x3_1).f0.f0) ((rd_T30 l0 x3_1).f0.f1)).bind fun t195 => (if t195 = true then (bonsairef13_May.l0 k1 l0 (wrap64 (x3_1 + 1))) else (some false))) else (none)) else (none)) else (bonsairef13_May.l0 k1 l0 (wrap64 (x3_1 + 1)))) = some r := by rw [if_pos rfl] at H; exact H
              clear H
              have H := H1
              clear H1
              by_cases c7 : x3_1 > 0
              · rw [if_pos c7] at H
                have c7b0 : decide (0 < x3_1) = true := decide_eq_true c7
                clear c7
                obtain ⟨ji8, hji8⟩ : ∃ j_ : Int, (wrap64 (x3_1 - 1)) = j_ := ⟨_, rfl⟩
                replace H : (if 0 ≤ (ji8) then (if (ji8) < (l0.length : Int) then ((bonsairef02_Before.f ((rd_T30 l0 (ji8)).f0.f0) ((rd_T30 l0 (ji8)).f0.f1) ((rd_T30 l0 x3_1).f0.f0) ((rd_T30 l0 x3_1).f0.f1)).bind fun t195 => (if t195 = true then (bonsairef13_May.l0 k1 l0 (wrap64 (x3_1 + 1))) else (some false))) else (none)) else (none)) = some r := by first | (rw [hji8] at H; exact H) | (simp only [hji8] at H ⊢; exact H)
                (try rw [hji8] at A5)
                have hji8w : (IntKind.i64.wrap (x3_1 - 1)) = ji8 := (i64_w _).trans hji8
                by_cases c9 : 0 ≤ (ji8)
                · rw [if_pos c9] at H
                  have c9b0 : decide (0 ≤ (ji8)) = true := decide_eq_true c9
                  clear c9
                  by_cases c10 : (ji8) < (l0.length : Int)
                  · rw [if_pos c10] at H
                    have c10b0 : decide ((ji8) < (l0.length : Int)) = true := decide_eq_true c10
                    clear c10
                    replace H := Option.bind_eq_some_iff.mp H
                    obtain ⟨t195, A110, H⟩ := H
                    replace H : (if t195 = true then (bonsairef13_May.l0 k1 l0 (wrap64 (x3_1 + 1))) else (some false)) = some r := H
                    have A11 := Aside0.mk A110
                    clear A110
                    by_cases c12 : t195 = true
                    · subst c12
                      have H1 : (bonsairef13_May.l0 k1 l0 (wrap64 (x3_1 + 1))) = some r := by rw [if_pos rfl] at H; exact H
                      clear H
                      have H := H1
                      clear H1
                      have H' := Aside0.mk H
                      clear H
                      try go_wp2
                      have n0_ := Aside0.mk (below_drew1 HB.out)
                      clear HB
                      have HB := n0_
                      clear n0_
                      have p191 : 0 ≤ (x3_1 : Int) := of_decide_eq_true (by first | (with_reducible assumption) | assumption)
                      have q191 : x3_1 < (l0.length : Int) := of_decide_eq_true (by first | (with_reducible assumption) | assumption)
                      obtain ⟨ad191, e191, hx191_0, hx191_1, hx191_2, hx191_3, hx191_4, hx191_5⟩ := at_T30 HR0.out x3_1 p191 q191
                      have hw191_5 := hx191_5
                      have hw191_4 := hx191_4
                      have hw191_3 := hx191_3
                      have hw191_2 := hx191_2
                      have hw191_1 := hx191_1
                      have hw191_0 := hx191_0
                      cases e191
                      replace hx191_0 := (HB.out.cell (World.block_lt_of_cell? w _ hx191_0)).trans hx191_0
                      replace hx191_1 := (HB.out.cell (World.block_lt_of_cell? w _ hx191_1)).trans hx191_1
                      replace hx191_2 := (HB.out.cell (World.block_lt_of_cell? w _ hx191_2)).trans hx191_2
                      replace hx191_3 := (HB.out.cell (World.block_lt_of_cell? w _ hx191_3)).trans hx191_3
                      replace hx191_4 := (HB.out.cell (World.block_lt_of_cell? w _ hx191_4)).trans hx191_4
                      replace hx191_5 := (HB.out.cell (World.block_lt_of_cell? w _ hx191_5)).trans hx191_5
                      replace p191 := eq_true p191
                      replace q191 := eq_true q191
                      have p193 : 0 ≤ ((ji8) : Int) := of_decide_eq_true (by first | (with_reducible assumption) | assumption)
                      have q193 : (ji8) < (l0.length : Int) := of_decide_eq_true (by first | (with_reducible assumption) | assumption)
                      obtain ⟨ad193, e193, hx193_0, hx193_1, hx193_2, hx193_3, hx193_4, hx193_5⟩ := at_T30 HR0.out (ji8) p193 q193
                      have hw193_5 := hx193_5
                      have hw193_4 := hx193_4
                      have hw193_3 := hx193_3
                      have hw193_2 := hx193_2
                      have hw193_1 := hx193_1
                      have hw193_0 := hx193_0
                      obtain rfl : ad191 = ad193 := (by injection e193)
                      replace hx193_0 := (HB.out.cell (World.block_lt_of_cell? w _ hx193_0)).trans hx193_0
                      replace hx193_1 := (HB.out.cell (World.block_lt_of_cell? w _ hx193_1)).trans hx193_1
                      replace hx193_2 := (HB.out.cell (World.block_lt_of_cell? w _ hx193_2)).trans hx193_2
                      replace hx193_3 := (HB.out.cell (World.block_lt_of_cell? w _ hx193_3)).trans hx193_3
                      replace hx193_4 := (HB.out.cell (World.block_lt_of_cell? w _ hx193_4)).trans hx193_4
                      replace hx193_5 := (HB.out.cell (World.block_lt_of_cell? w _ hx193_5)).trans hx193_5
                      replace p193 := eq_true p193
                      replace q193 := eq_true q193
                      have p194 : 0 ≤ (x3_1 : Int) := of_decide_eq_true (by first | (with_reducible assumption) | assumption)
                      have q194 : x3_1 < (l0.length : Int) := of_decide_eq_true (by first | (with_reducible assumption) | assumption)
                      obtain ⟨ad194, e194, hx194_0, hx194_1, hx194_2, hx194_3, hx194_4, hx194_5⟩ := at_T30 HR0.out x3_1 p194 q194
                      have hw194_5 := hx194_5
                      have hw194_4 := hx194_4
                      have hw194_3 := hx194_3
                      have hw194_2 := hx194_2
                      have hw194_1 := hx194_1
                      have hw194_0 := hx194_0
                      obtain rfl : ad191 = ad194 := (by injection e194)
                      replace hx194_0 := (HB.out.cell (World.block_lt_of_cell? w _ hx194_0)).trans hx194_0
                      replace hx194_1 := (HB.out.cell (World.block_lt_of_cell? w _ hx194_1)).trans hx194_1
                      replace hx194_2 := (HB.out.cell (World.block_lt_of_cell? w _ hx194_2)).trans hx194_2
                      replace hx194_3 := (HB.out.cell (World.block_lt_of_cell? w _ hx194_3)).trans hx194_3
                      replace hx194_4 := (HB.out.cell (World.block_lt_of_cell? w _ hx194_4)).trans hx194_4
                      replace hx194_5 := (HB.out.cell (World.block_lt_of_cell? w _ hx194_5)).trans hx194_5
                      replace p194 := eq_true p194
                      replace q194 := eq_true q194
                      refine start_ (n := 25) (S := fun w' => w'.cell? (ad191.add ((x3_1).toNat * 6)) = some (.int .i64 ((rd_T30 l0 x3_1).f0.f0)) ∧ w'.cell? ⟨(ad191.add ((x3_1).toNat * 6)).block, (ad191.add ((x3_1).toNat * 6)).off + 1, none⟩ = some (.int .i64 ((rd_T30 l0 x3_1).f0.f1)) ∧ w'.cell? ⟨(ad191.add ((x3_1).toNat * 6)).block, (ad191.add ((x3_1).toNat * 6)).off + 2, none⟩ = some (.int .i64 ((rd_T30 l0 x3_1).f1)) ∧ w'.cell? ⟨(ad191.add ((x3_1).toNat * 6)).block, (ad191.add ((x3_1).toNat * 6)).off + 3, none⟩ = some (.int .i64 ((rd_T30 l0 x3_1).f2)) ∧ w'.cell? ⟨(ad191.add ((x3_1).toNat * 6)).block, (ad191.add ((x3_1).toNat * 6)).off + 4, none⟩ = some (.string ((rd_T30 l0 x3_1).f3)) ∧ w'.cell? ⟨(ad191.add ((x3_1).toNat * 6)).block, (ad191.add ((x3_1).toNat * 6)).off + 5, none⟩ = some (.float .f64 ((rd_T30 l0 x3_1).f4)) ∧ w'.cell? (ad191.add (((ji8)).toNat * 6)) = some (.int .i64 ((rd_T30 l0 (ji8)).f0.f0)) ∧ w'.cell? ⟨(ad191.add (((ji8)).toNat * 6)).block, (ad191.add (((ji8)).toNat * 6)).off + 1, none⟩ = some (.int .i64 ((rd_T30 l0 (ji8)).f0.f1)) ∧ w'.cell? ⟨(ad191.add (((ji8)).toNat * 6)).block, (ad191.add (((ji8)).toNat * 6)).off + 2, none⟩ = some (.int .i64 ((rd_T30 l0 (ji8)).f1)) ∧ w'.cell? ⟨(ad191.add (((ji8)).toNat * 6)).block, (ad191.add (((ji8)).toNat * 6)).off + 3, none⟩ = some (.int .i64 ((rd_T30 l0 (ji8)).f2)) ∧ w'.cell? ⟨(ad191.add (((ji8)).toNat * 6)).block, (ad191.add (((ji8)).toNat * 6)).off + 4, none⟩ = some (.string ((rd_T30 l0 (ji8)).f3)) ∧ w'.cell? ⟨(ad191.add (((ji8)).toNat * 6)).block, (ad191.add (((ji8)).toNat * 6)).off + 5, none⟩ = some (.float .f64 ((rd_T30 l0 (ji8)).f4)) ∧ w'.cell? (ad191.add ((x3_1).toNat * 6)) = some (.int .i64 ((rd_T30 l0 x3_1).f0.f0)) ∧ w'.cell? ⟨(ad191.add ((x3_1).toNat * 6)).block, (ad191.add ((x3_1).toNat * 6)).off + 1, none⟩ = some (.int .i64 ((rd_T30 l0 x3_1).f0.f1)) ∧ w'.cell? ⟨(ad191.add ((x3_1).toNat * 6)).block, (ad191.add ((x3_1).toNat * 6)).off + 2, none⟩ = some (.int .i64 ((rd_T30 l0 x3_1).f1)) ∧ w'.cell? ⟨(ad191.add ((x3_1).toNat * 6)).block, (ad191.add ((x3_1).toNat * 6)).off + 3, none⟩ = some (.int .i64 ((rd_T30 l0 x3_1).f2)) ∧ w'.cell? ⟨(ad191.add ((x3_1).toNat * 6)).block, (ad191.add ((x3_1).toNat * 6)).off + 4, none⟩ = some (.string ((rd_T30 l0 x3_1).f3)) ∧ w'.cell? ⟨(ad191.add ((x3_1).toNat * 6)).block, (ad191.add ((x3_1).toNat * 6)).off + 5, none⟩ = some (.float .f64 ((rd_T30 l0 x3_1).f4))) (ds := []) #[false, false, false, false, false, false, false, false, false, false, false, false, false, false, false, false, false, false, false, false, false, false, false, false, false] (by kernel_rfl) rfl rfl ⟨((HB.out.cell (World.block_lt_of_cell? w _ hw191_0)).trans hw191_0), ((HB.out.cell (World.block_lt_of_cell? w _ hw191_1)).trans hw191_1), ((HB.out.cell (World.block_lt_of_cell? w _ hw191_2)).trans hw191_2), ((HB.out.cell (World.block_lt_of_cell? w _ hw191_3)).trans hw191_3), ((HB.out.cell (World.block_lt_of_cell? w _ hw191_4)).trans hw191_4), ((HB.out.cell (World.block_lt_of_cell? w _ hw191_5)).trans hw191_5), ((HB.out.cell (World.block_lt_of_cell? w _ hw193_0)).trans hw193_0), ((HB.out.cell (World.block_lt_of_cell? w _ hw193_1)).trans hw193_1), ((HB.out.cell (World.block_lt_of_cell? w _ hw193_2)).trans hw193_2), ((HB.out.cell (World.block_lt_of_cell? w _ hw193_3)).trans hw193_3), ((HB.out.cell (World.block_lt_of_cell? w _ hw193_4)).trans hw193_4), ((HB.out.cell (World.block_lt_of_cell? w _ hw193_5)).trans hw193_5), ((HB.out.cell (World.block_lt_of_cell? w _ hw194_0)).trans hw194_0), ((HB.out.cell (World.block_lt_of_cell? w _ hw194_1)).trans hw194_1), ((HB.out.cell (World.block_lt_of_cell? w _ hw194_2)).trans hw194_2), ((HB.out.cell (World.block_lt_of_cell? w _ hw194_3)).trans hw194_3), ((HB.out.cell (World.block_lt_of_cell? w _ hw194_4)).trans hw194_4), ((HB.out.cell (World.block_lt_of_cell? w _ hw194_5)).trans hw194_5)⟩ (fun hHeld => ?_); refine with_tabW bonsairef13_May.tab6 bonsairef13_May.bits6 (fun HT_ HW_ => ?_)
                      generalize wr.drew = w13 at HB hx191_0 hx191_1 hx191_2 hx191_3 hx191_4 hx191_5 hx193_0 hx193_1 hx193_2 hx193_3 hx193_4 hx193_5 hx194_0 hx194_1 hx194_2 hx194_3 hx194_4 hx194_5 hHeld ⊢
                      refine pure_ (i := 0) (N := some 13) (v := ?_) (a' := ?_) #[true, false, false, false, false, false, false, false, false, false, false, false, false, false, false, false, false, false, false, false, false, false, false, false, false] rfl rfl (any_of HT_.out (by kernel_rfl)) (fun _ _ _ h => h) (Or.inl ⟨by rfl, ?_⟩) ?_ ?_
                      rotate_left
                      · intro w'
                        go_simp
                        with_reducible rfl
                      rotate_left
                      · simp only [Act.put, List.setIfInBounds_toArray, List.set_cons_zero, List.set_cons_succ, i64_w, i32_w]
                        rfl
                      refine pure_ (i := 1) (N := some 14) (v := ?_) (a' := ?_) #[true, true, false, false, false, false, false, false, false, false, false, false, false, false, false, false, false, false, false, false, false, false, false, false, false] rfl rfl (any_of HT_.out (by kernel_rfl)) (fun _ _ _ h => h) (Or.inl ⟨by rfl, ?_⟩) ?_ ?_
                      rotate_left
                      · intro w'
                        go_simp
                        with_reducible rfl
                      rotate_left
                      · simp only [Act.put, List.setIfInBounds_toArray, List.set_cons_zero, List.set_cons_succ, i64_w, i32_w]
                        rfl
                      refine pure_ (i := 2) (N := some 15) (v := ?_) (a' := ?_) #[true, true, true, false, false, false, false, false, false, false, false, false, false, false, false, false, false, false, false, false, false, false, false, false, false] rfl rfl (any_of HT_.out (by kernel_rfl)) (fun _ _ _ h => h) (Or.inl ⟨by rfl, ?_⟩) ?_ ?_
                      rotate_left
                      · intro w'
                        go_simp
                        with_reducible rfl
                      rotate_left
                      · simp only [Act.put, List.setIfInBounds_toArray, List.set_cons_zero, List.set_cons_succ, i64_w, i32_w]
                        rfl
                      refine take_ (i := 3) (N := some 16) (v := ?_) (a' := ?_) #[true, true, true, true, false, false, false, false, false, false, false, false, false, false, false, false, false, false, false, false, false, false, false, false, false] rfl rfl (take_ofW HT_.out HW_.out (by kernel_rfl)) (fun _ _ _ h => h) (Or.inl ⟨by rfl, ?_⟩) hHeld ?_ ?_
                      rotate_left
                      · rintro w' ⟨s0, s1, s2, s3, s4, s5, s6, s7, s8, s9, s10, s11, s12, s13, s14, s15, s16, s17⟩
                        go_simp
                        with_reducible rfl
                      rotate_left
                      · simp only [Act.put, List.setIfInBounds_toArray, List.set_cons_zero, List.set_cons_succ, i64_w, i32_w]
                        rfl
                      refine one_ (i := 4) (N := some 17) #[true, true, true, true, true, false, false, false, false, false, false, false, false, false, false, false, false, false, false, false, false, false, false, false, false] rfl rfl (one_of HT_.out (by kernel_rfl)) (by decide) (fun K hK => ?_)
                      refine goes_ Try.func41 (by kernel_rfl) rfl #[.agg #[.int .i64 ((rd_T30 l0 x3_1).f0.f0), .int .i64 ((rd_T30 l0 x3_1).f0.f1), .int .i64 ((rd_T30 l0 x3_1).f1), .int .i64 ((rd_T30 l0 x3_1).f2), .string ((rd_T30 l0 x3_1).f3), .float .f64 ((rd_T30 l0 x3_1).f4)]] (by rfl) rfl rfl (by (try simp only [List.map_toArray, List.map_cons, List.map_nil]); first | done | rfl | (simp only [List.length_drop, List.length_take]; rfl)) ?_
                      with_reducible refine (bonsairef13_One.calls k1 ((rd_T30 l0 x3_1).f0.f0) ((rd_T30 l0 x3_1).f0.f1) ((rd_T30 l0 x3_1).f1) ((rd_T30 l0 x3_1).f2) ((rd_T30 l0 x3_1).f3) ((rd_T30 l0 x3_1).f4) true _ A5.out).mono ?_
                      rintro e w14 ⟨rfl, hb⟩
                      refine ⟨_, rfl, ?_⟩
                      have n0_ := Aside0.mk (below_step (by repeat (first | (with_reducible first | exact HB.out | apply below_alloc | apply pw_below_drewN | apply below_drew1) | exact HB.out)) hb)
                      clear HB
                      have HB := n0_
                      clear n0_
                      (try clear hb)
                      (try clear hb2)
                      (try clear hk)
                      (try clear hi)
                      refine hK.out _ _ ⟨((HB.out.cell (World.block_lt_of_cell? w _ hw191_0)).trans hw191_0), ((HB.out.cell (World.block_lt_of_cell? w _ hw191_1)).trans hw191_1), ((HB.out.cell (World.block_lt_of_cell? w _ hw191_2)).trans hw191_2), ((HB.out.cell (World.block_lt_of_cell? w _ hw191_3)).trans hw191_3), ((HB.out.cell (World.block_lt_of_cell? w _ hw191_4)).trans hw191_4), ((HB.out.cell (World.block_lt_of_cell? w _ hw191_5)).trans hw191_5), ((HB.out.cell (World.block_lt_of_cell? w _ hw193_0)).trans hw193_0), ((HB.out.cell (World.block_lt_of_cell? w _ hw193_1)).trans hw193_1), ((HB.out.cell (World.block_lt_of_cell? w _ hw193_2)).trans hw193_2), ((HB.out.cell (World.block_lt_of_cell? w _ hw193_3)).trans hw193_3), ((HB.out.cell (World.block_lt_of_cell? w _ hw193_4)).trans hw193_4), ((HB.out.cell (World.block_lt_of_cell? w _ hw193_5)).trans hw193_5), ((HB.out.cell (World.block_lt_of_cell? w _ hw194_0)).trans hw194_0), ((HB.out.cell (World.block_lt_of_cell? w _ hw194_1)).trans hw194_1), ((HB.out.cell (World.block_lt_of_cell? w _ hw194_2)).trans hw194_2), ((HB.out.cell (World.block_lt_of_cell? w _ hw194_3)).trans hw194_3), ((HB.out.cell (World.block_lt_of_cell? w _ hw194_4)).trans hw194_4), ((HB.out.cell (World.block_lt_of_cell? w _ hw194_5)).trans hw194_5)⟩ (fun hHeld => ?_)
                      clear hK K
                      refine norm_ (a' := ?_) ?_ ?_
                      rotate_left
                      · show Act.put _ (some 17) _ = _
                        simp only [Act.put, List.setIfInBounds_toArray, List.set_cons_zero, List.set_cons_succ, i64_w, i32_w]
                        rfl
                      refine pure_ (i := 5) (N := some 18) (v := ?_) (a' := ?_) #[true, true, true, true, true, true, false, false, false, false, false, false, false, false, false, false, false, false, false, false, false, false, false, false, false] rfl rfl (any_of HT_.out (by kernel_rfl)) (fun _ _ _ h => h) (Or.inl ⟨by rfl, ?_⟩) ?_ ?_
                      rotate_left
                      · intro w'
                        go_simp
                        with_reducible rfl
                      rotate_left
                      · simp only [Act.put, List.setIfInBounds_toArray, List.set_cons_zero, List.set_cons_succ, i64_w, i32_w]
                        rfl
                      refine pure_ (i := 6) (N := some 19) (v := ?_) (a' := ?_) #[true, true, true, true, true, true, true, false, false, false, false, false, false, false, false, false, false, false, false, false, false, false, false, false, false] rfl rfl (any_of HT_.out (by kernel_rfl)) (fun _ _ _ h => h) (Or.inl ⟨by rfl, ?_⟩) ?_ ?_
                      rotate_left
                      · intro w'
                        go_simp
                        with_reducible rfl
                      rotate_left
                      · simp only [Act.put, List.setIfInBounds_toArray, List.set_cons_zero, List.set_cons_succ, i64_w, i32_w]
                        rfl
                      refine pure_ (i := 7) (N := some 20) (v := ?_) (a' := ?_) #[true, true, true, true, true, true, true, true, false, false, false, false, false, false, false, false, false, false, false, false, false, false, false, false, false] rfl rfl (any_of HT_.out (by kernel_rfl)) (fun _ _ _ h => h) (Or.inl ⟨by rfl, ?_⟩) ?_ ?_
                      rotate_left
                      · intro w'
                        go_simp
                        with_reducible rfl
                      rotate_left
                      · simp only [Act.put, List.setIfInBounds_toArray, List.set_cons_zero, List.set_cons_succ, i64_w, i32_w]
                        rfl
                      refine pure_ (i := 8) (N := some 21) (v := ?_) (a' := ?_) #[true, true, true, true, true, true, true, true, true, false, false, false, false, false, false, false, false, false, false, false, false, false, false, false, false] rfl rfl (any_of HT_.out (by kernel_rfl)) (fun _ _ _ h => h) (Or.inl ⟨by rfl, ?_⟩) ?_ ?_
                      rotate_left
                      · intro w'
                        go_simp
                        with_reducible rfl
                      rotate_left
                      · simp only [Act.put, List.setIfInBounds_toArray, List.set_cons_zero, List.set_cons_succ, i64_w, i32_w]
                        rfl
                      refine pure_ (i := 9) (N := some 22) (v := ?_) (a' := ?_) #[true, true, true, true, true, true, true, true, true, true, false, false, false, false, false, false, false, false, false, false, false, false, false, false, false] rfl rfl (any_of HT_.out (by kernel_rfl)) (fun _ _ _ h => h) (Or.inl ⟨by rfl, ?_⟩) ?_ ?_
                      rotate_left
                      · intro w'
                        go_simp
                        with_reducible rfl
                      rotate_left
                      · simp only [Act.put, List.setIfInBounds_toArray, List.set_cons_zero, List.set_cons_succ, i64_w, i32_w]
                        rfl
                      refine pure_ (i := 10) (N := some 23) (v := ?_) (a' := ?_) #[true, true, true, true, true, true, true, true, true, true, true, false, false, false, false, false, false, false, false, false, false, false, false, false, false] rfl rfl (any_of HT_.out (by kernel_rfl)) (fun _ _ _ h => h) (Or.inl ⟨by rfl, ?_⟩) ?_ ?_
                      rotate_left
                      · intro w'
                        go_simp
                        with_reducible rfl
                      rotate_left
                      · simp only [Act.put, List.setIfInBounds_toArray, List.set_cons_zero, List.set_cons_succ, i64_w, i32_w]
                        rfl
                      refine pure_ (i := 11) (N := some 24) (v := ?_) (a' := ?_) #[true, true, true, true, true, true, true, true, true, true, true, true, false, false, false, false, false, false, false, false, false, false, false, false, false] rfl rfl (any_of HT_.out (by kernel_rfl)) (fun _ _ _ h => h) (Or.inl ⟨by rfl, ?_⟩) ?_ ?_
                      rotate_left
                      · intro w'
                        go_simp
                        with_reducible rfl
                      rotate_left
                      · simp only [Act.put, List.setIfInBounds_toArray, List.set_cons_zero, List.set_cons_succ, i64_w, i32_w]
                        rfl
                      refine pure_ (i := 12) (N := some 25) (v := ?_) (a' := ?_) #[true, true, true, true, true, true, true, true, true, true, true, true, true, false, false, false, false, false, false, false, false, false, false, false, false] rfl rfl (any_of HT_.out (by kernel_rfl)) (fun _ _ _ h => h) (Or.inl ⟨by rfl, ?_⟩) ?_ ?_
                      rotate_left
                      · intro w'
                        go_simp
                        with_reducible rfl
                      rotate_left
                      · simp only [Act.put, List.setIfInBounds_toArray, List.set_cons_zero, List.set_cons_succ, i64_w, i32_w]
                        rfl
                      refine pure_ (i := 13) (N := some 26) (v := ?_) (a' := ?_) #[true, true, true, true, true, true, true, true, true, true, true, true, true, true, false, false, false, false, false, false, false, false, false, false, false] rfl rfl (any_of HT_.out (by kernel_rfl)) (fun _ _ _ h => h) (Or.inl ⟨by rfl, ?_⟩) ?_ ?_
                      rotate_left
                      · intro w'
                        go_simp
                        with_reducible rfl
                      rotate_left
                      · simp only [Act.put, List.setIfInBounds_toArray, List.set_cons_zero, List.set_cons_succ, i64_w, i32_w]
                        rfl
                      refine pure_ (i := 14) (N := some 27) (v := ?_) (a' := ?_) #[true, true, true, true, true, true, true, true, true, true, true, true, true, true, true, false, false, false, false, false, false, false, false, false, false] rfl rfl (any_of HT_.out (by kernel_rfl)) (fun _ _ _ h => h) (Or.inl ⟨by rfl, ?_⟩) ?_ ?_
                      rotate_left
                      · intro w'
                        go_simp
                        with_reducible rfl
                      rotate_left
                      · simp only [Act.put, List.setIfInBounds_toArray, List.set_cons_zero, List.set_cons_succ, i64_w, i32_w]
                        rfl
                      refine pure_ (i := 16) (N := some 29) (v := ?_) (a' := ?_) #[true, true, true, true, true, true, true, true, true, true, true, true, true, true, true, false, true, false, false, false, false, false, false, false, false] rfl rfl (any_of HT_.out (by kernel_rfl)) (fun _ _ _ h => h) (Or.inl ⟨by rfl, ?_⟩) ?_ ?_
                      rotate_left
                      · intro w'
                        go_simp
                        with_reducible rfl
                      rotate_left
                      · simp only [Act.put, List.setIfInBounds_toArray, List.set_cons_zero, List.set_cons_succ, i64_w, i32_w]
                        rfl
                      refine pure_ (i := 17) (N := some 30) (v := ?_) (a' := ?_) #[true, true, true, true, true, true, true, true, true, true, true, true, true, true, true, false, true, true, false, false, false, false, false, false, false] rfl rfl (any_of HT_.out (by kernel_rfl)) (fun _ _ _ h => h) (Or.inl ⟨by rfl, ?_⟩) ?_ ?_
                      rotate_left
                      · intro w'
                        go_simp
                        with_reducible rfl
                      rotate_left
                      · simp only [Act.put, List.setIfInBounds_toArray, List.set_cons_zero, List.set_cons_succ, i64_w, i32_w]
                        rfl
                      refine pure_ (i := 18) (N := some 31) (v := ?_) (a' := ?_) #[true, true, true, true, true, true, true, true, true, true, true, true, true, true, true, false, true, true, true, false, false, false, false, false, false] rfl rfl (any_of HT_.out (by kernel_rfl)) (fun _ _ _ h => h) (Or.inl ⟨by rfl, ?_⟩) ?_ ?_
                      rotate_left
                      · intro w'
                        go_simp
                        with_reducible rfl
                      rotate_left
                      · simp only [Act.put, List.setIfInBounds_toArray, List.set_cons_zero, List.set_cons_succ, i64_w, i32_w]
                        rfl
                      refine pure_ (i := 19) (N := some 32) (v := ?_) (a' := ?_) #[true, true, true, true, true, true, true, true, true, true, true, true, true, true, true, false, true, true, true, true, false, false, false, false, false] rfl rfl (any_of HT_.out (by kernel_rfl)) (fun _ _ _ h => h) (Or.inl ⟨by rfl, ?_⟩) ?_ ?_
                      rotate_left
                      · intro w'
                        go_simp
                        with_reducible rfl
                      rotate_left
                      · simp only [Act.put, List.setIfInBounds_toArray, List.set_cons_zero, List.set_cons_succ, i64_w, i32_w]
                        rfl
                      refine take_ (i := 15) (N := some 28) (v := ?_) (a' := ?_) #[true, true, true, true, true, true, true, true, true, true, true, true, true, true, true, true, true, true, true, true, false, false, false, false, false] rfl rfl (take_ofW HT_.out HW_.out (by kernel_rfl)) (fun _ _ _ h => h) (Or.inl ⟨by rfl, ?_⟩) hHeld ?_ ?_
                      rotate_left
                      · rintro w' ⟨s0, s1, s2, s3, s4, s5, s6, s7, s8, s9, s10, s11, s12, s13, s14, s15, s16, s17⟩
                        go_simp
                        with_reducible rfl
                      rotate_left
                      · simp only [Act.put, List.setIfInBounds_toArray, List.set_cons_zero, List.set_cons_succ, i64_w, i32_w]
                        rfl
                      refine take_ (i := 20) (N := some 33) (v := ?_) (a' := ?_) #[true, true, true, true, true, true, true, true, true, true, true, true, true, true, true, true, true, true, true, true, true, false, false, false, false] rfl rfl (take_ofW HT_.out HW_.out (by kernel_rfl)) (fun _ _ _ h => h) (Or.inl ⟨by rfl, ?_⟩) hHeld ?_ ?_
                      rotate_left
                      · rintro w' ⟨s0, s1, s2, s3, s4, s5, s6, s7, s8, s9, s10, s11, s12, s13, s14, s15, s16, s17⟩
                        go_simp
                        with_reducible rfl
                      rotate_left
                      · simp only [Act.put, List.setIfInBounds_toArray, List.set_cons_zero, List.set_cons_succ, i64_w, i32_w]
                        rfl
                      refine one_ (i := 21) (N := some 34) #[true, true, true, true, true, true, true, true, true, true, true, true, true, true, true, true, true, true, true, true, true, true, false, false, false] rfl rfl (one_of HT_.out (by kernel_rfl)) (by decide) (fun K hK => ?_)
                      refine goes_ Try.func42 (by kernel_rfl) rfl #[.agg #[.int .i64 ((rd_T30 l0 (ji8)).f0.f0), .int .i64 ((rd_T30 l0 (ji8)).f0.f1)], .agg #[.int .i64 ((rd_T30 l0 x3_1).f0.f0), .int .i64 ((rd_T30 l0 x3_1).f0.f1)]] (by rfl) rfl rfl (by (try simp only [List.map_toArray, List.map_cons, List.map_nil]); first | done | (simp only [hji8]; rfl) | rfl | (simp only [List.length_drop, List.length_take]; rfl)) ?_
                      with_reducible refine (bonsairef02_Before.calls ((rd_T30 l0 (ji8)).f0.f0) ((rd_T30 l0 (ji8)).f0.f1) ((rd_T30 l0 x3_1).f0.f0) ((rd_T30 l0 x3_1).f0.f1) true _ A11.out).mono ?_
                      rintro e w15 ⟨rfl, hb⟩
                      refine ⟨_, rfl, ?_⟩
                      have n0_ := Aside0.mk (below_step (by repeat (first | (with_reducible first | exact HB.out | apply below_alloc | apply pw_below_drewN | apply below_drew1) | exact HB.out)) hb)
                      clear HB
                      have HB := n0_
                      clear n0_
                      (try clear hb)
                      (try clear hb2)
                      (try clear hk)
                      (try clear hi)
                      refine hK.out _ _ ⟨((HB.out.cell (World.block_lt_of_cell? w _ hw191_0)).trans hw191_0), ((HB.out.cell (World.block_lt_of_cell? w _ hw191_1)).trans hw191_1), ((HB.out.cell (World.block_lt_of_cell? w _ hw191_2)).trans hw191_2), ((HB.out.cell (World.block_lt_of_cell? w _ hw191_3)).trans hw191_3), ((HB.out.cell (World.block_lt_of_cell? w _ hw191_4)).trans hw191_4), ((HB.out.cell (World.block_lt_of_cell? w _ hw191_5)).trans hw191_5), ((HB.out.cell (World.block_lt_of_cell? w _ hw193_0)).trans hw193_0), ((HB.out.cell (World.block_lt_of_cell? w _ hw193_1)).trans hw193_1), ((HB.out.cell (World.block_lt_of_cell? w _ hw193_2)).trans hw193_2), ((HB.out.cell (World.block_lt_of_cell? w _ hw193_3)).trans hw193_3), ((HB.out.cell (World.block_lt_of_cell? w _ hw193_4)).trans hw193_4), ((HB.out.cell (World.block_lt_of_cell? w _ hw193_5)).trans hw193_5), ((HB.out.cell (World.block_lt_of_cell? w _ hw194_0)).trans hw194_0), ((HB.out.cell (World.block_lt_of_cell? w _ hw194_1)).trans hw194_1), ((HB.out.cell (World.block_lt_of_cell? w _ hw194_2)).trans hw194_2), ((HB.out.cell (World.block_lt_of_cell? w _ hw194_3)).trans hw194_3), ((HB.out.cell (World.block_lt_of_cell? w _ hw194_4)).trans hw194_4), ((HB.out.cell (World.block_lt_of_cell? w _ hw194_5)).trans hw194_5)⟩ (fun hHeld => ?_)
                      clear hK K
                      refine norm_ (a' := ?_) ?_ ?_
                      rotate_left
                      · show Act.put _ (some 34) _ = _
                        simp only [Act.put, List.setIfInBounds_toArray, List.set_cons_zero, List.set_cons_succ, i64_w, i32_w]
                        rfl
                      refine pure_ (i := 22) (N := some 35) (v := ?_) (a' := ?_) #[true, true, true, true, true, true, true, true, true, true, true, true, true, true, true, true, true, true, true, true, true, true, true, false, false] rfl rfl (any_of HT_.out (by kernel_rfl)) (fun _ _ _ h => h) (Or.inl ⟨by rfl, ?_⟩) ?_ ?_
                      rotate_left
                      · intro w'
                        go_simp
                        with_reducible rfl
                      rotate_left
                      · simp only [Act.put, List.setIfInBounds_toArray, List.set_cons_zero, List.set_cons_succ, i64_w, i32_w]
                        rfl
                      refine pure_ (i := 23) (N := some 36) (v := ?_) (a' := ?_) #[true, true, true, true, true, true, true, true, true, true, true, true, true, true, true, true, true, true, true, true, true, true, true, true, false] rfl rfl (any_of HT_.out (by kernel_rfl)) (fun _ _ _ h => h) (Or.inl ⟨by rfl, ?_⟩) ?_ ?_
                      rotate_left
                      · intro w'
                        go_simp
                        with_reducible rfl
                      rotate_left
                      · simp only [Act.put, List.setIfInBounds_toArray, List.set_cons_zero, List.set_cons_succ, i64_w, i32_w]
                        rfl
                      refine pure_ (i := 24) (N := some 37) (v := ?_) (a' := ?_) #[true, true, true, true, true, true, true, true, true, true, true, true, true, true, true, true, true, true, true, true, true, true, true, true, true] rfl rfl (any_of HT_.out (by kernel_rfl)) (fun _ _ _ h => h) (Or.inl ⟨by rfl, ?_⟩) ?_ ?_
                      rotate_left
                      · intro w'
                        go_simp
                        with_reducible rfl
                      rotate_left
                      · simp only [Act.put, List.setIfInBounds_toArray, List.set_cons_zero, List.set_cons_succ, i64_w, i32_w]
                        rfl
                      refine done_ (done_of HT_.out (by kernel_rfl)) ?_
                      try go_wp2
                      go_roundg k1
                      case measure => have := HK1.out; omega
                      case rel => exact ⟨(wrap64 (x3_1 + 1)), (by first | rfl | (simp; done) | (simp [*]; done)), H', ⟨by have := HK1.out; omega⟩, ⟨by repeat (first | (with_reducible first | exact HB.out | apply below_alloc | apply pw_below_drewN | apply below_drew1) | exact HB.out)⟩⟩
                    · replace c12 := Bool.eq_false_iff.mpr c12
                      subst c12
                      have H1 : (some false) = some r := by rw [if_neg (show ¬ (false = true) by decide)] at H; exact H
                      clear H
                      have H := H1
                      clear H1
                      obtain rfl := Option.some.inj H
                      try go_wp2
                      have n0_ := Aside0.mk (below_drew1 HB.out)
                      clear HB
                      have HB := n0_
                      clear n0_
                      have p191 : 0 ≤ (x3_1 : Int) := of_decide_eq_true (by first | (with_reducible assumption) | assumption)
                      have q191 : x3_1 < (l0.length : Int) := of_decide_eq_true (by first | (with_reducible assumption) | assumption)
                      obtain ⟨ad191, e191, hx191_0, hx191_1, hx191_2, hx191_3, hx191_4, hx191_5⟩ := at_T30 HR0.out x3_1 p191 q191
                      have hw191_5 := hx191_5
                      have hw191_4 := hx191_4
                      have hw191_3 := hx191_3
                      have hw191_2 := hx191_2
                      have hw191_1 := hx191_1
                      have hw191_0 := hx191_0
                      cases e191
                      replace hx191_0 := (HB.out.cell (World.block_lt_of_cell? w _ hx191_0)).trans hx191_0
                      replace hx191_1 := (HB.out.cell (World.block_lt_of_cell? w _ hx191_1)).trans hx191_1
                      replace hx191_2 := (HB.out.cell (World.block_lt_of_cell? w _ hx191_2)).trans hx191_2
                      replace hx191_3 := (HB.out.cell (World.block_lt_of_cell? w _ hx191_3)).trans hx191_3
                      replace hx191_4 := (HB.out.cell (World.block_lt_of_cell? w _ hx191_4)).trans hx191_4
                      replace hx191_5 := (HB.out.cell (World.block_lt_of_cell? w _ hx191_5)).trans hx191_5
                      replace p191 := eq_true p191
                      replace q191 := eq_true q191
                      have p193 : 0 ≤ ((ji8) : Int) := of_decide_eq_true (by first | (with_reducible assumption) | assumption)
                      have q193 : (ji8) < (l0.length : Int) := of_decide_eq_true (by first | (with_reducible assumption) | assumption)
                      obtain ⟨ad193, e193, hx193_0, hx193_1, hx193_2, hx193_3, hx193_4, hx193_5⟩ := at_T30 HR0.out (ji8) p193 q193
                      have hw193_5 := hx193_5
                      have hw193_4 := hx193_4
                      have hw193_3 := hx193_3
                      have hw193_2 := hx193_2
                      have hw193_1 := hx193_1
                      have hw193_0 := hx193_0
                      obtain rfl : ad191 = ad193 := (by injection e193)
                      replace hx193_0 := (HB.out.cell (World.block_lt_of_cell? w _ hx193_0)).trans hx193_0
                      replace hx193_1 := (HB.out.cell (World.block_lt_of_cell? w _ hx193_1)).trans hx193_1
                      replace hx193_2 := (HB.out.cell (World.block_lt_of_cell? w _ hx193_2)).trans hx193_2
                      replace hx193_3 := (HB.out.cell (World.block_lt_of_cell? w _ hx193_3)).trans hx193_3
                      replace hx193_4 := (HB.out.cell (World.block_lt_of_cell? w _ hx193_4)).trans hx193_4
                      replace hx193_5 := (HB.out.cell (World.block_lt_of_cell? w _ hx193_5)).trans hx193_5
                      replace p193 := eq_true p193
                      replace q193 := eq_true q193
                      have p194 : 0 ≤ (x3_1 : Int) := of_decide_eq_true (by first | (with_reducible assumption) | assumption)
                      have q194 : x3_1 < (l0.length : Int) := of_decide_eq_true (by first | (with_reducible assumption) | assumption)
                      obtain ⟨ad194, e194, hx194_0, hx194_1, hx194_2, hx194_3, hx194_4, hx194_5⟩ := at_T30 HR0.out x3_1 p194 q194
                      have hw194_5 := hx194_5
                      have hw194_4 := hx194_4
                      have hw194_3 := hx194_3
                      have hw194_2 := hx194_2
                      have hw194_1 := hx194_1
                      have hw194_0 := hx194_0
                      obtain rfl : ad191 = ad194 := (by injection e194)
                      replace hx194_0 := (HB.out.cell (World.block_lt_of_cell? w _ hx194_0)).trans hx194_0
                      replace hx194_1 := (HB.out.cell (World.block_lt_of_cell? w _ hx194_1)).trans hx194_1
                      replace hx194_2 := (HB.out.cell (World.block_lt_of_cell? w _ hx194_2)).trans hx194_2
                      replace hx194_3 := (HB.out.cell (World.block_lt_of_cell? w _ hx194_3)).trans hx194_3
                      replace hx194_4 := (HB.out.cell (World.block_lt_of_cell? w _ hx194_4)).trans hx194_4
                      replace hx194_5 := (HB.out.cell (World.block_lt_of_cell? w _ hx194_5)).trans hx194_5
                      replace p194 := eq_true p194
                      replace q194 := eq_true q194
                      refine start_ (n := 25) (S := fun w' => w'.cell? (ad191.add ((x3_1).toNat * 6)) = some (.int .i64 ((rd_T30 l0 x3_1).f0.f0)) ∧ w'.cell? ⟨(ad191.add ((x3_1).toNat * 6)).block, (ad191.add ((x3_1).toNat * 6)).off + 1, none⟩ = some (.int .i64 ((rd_T30 l0 x3_1).f0.f1)) ∧ w'.cell? ⟨(ad191.add ((x3_1).toNat * 6)).block, (ad191.add ((x3_1).toNat * 6)).off + 2, none⟩ = some (.int .i64 ((rd_T30 l0 x3_1).f1)) ∧ w'.cell? ⟨(ad191.add ((x3_1).toNat * 6)).block, (ad191.add ((x3_1).toNat * 6)).off + 3, none⟩ = some (.int .i64 ((rd_T30 l0 x3_1).f2)) ∧ w'.cell? ⟨(ad191.add ((x3_1).toNat * 6)).block, (ad191.add ((x3_1).toNat * 6)).off + 4, none⟩ = some (.string ((rd_T30 l0 x3_1).f3)) ∧ w'.cell? ⟨(ad191.add ((x3_1).toNat * 6)).block, (ad191.add ((x3_1).toNat * 6)).off + 5, none⟩ = some (.float .f64 ((rd_T30 l0 x3_1).f4)) ∧ w'.cell? (ad191.add (((ji8)).toNat * 6)) = some (.int .i64 ((rd_T30 l0 (ji8)).f0.f0)) ∧ w'.cell? ⟨(ad191.add (((ji8)).toNat * 6)).block, (ad191.add (((ji8)).toNat * 6)).off + 1, none⟩ = some (.int .i64 ((rd_T30 l0 (ji8)).f0.f1)) ∧ w'.cell? ⟨(ad191.add (((ji8)).toNat * 6)).block, (ad191.add (((ji8)).toNat * 6)).off + 2, none⟩ = some (.int .i64 ((rd_T30 l0 (ji8)).f1)) ∧ w'.cell? ⟨(ad191.add (((ji8)).toNat * 6)).block, (ad191.add (((ji8)).toNat * 6)).off + 3, none⟩ = some (.int .i64 ((rd_T30 l0 (ji8)).f2)) ∧ w'.cell? ⟨(ad191.add (((ji8)).toNat * 6)).block, (ad191.add (((ji8)).toNat * 6)).off + 4, none⟩ = some (.string ((rd_T30 l0 (ji8)).f3)) ∧ w'.cell? ⟨(ad191.add (((ji8)).toNat * 6)).block, (ad191.add (((ji8)).toNat * 6)).off + 5, none⟩ = some (.float .f64 ((rd_T30 l0 (ji8)).f4)) ∧ w'.cell? (ad191.add ((x3_1).toNat * 6)) = some (.int .i64 ((rd_T30 l0 x3_1).f0.f0)) ∧ w'.cell? ⟨(ad191.add ((x3_1).toNat * 6)).block, (ad191.add ((x3_1).toNat * 6)).off + 1, none⟩ = some (.int .i64 ((rd_T30 l0 x3_1).f0.f1)) ∧ w'.cell? ⟨(ad191.add ((x3_1).toNat * 6)).block, (ad191.add ((x3_1).toNat * 6)).off + 2, none⟩ = some (.int .i64 ((rd_T30 l0 x3_1).f1)) ∧ w'.cell? ⟨(ad191.add ((x3_1).toNat * 6)).block, (ad191.add ((x3_1).toNat * 6)).off + 3, none⟩ = some (.int .i64 ((rd_T30 l0 x3_1).f2)) ∧ w'.cell? ⟨(ad191.add ((x3_1).toNat * 6)).block, (ad191.add ((x3_1).toNat * 6)).off + 4, none⟩ = some (.string ((rd_T30 l0 x3_1).f3)) ∧ w'.cell? ⟨(ad191.add ((x3_1).toNat * 6)).block, (ad191.add ((x3_1).toNat * 6)).off + 5, none⟩ = some (.float .f64 ((rd_T30 l0 x3_1).f4))) (ds := []) #[false, false, false, false, false, false, false, false, false, false, false, false, false, false, false, false, false, false, false, false, false, false, false, false, false] (by kernel_rfl) rfl rfl ⟨((HB.out.cell (World.block_lt_of_cell? w _ hw191_0)).trans hw191_0), ((HB.out.cell (World.block_lt_of_cell? w _ hw191_1)).trans hw191_1), ((HB.out.cell (World.block_lt_of_cell? w _ hw191_2)).trans hw191_2), ((HB.out.cell (World.block_lt_of_cell? w _ hw191_3)).trans hw191_3), ((HB.out.cell (World.block_lt_of_cell? w _ hw191_4)).trans hw191_4), ((HB.out.cell (World.block_lt_of_cell? w _ hw191_5)).trans hw191_5), ((HB.out.cell (World.block_lt_of_cell? w _ hw193_0)).trans hw193_0), ((HB.out.cell (World.block_lt_of_cell? w _ hw193_1)).trans hw193_1), ((HB.out.cell (World.block_lt_of_cell? w _ hw193_2)).trans hw193_2), ((HB.out.cell (World.block_lt_of_cell? w _ hw193_3)).trans hw193_3), ((HB.out.cell (World.block_lt_of_cell? w _ hw193_4)).trans hw193_4), ((HB.out.cell (World.block_lt_of_cell? w _ hw193_5)).trans hw193_5), ((HB.out.cell (World.block_lt_of_cell? w _ hw194_0)).trans hw194_0), ((HB.out.cell (World.block_lt_of_cell? w _ hw194_1)).trans hw194_1), ((HB.out.cell (World.block_lt_of_cell? w _ hw194_2)).trans hw194_2), ((HB.out.cell (World.block_lt_of_cell? w _ hw194_3)).trans hw194_3), ((HB.out.cell (World.block_lt_of_cell? w _ hw194_4)).trans hw194_4), ((HB.out.cell (World.block_lt_of_cell? w _ hw194_5)).trans hw194_5)⟩ (fun hHeld => ?_); refine with_tabW bonsairef13_May.tab6 bonsairef13_May.bits6 (fun HT_ HW_ => ?_)
                      generalize wr.drew = w16 at HB hx191_0 hx191_1 hx191_2 hx191_3 hx191_4 hx191_5 hx193_0 hx193_1 hx193_2 hx193_3 hx193_4 hx193_5 hx194_0 hx194_1 hx194_2 hx194_3 hx194_4 hx194_5 hHeld ⊢
                      refine pure_ (i := 0) (N := some 13) (v := ?_) (a' := ?_) #[true, false, false, false, false, false, false, false, false, false, false, false, false, false, false, false, false, false, false, false, false, false, false, false, false] rfl rfl (any_of HT_.out (by kernel_rfl)) (fun _ _ _ h => h) (Or.inl ⟨by rfl, ?_⟩) ?_ ?_
                      rotate_left
                      · intro w'
                        go_simp
                        with_reducible rfl
                      rotate_left
                      · simp only [Act.put, List.setIfInBounds_toArray, List.set_cons_zero, List.set_cons_succ, i64_w, i32_w]
                        rfl
                      refine pure_ (i := 1) (N := some 14) (v := ?_) (a' := ?_) #[true, true, false, false, false, false, false, false, false, false, false, false, false, false, false, false, false, false, false, false, false, false, false, false, false] rfl rfl (any_of HT_.out (by kernel_rfl)) (fun _ _ _ h => h) (Or.inl ⟨by rfl, ?_⟩) ?_ ?_
                      rotate_left
                      · intro w'
                        go_simp
                        with_reducible rfl
                      rotate_left
                      · simp only [Act.put, List.setIfInBounds_toArray, List.set_cons_zero, List.set_cons_succ, i64_w, i32_w]
                        rfl
                      refine pure_ (i := 2) (N := some 15) (v := ?_) (a' := ?_) #[true, true, true, false, false, false, false, false, false, false, false, false, false, false, false, false, false, false, false, false, false, false, false, false, false] rfl rfl (any_of HT_.out (by kernel_rfl)) (fun _ _ _ h => h) (Or.inl ⟨by rfl, ?_⟩) ?_ ?_
                      rotate_left
                      · intro w'
                        go_simp
                        with_reducible rfl
                      rotate_left
                      · simp only [Act.put, List.setIfInBounds_toArray, List.set_cons_zero, List.set_cons_succ, i64_w, i32_w]
                        rfl
                      refine take_ (i := 3) (N := some 16) (v := ?_) (a' := ?_) #[true, true, true, true, false, false, false, false, false, false, false, false, false, false, false, false, false, false, false, false, false, false, false, false, false] rfl rfl (take_ofW HT_.out HW_.out (by kernel_rfl)) (fun _ _ _ h => h) (Or.inl ⟨by rfl, ?_⟩) hHeld ?_ ?_
                      rotate_left
                      · rintro w' ⟨s0, s1, s2, s3, s4, s5, s6, s7, s8, s9, s10, s11, s12, s13, s14, s15, s16, s17⟩
                        go_simp
                        with_reducible rfl
                      rotate_left
                      · simp only [Act.put, List.setIfInBounds_toArray, List.set_cons_zero, List.set_cons_succ, i64_w, i32_w]
                        rfl
                      refine one_ (i := 4) (N := some 17) #[true, true, true, true, true, false, false, false, false, false, false, false, false, false, false, false, false, false, false, false, false, false, false, false, false] rfl rfl (one_of HT_.out (by kernel_rfl)) (by decide) (fun K hK => ?_)
                      refine goes_ Try.func41 (by kernel_rfl) rfl #[.agg #[.int .i64 ((rd_T30 l0 x3_1).f0.f0), .int .i64 ((rd_T30 l0 x3_1).f0.f1), .int .i64 ((rd_T30 l0 x3_1).f1), .int .i64 ((rd_T30 l0 x3_1).f2), .string ((rd_T30 l0 x3_1).f3), .float .f64 ((rd_T30 l0 x3_1).f4)]] (by rfl) rfl rfl (by (try simp only [List.map_toArray, List.map_cons, List.map_nil]); first | done | rfl | (simp only [List.length_drop, List.length_take]; rfl)) ?_
                      with_reducible refine (bonsairef13_One.calls k1 ((rd_T30 l0 x3_1).f0.f0) ((rd_T30 l0 x3_1).f0.f1) ((rd_T30 l0 x3_1).f1) ((rd_T30 l0 x3_1).f2) ((rd_T30 l0 x3_1).f3) ((rd_T30 l0 x3_1).f4) true _ A5.out).mono ?_
                      rintro e w17 ⟨rfl, hb⟩
                      refine ⟨_, rfl, ?_⟩
                      have n0_ := Aside0.mk (below_step (by repeat (first | (with_reducible first | exact HB.out | apply below_alloc | apply pw_below_drewN | apply below_drew1) | exact HB.out)) hb)
                      clear HB
                      have HB := n0_
                      clear n0_
                      (try clear hb)
                      (try clear hb2)
                      (try clear hk)
                      (try clear hi)
                      refine hK.out _ _ ⟨((HB.out.cell (World.block_lt_of_cell? w _ hw191_0)).trans hw191_0), ((HB.out.cell (World.block_lt_of_cell? w _ hw191_1)).trans hw191_1), ((HB.out.cell (World.block_lt_of_cell? w _ hw191_2)).trans hw191_2), ((HB.out.cell (World.block_lt_of_cell? w _ hw191_3)).trans hw191_3), ((HB.out.cell (World.block_lt_of_cell? w _ hw191_4)).trans hw191_4), ((HB.out.cell (World.block_lt_of_cell? w _ hw191_5)).trans hw191_5), ((HB.out.cell (World.block_lt_of_cell? w _ hw193_0)).trans hw193_0), ((HB.out.cell (World.block_lt_of_cell? w _ hw193_1)).trans hw193_1), ((HB.out.cell (World.block_lt_of_cell? w _ hw193_2)).trans hw193_2), ((HB.out.cell (World.block_lt_of_cell? w _ hw193_3)).trans hw193_3), ((HB.out.cell (World.block_lt_of_cell? w _ hw193_4)).trans hw193_4), ((HB.out.cell (World.block_lt_of_cell? w _ hw193_5)).trans hw193_5), ((HB.out.cell (World.block_lt_of_cell? w _ hw194_0)).trans hw194_0), ((HB.out.cell (World.block_lt_of_cell? w _ hw194_1)).trans hw194_1), ((HB.out.cell (World.block_lt_of_cell? w _ hw194_2)).trans hw194_2), ((HB.out.cell (World.block_lt_of_cell? w _ hw194_3)).trans hw194_3), ((HB.out.cell (World.block_lt_of_cell? w _ hw194_4)).trans hw194_4), ((HB.out.cell (World.block_lt_of_cell? w _ hw194_5)).trans hw194_5)⟩ (fun hHeld => ?_)
                      clear hK K
                      refine norm_ (a' := ?_) ?_ ?_
                      rotate_left
                      · show Act.put _ (some 17) _ = _
                        simp only [Act.put, List.setIfInBounds_toArray, List.set_cons_zero, List.set_cons_succ, i64_w, i32_w]
                        rfl
                      refine pure_ (i := 5) (N := some 18) (v := ?_) (a' := ?_) #[true, true, true, true, true, true, false, false, false, false, false, false, false, false, false, false, false, false, false, false, false, false, false, false, false] rfl rfl (any_of HT_.out (by kernel_rfl)) (fun _ _ _ h => h) (Or.inl ⟨by rfl, ?_⟩) ?_ ?_
                      rotate_left
                      · intro w'
                        go_simp
                        with_reducible rfl
                      rotate_left
                      · simp only [Act.put, List.setIfInBounds_toArray, List.set_cons_zero, List.set_cons_succ, i64_w, i32_w]
                        rfl
                      refine pure_ (i := 6) (N := some 19) (v := ?_) (a' := ?_) #[true, true, true, true, true, true, true, false, false, false, false, false, false, false, false, false, false, false, false, false, false, false, false, false, false] rfl rfl (any_of HT_.out (by kernel_rfl)) (fun _ _ _ h => h) (Or.inl ⟨by rfl, ?_⟩) ?_ ?_
                      rotate_left
                      · intro w'
                        go_simp
                        with_reducible rfl
                      rotate_left
                      · simp only [Act.put, List.setIfInBounds_toArray, List.set_cons_zero, List.set_cons_succ, i64_w, i32_w]
                        rfl
                      refine pure_ (i := 7) (N := some 20) (v := ?_) (a' := ?_) #[true, true, true, true, true, true, true, true, false, false, false, false, false, false, false, false, false, false, false, false, false, false, false, false, false] rfl rfl (any_of HT_.out (by kernel_rfl)) (fun _ _ _ h => h) (Or.inl ⟨by rfl, ?_⟩) ?_ ?_
                      rotate_left
                      · intro w'
                        go_simp
                        with_reducible rfl
                      rotate_left
                      · simp only [Act.put, List.setIfInBounds_toArray, List.set_cons_zero, List.set_cons_succ, i64_w, i32_w]
                        rfl
                      refine pure_ (i := 8) (N := some 21) (v := ?_) (a' := ?_) #[true, true, true, true, true, true, true, true, true, false, false, false, false, false, false, false, false, false, false, false, false, false, false, false, false] rfl rfl (any_of HT_.out (by kernel_rfl)) (fun _ _ _ h => h) (Or.inl ⟨by rfl, ?_⟩) ?_ ?_
                      rotate_left
                      · intro w'
                        go_simp
                        with_reducible rfl
                      rotate_left
                      · simp only [Act.put, List.setIfInBounds_toArray, List.set_cons_zero, List.set_cons_succ, i64_w, i32_w]
                        rfl
                      refine pure_ (i := 9) (N := some 22) (v := ?_) (a' := ?_) #[true, true, true, true, true, true, true, true, true, true, false, false, false, false, false, false, false, false, false, false, false, false, false, false, false] rfl rfl (any_of HT_.out (by kernel_rfl)) (fun _ _ _ h => h) (Or.inl ⟨by rfl, ?_⟩) ?_ ?_
                      rotate_left
                      · intro w'
                        go_simp
                        with_reducible rfl
                      rotate_left
                      · simp only [Act.put, List.setIfInBounds_toArray, List.set_cons_zero, List.set_cons_succ, i64_w, i32_w]
                        rfl
                      refine pure_ (i := 10) (N := some 23) (v := ?_) (a' := ?_) #[true, true, true, true, true, true, true, true, true, true, true, false, false, false, false, false, false, false, false, false, false, false, false, false, false] rfl rfl (any_of HT_.out (by kernel_rfl)) (fun _ _ _ h => h) (Or.inl ⟨by rfl, ?_⟩) ?_ ?_
                      rotate_left
                      · intro w'
                        go_simp
                        with_reducible rfl
                      rotate_left
                      · simp only [Act.put, List.setIfInBounds_toArray, List.set_cons_zero, List.set_cons_succ, i64_w, i32_w]
                        rfl
                      refine pure_ (i := 11) (N := some 24) (v := ?_) (a' := ?_) #[true, true, true, true, true, true, true, true, true, true, true, true, false, false, false, false, false, false, false, false, false, false, false, false, false] rfl rfl (any_of HT_.out (by kernel_rfl)) (fun _ _ _ h => h) (Or.inl ⟨by rfl, ?_⟩) ?_ ?_
                      rotate_left
                      · intro w'
                        go_simp
                        with_reducible rfl
                      rotate_left
                      · simp only [Act.put, List.setIfInBounds_toArray, List.set_cons_zero, List.set_cons_succ, i64_w, i32_w]
                        rfl
                      refine pure_ (i := 12) (N := some 25) (v := ?_) (a' := ?_) #[true, true, true, true, true, true, true, true, true, true, true, true, true, false, false, false, false, false, false, false, false, false, false, false, false] rfl rfl (any_of HT_.out (by kernel_rfl)) (fun _ _ _ h => h) (Or.inl ⟨by rfl, ?_⟩) ?_ ?_
                      rotate_left
                      · intro w'
                        go_simp
                        with_reducible rfl
                      rotate_left
                      · simp only [Act.put, List.setIfInBounds_toArray, List.set_cons_zero, List.set_cons_succ, i64_w, i32_w]
                        rfl
                      refine pure_ (i := 13) (N := some 26) (v := ?_) (a' := ?_) #[true, true, true, true, true, true, true, true, true, true, true, true, true, true, false, false, false, false, false, false, false, false, false, false, false] rfl rfl (any_of HT_.out (by kernel_rfl)) (fun _ _ _ h => h) (Or.inl ⟨by rfl, ?_⟩) ?_ ?_
                      rotate_left
                      · intro w'
                        go_simp
                        with_reducible rfl
                      rotate_left
                      · simp only [Act.put, List.setIfInBounds_toArray, List.set_cons_zero, List.set_cons_succ, i64_w, i32_w]
                        rfl
                      refine pure_ (i := 14) (N := some 27) (v := ?_) (a' := ?_) #[true, true, true, true, true, true, true, true, true, true, true, true, true, true, true, false, false, false, false, false, false, false, false, false, false] rfl rfl (any_of HT_.out (by kernel_rfl)) (fun _ _ _ h => h) (Or.inl ⟨by rfl, ?_⟩) ?_ ?_
                      rotate_left
                      · intro w'
                        go_simp
                        with_reducible rfl
                      rotate_left
                      · simp only [Act.put, List.setIfInBounds_toArray, List.set_cons_zero, List.set_cons_succ, i64_w, i32_w]
                        rfl
                      refine pure_ (i := 16) (N := some 29) (v := ?_) (a' := ?_) #[true, true, true, true, true, true, true, true, true, true, true, true, true, true, true, false, true, false, false, false, false, false, false, false, false] rfl rfl (any_of HT_.out (by kernel_rfl)) (fun _ _ _ h => h) (Or.inl ⟨by rfl, ?_⟩) ?_ ?_
                      rotate_left
                      · intro w'
                        go_simp
                        with_reducible rfl
                      rotate_left
                      · simp only [Act.put, List.setIfInBounds_toArray, List.set_cons_zero, List.set_cons_succ, i64_w, i32_w]
                        rfl
                      refine pure_ (i := 17) (N := some 30) (v := ?_) (a' := ?_) #[true, true, true, true, true, true, true, true, true, true, true, true, true, true, true, false, true, true, false, false, false, false, false, false, false] rfl rfl (any_of HT_.out (by kernel_rfl)) (fun _ _ _ h => h) (Or.inl ⟨by rfl, ?_⟩) ?_ ?_
                      rotate_left
                      · intro w'
                        go_simp
                        with_reducible rfl
                      rotate_left
                      · simp only [Act.put, List.setIfInBounds_toArray, List.set_cons_zero, List.set_cons_succ, i64_w, i32_w]
                        rfl
                      refine pure_ (i := 18) (N := some 31) (v := ?_) (a' := ?_) #[true, true, true, true, true, true, true, true, true, true, true, true, true, true, true, false, true, true, true, false, false, false, false, false, false] rfl rfl (any_of HT_.out (by kernel_rfl)) (fun _ _ _ h => h) (Or.inl ⟨by rfl, ?_⟩) ?_ ?_
                      rotate_left
                      · intro w'
                        go_simp
                        with_reducible rfl
                      rotate_left
                      · simp only [Act.put, List.setIfInBounds_toArray, List.set_cons_zero, List.set_cons_succ, i64_w, i32_w]
                        rfl
                      refine pure_ (i := 19) (N := some 32) (v := ?_) (a' := ?_) #[true, true, true, true, true, true, true, true, true, true, true, true, true, true, true, false, true, true, true, true, false, false, false, false, false] rfl rfl (any_of HT_.out (by kernel_rfl)) (fun _ _ _ h => h) (Or.inl ⟨by rfl, ?_⟩) ?_ ?_
                      rotate_left
                      · intro w'
                        go_simp
                        with_reducible rfl
                      rotate_left
                      · simp only [Act.put, List.setIfInBounds_toArray, List.set_cons_zero, List.set_cons_succ, i64_w, i32_w]
                        rfl
                      refine take_ (i := 15) (N := some 28) (v := ?_) (a' := ?_) #[true, true, true, true, true, true, true, true, true, true, true, true, true, true, true, true, true, true, true, true, false, false, false, false, false] rfl rfl (take_ofW HT_.out HW_.out (by kernel_rfl)) (fun _ _ _ h => h) (Or.inl ⟨by rfl, ?_⟩) hHeld ?_ ?_
                      rotate_left
                      · rintro w' ⟨s0, s1, s2, s3, s4, s5, s6, s7, s8, s9, s10, s11, s12, s13, s14, s15, s16, s17⟩
                        go_simp
                        with_reducible rfl
                      rotate_left
                      · simp only [Act.put, List.setIfInBounds_toArray, List.set_cons_zero, List.set_cons_succ, i64_w, i32_w]
                        rfl
                      refine take_ (i := 20) (N := some 33) (v := ?_) (a' := ?_) #[true, true, true, true, true, true, true, true, true, true, true, true, true, true, true, true, true, true, true, true, true, false, false, false, false] rfl rfl (take_ofW HT_.out HW_.out (by kernel_rfl)) (fun _ _ _ h => h) (Or.inl ⟨by rfl, ?_⟩) hHeld ?_ ?_
                      rotate_left
                      · rintro w' ⟨s0, s1, s2, s3, s4, s5, s6, s7, s8, s9, s10, s11, s12, s13, s14, s15, s16, s17⟩
                        go_simp
                        with_reducible rfl
                      rotate_left
                      · simp only [Act.put, List.setIfInBounds_toArray, List.set_cons_zero, List.set_cons_succ, i64_w, i32_w]
                        rfl
                      refine one_ (i := 21) (N := some 34) #[true, true, true, true, true, true, true, true, true, true, true, true, true, true, true, true, true, true, true, true, true, true, false, false, false] rfl rfl (one_of HT_.out (by kernel_rfl)) (by decide) (fun K hK => ?_)
                      refine goes_ Try.func42 (by kernel_rfl) rfl #[.agg #[.int .i64 ((rd_T30 l0 (ji8)).f0.f0), .int .i64 ((rd_T30 l0 (ji8)).f0.f1)], .agg #[.int .i64 ((rd_T30 l0 x3_1).f0.f0), .int .i64 ((rd_T30 l0 x3_1).f0.f1)]] (by rfl) rfl rfl (by (try simp only [List.map_toArray, List.map_cons, List.map_nil]); first | done | (simp only [hji8]; rfl) | rfl | (simp only [List.length_drop, List.length_take]; rfl)) ?_
                      with_reducible refine (bonsairef02_Before.calls ((rd_T30 l0 (ji8)).f0.f0) ((rd_T30 l0 (ji8)).f0.f1) ((rd_T30 l0 x3_1).f0.f0) ((rd_T30 l0 x3_1).f0.f1) false _ A11.out).mono ?_
                      rintro e w18 ⟨rfl, hb⟩
                      refine ⟨_, rfl, ?_⟩
                      have n0_ := Aside0.mk (below_step (by repeat (first | (with_reducible first | exact HB.out | apply below_alloc | apply pw_below_drewN | apply below_drew1) | exact HB.out)) hb)
                      clear HB
                      have HB := n0_
                      clear n0_
                      (try clear hb)
                      (try clear hb2)
                      (try clear hk)
                      (try clear hi)
                      refine hK.out _ _ ⟨((HB.out.cell (World.block_lt_of_cell? w _ hw191_0)).trans hw191_0), ((HB.out.cell (World.block_lt_of_cell? w _ hw191_1)).trans hw191_1), ((HB.out.cell (World.block_lt_of_cell? w _ hw191_2)).trans hw191_2), ((HB.out.cell (World.block_lt_of_cell? w _ hw191_3)).trans hw191_3), ((HB.out.cell (World.block_lt_of_cell? w _ hw191_4)).trans hw191_4), ((HB.out.cell (World.block_lt_of_cell? w _ hw191_5)).trans hw191_5), ((HB.out.cell (World.block_lt_of_cell? w _ hw193_0)).trans hw193_0), ((HB.out.cell (World.block_lt_of_cell? w _ hw193_1)).trans hw193_1), ((HB.out.cell (World.block_lt_of_cell? w _ hw193_2)).trans hw193_2), ((HB.out.cell (World.block_lt_of_cell? w _ hw193_3)).trans hw193_3), ((HB.out.cell (World.block_lt_of_cell? w _ hw193_4)).trans hw193_4), ((HB.out.cell (World.block_lt_of_cell? w _ hw193_5)).trans hw193_5), ((HB.out.cell (World.block_lt_of_cell? w _ hw194_0)).trans hw194_0), ((HB.out.cell (World.block_lt_of_cell? w _ hw194_1)).trans hw194_1), ((HB.out.cell (World.block_lt_of_cell? w _ hw194_2)).trans hw194_2), ((HB.out.cell (World.block_lt_of_cell? w _ hw194_3)).trans hw194_3), ((HB.out.cell (World.block_lt_of_cell? w _ hw194_4)).trans hw194_4), ((HB.out.cell (World.block_lt_of_cell? w _ hw194_5)).trans hw194_5)⟩ (fun hHeld => ?_)
                      clear hK K
                      refine norm_ (a' := ?_) ?_ ?_
                      rotate_left
                      · show Act.put _ (some 34) _ = _
                        simp only [Act.put, List.setIfInBounds_toArray, List.set_cons_zero, List.set_cons_succ, i64_w, i32_w]
                        rfl
                      refine pure_ (i := 22) (N := some 35) (v := ?_) (a' := ?_) #[true, true, true, true, true, true, true, true, true, true, true, true, true, true, true, true, true, true, true, true, true, true, true, false, false] rfl rfl (any_of HT_.out (by kernel_rfl)) (fun _ _ _ h => h) (Or.inl ⟨by rfl, ?_⟩) ?_ ?_
                      rotate_left
                      · intro w'
                        go_simp
                        with_reducible rfl
                      rotate_left
                      · simp only [Act.put, List.setIfInBounds_toArray, List.set_cons_zero, List.set_cons_succ, i64_w, i32_w]
                        rfl
                      refine pure_ (i := 23) (N := some 36) (v := ?_) (a' := ?_) #[true, true, true, true, true, true, true, true, true, true, true, true, true, true, true, true, true, true, true, true, true, true, true, true, false] rfl rfl (any_of HT_.out (by kernel_rfl)) (fun _ _ _ h => h) (Or.inl ⟨by rfl, ?_⟩) ?_ ?_
                      rotate_left
                      · intro w'
                        go_simp
                        with_reducible rfl
                      rotate_left
                      · simp only [Act.put, List.setIfInBounds_toArray, List.set_cons_zero, List.set_cons_succ, i64_w, i32_w]
                        rfl
                      refine pure_ (i := 24) (N := some 37) (v := ?_) (a' := ?_) #[true, true, true, true, true, true, true, true, true, true, true, true, true, true, true, true, true, true, true, true, true, true, true, true, true] rfl rfl (any_of HT_.out (by kernel_rfl)) (fun _ _ _ h => h) (Or.inl ⟨by rfl, ?_⟩) ?_ ?_
                      rotate_left
                      · intro w'
                        go_simp
                        with_reducible rfl
                      rotate_left
                      · simp only [Act.put, List.setIfInBounds_toArray, List.set_cons_zero, List.set_cons_succ, i64_w, i32_w]
                        rfl
                      refine done_ (done_of HT_.out (by kernel_rfl)) ?_
                      try go_wp2
                      go_ret
                      exact ⟨by first | rfl | (simp [errW_none, errW_some] <;> rfl) | (simp only [← hji8]; first | rfl | (simp [errW_none, errW_some] <;> rfl)) | (simp [*, errW_none, errW_some] <;> rfl), by repeat (first | (with_reducible first | exact HB.out | apply below_alloc | apply pw_below_drewN | apply below_drew1) | exact HB.out)⟩
                  · rw [if_neg c10] at H
                    exact absurd H (by simp)
                · rw [if_neg c9] at H
                  exact absurd H (by simp)
              · rw [if_neg c7] at H
                have c7b0 : decide (0 < x3_1) = false := decide_eq_false c7
                clear c7
                have H' := Aside0.mk H
                clear H
                try go_wp2
                have n0_ := Aside0.mk (below_drew1 HB.out)
                clear HB
                have HB := n0_
                clear n0_
                have p191 : 0 ≤ (x3_1 : Int) := of_decide_eq_true (by first | (with_reducible assumption) | assumption)
                have q191 : x3_1 < (l0.length : Int) := of_decide_eq_true (by first | (with_reducible assumption) | assumption)
                obtain ⟨ad191, e191, hx191_0, hx191_1, hx191_2, hx191_3, hx191_4, hx191_5⟩ := at_T30 HR0.out x3_1 p191 q191
                have hw191_5 := hx191_5
                have hw191_4 := hx191_4
                have hw191_3 := hx191_3
                have hw191_2 := hx191_2
                have hw191_1 := hx191_1
                have hw191_0 := hx191_0
                cases e191
                replace hx191_0 := (HB.out.cell (World.block_lt_of_cell? w _ hx191_0)).trans hx191_0
                replace hx191_1 := (HB.out.cell (World.block_lt_of_cell? w _ hx191_1)).trans hx191_1
                replace hx191_2 := (HB.out.cell (World.block_lt_of_cell? w _ hx191_2)).trans hx191_2
                replace hx191_3 := (HB.out.cell (World.block_lt_of_cell? w _ hx191_3)).trans hx191_3
                replace hx191_4 := (HB.out.cell (World.block_lt_of_cell? w _ hx191_4)).trans hx191_4
                replace hx191_5 := (HB.out.cell (World.block_lt_of_cell? w _ hx191_5)).trans hx191_5
                replace p191 := eq_true p191
                replace q191 := eq_true q191
                refine start_ (n := 25) (S := fun w' => w'.cell? (ad191.add ((x3_1).toNat * 6)) = some (.int .i64 ((rd_T30 l0 x3_1).f0.f0)) ∧ w'.cell? ⟨(ad191.add ((x3_1).toNat * 6)).block, (ad191.add ((x3_1).toNat * 6)).off + 1, none⟩ = some (.int .i64 ((rd_T30 l0 x3_1).f0.f1)) ∧ w'.cell? ⟨(ad191.add ((x3_1).toNat * 6)).block, (ad191.add ((x3_1).toNat * 6)).off + 2, none⟩ = some (.int .i64 ((rd_T30 l0 x3_1).f1)) ∧ w'.cell? ⟨(ad191.add ((x3_1).toNat * 6)).block, (ad191.add ((x3_1).toNat * 6)).off + 3, none⟩ = some (.int .i64 ((rd_T30 l0 x3_1).f2)) ∧ w'.cell? ⟨(ad191.add ((x3_1).toNat * 6)).block, (ad191.add ((x3_1).toNat * 6)).off + 4, none⟩ = some (.string ((rd_T30 l0 x3_1).f3)) ∧ w'.cell? ⟨(ad191.add ((x3_1).toNat * 6)).block, (ad191.add ((x3_1).toNat * 6)).off + 5, none⟩ = some (.float .f64 ((rd_T30 l0 x3_1).f4))) (ds := []) #[false, false, false, false, false, false, false, false, false, false, false, false, false, false, false, false, false, false, false, false, false, false, false, false, false] (by kernel_rfl) rfl rfl ⟨((HB.out.cell (World.block_lt_of_cell? w _ hw191_0)).trans hw191_0), ((HB.out.cell (World.block_lt_of_cell? w _ hw191_1)).trans hw191_1), ((HB.out.cell (World.block_lt_of_cell? w _ hw191_2)).trans hw191_2), ((HB.out.cell (World.block_lt_of_cell? w _ hw191_3)).trans hw191_3), ((HB.out.cell (World.block_lt_of_cell? w _ hw191_4)).trans hw191_4), ((HB.out.cell (World.block_lt_of_cell? w _ hw191_5)).trans hw191_5)⟩ (fun hHeld => ?_); refine with_tabW bonsairef13_May.tab6 bonsairef13_May.bits6 (fun HT_ HW_ => ?_)
                generalize wr.drew = w19 at HB hx191_0 hx191_1 hx191_2 hx191_3 hx191_4 hx191_5 hHeld ⊢
                refine pure_ (i := 0) (N := some 13) (v := ?_) (a' := ?_) #[true, false, false, false, false, false, false, false, false, false, false, false, false, false, false, false, false, false, false, false, false, false, false, false, false] rfl rfl (any_of HT_.out (by kernel_rfl)) (fun _ _ _ h => h) (Or.inl ⟨by rfl, ?_⟩) ?_ ?_
                rotate_left
                · intro w'
                  go_simp
                  with_reducible rfl
                rotate_left
                · simp only [Act.put, List.setIfInBounds_toArray, List.set_cons_zero, List.set_cons_succ, i64_w, i32_w]
                  rfl
                refine pure_ (i := 1) (N := some 14) (v := ?_) (a' := ?_) #[true, true, false, false, false, false, false, false, false, false, false, false, false, false, false, false, false, false, false, false, false, false, false, false, false] rfl rfl (any_of HT_.out (by kernel_rfl)) (fun _ _ _ h => h) (Or.inl ⟨by rfl, ?_⟩) ?_ ?_
                rotate_left
                · intro w'
                  go_simp
                  with_reducible rfl
                rotate_left
                · simp only [Act.put, List.setIfInBounds_toArray, List.set_cons_zero, List.set_cons_succ, i64_w, i32_w]
                  rfl
                refine pure_ (i := 2) (N := some 15) (v := ?_) (a' := ?_) #[true, true, true, false, false, false, false, false, false, false, false, false, false, false, false, false, false, false, false, false, false, false, false, false, false] rfl rfl (any_of HT_.out (by kernel_rfl)) (fun _ _ _ h => h) (Or.inl ⟨by rfl, ?_⟩) ?_ ?_
                rotate_left
                · intro w'
                  go_simp
                  with_reducible rfl
                rotate_left
                · simp only [Act.put, List.setIfInBounds_toArray, List.set_cons_zero, List.set_cons_succ, i64_w, i32_w]
                  rfl
                refine take_ (i := 3) (N := some 16) (v := ?_) (a' := ?_) #[true, true, true, true, false, false, false, false, false, false, false, false, false, false, false, false, false, false, false, false, false, false, false, false, false] rfl rfl (take_ofW HT_.out HW_.out (by kernel_rfl)) (fun _ _ _ h => h) (Or.inl ⟨by rfl, ?_⟩) hHeld ?_ ?_
                rotate_left
                · rintro w' ⟨s0, s1, s2, s3, s4, s5⟩
                  go_simp
                  with_reducible rfl
                rotate_left
                · simp only [Act.put, List.setIfInBounds_toArray, List.set_cons_zero, List.set_cons_succ, i64_w, i32_w]
                  rfl
                refine one_ (i := 4) (N := some 17) #[true, true, true, true, true, false, false, false, false, false, false, false, false, false, false, false, false, false, false, false, false, false, false, false, false] rfl rfl (one_of HT_.out (by kernel_rfl)) (by decide) (fun K hK => ?_)
                refine goes_ Try.func41 (by kernel_rfl) rfl #[.agg #[.int .i64 ((rd_T30 l0 x3_1).f0.f0), .int .i64 ((rd_T30 l0 x3_1).f0.f1), .int .i64 ((rd_T30 l0 x3_1).f1), .int .i64 ((rd_T30 l0 x3_1).f2), .string ((rd_T30 l0 x3_1).f3), .float .f64 ((rd_T30 l0 x3_1).f4)]] (by rfl) rfl rfl (by (try simp only [List.map_toArray, List.map_cons, List.map_nil]); first | done | rfl | (simp only [List.length_drop, List.length_take]; rfl)) ?_
                with_reducible refine (bonsairef13_One.calls k1 ((rd_T30 l0 x3_1).f0.f0) ((rd_T30 l0 x3_1).f0.f1) ((rd_T30 l0 x3_1).f1) ((rd_T30 l0 x3_1).f2) ((rd_T30 l0 x3_1).f3) ((rd_T30 l0 x3_1).f4) true _ A5.out).mono ?_
                rintro e w20 ⟨rfl, hb⟩
                refine ⟨_, rfl, ?_⟩
                have n0_ := Aside0.mk (below_step (by repeat (first | (with_reducible first | exact HB.out | apply below_alloc | apply pw_below_drewN | apply below_drew1) | exact HB.out)) hb)
                clear HB
                have HB := n0_
                clear n0_
                (try clear hb)
                (try clear hb2)
                (try clear hk)
                (try clear hi)
                refine hK.out _ _ ⟨((HB.out.cell (World.block_lt_of_cell? w _ hw191_0)).trans hw191_0), ((HB.out.cell (World.block_lt_of_cell? w _ hw191_1)).trans hw191_1), ((HB.out.cell (World.block_lt_of_cell? w _ hw191_2)).trans hw191_2), ((HB.out.cell (World.block_lt_of_cell? w _ hw191_3)).trans hw191_3), ((HB.out.cell (World.block_lt_of_cell? w _ hw191_4)).trans hw191_4), ((HB.out.cell (World.block_lt_of_cell? w _ hw191_5)).trans hw191_5)⟩ (fun hHeld => ?_)
                clear hK K
                refine norm_ (a' := ?_) ?_ ?_
                rotate_left
                · show Act.put _ (some 17) _ = _
                  simp only [Act.put, List.setIfInBounds_toArray, List.set_cons_zero, List.set_cons_succ, i64_w, i32_w]
                  rfl
                refine pure_ (i := 5) (N := some 18) (v := ?_) (a' := ?_) #[true, true, true, true, true, true, false, false, false, false, false, false, false, false, false, false, false, false, false, false, false, false, false, false, false] rfl rfl (any_of HT_.out (by kernel_rfl)) (fun _ _ _ h => h) (Or.inl ⟨by rfl, ?_⟩) ?_ ?_
                rotate_left
                · intro w'
                  go_simp
                  with_reducible rfl
                rotate_left
                · simp only [Act.put, List.setIfInBounds_toArray, List.set_cons_zero, List.set_cons_succ, i64_w, i32_w]
                  rfl
                refine pure_ (i := 6) (N := some 19) (v := ?_) (a' := ?_) #[true, true, true, true, true, true, true, false, false, false, false, false, false, false, false, false, false, false, false, false, false, false, false, false, false] rfl rfl (any_of HT_.out (by kernel_rfl)) (fun _ _ _ h => h) (Or.inl ⟨by rfl, ?_⟩) ?_ ?_
                rotate_left
                · intro w'
                  go_simp
                  with_reducible rfl
                rotate_left
                · simp only [Act.put, List.setIfInBounds_toArray, List.set_cons_zero, List.set_cons_succ, i64_w, i32_w]
                  rfl
                refine pure_ (i := 7) (N := some 20) (v := ?_) (a' := ?_) #[true, true, true, true, true, true, true, true, false, false, false, false, false, false, false, false, false, false, false, false, false, false, false, false, false] rfl rfl (any_of HT_.out (by kernel_rfl)) (fun _ _ _ h => h) (Or.inl ⟨by rfl, ?_⟩) ?_ ?_
                rotate_left
                · intro w'
                  go_simp
                  with_reducible rfl
                rotate_left
                · simp only [Act.put, List.setIfInBounds_toArray, List.set_cons_zero, List.set_cons_succ, i64_w, i32_w]
                  rfl
                refine pure_ (i := 8) (N := some 21) (v := ?_) (a' := ?_) #[true, true, true, true, true, true, true, true, true, false, false, false, false, false, false, false, false, false, false, false, false, false, false, false, false] rfl rfl (any_of HT_.out (by kernel_rfl)) (fun _ _ _ h => h) (Or.inl ⟨by rfl, ?_⟩) ?_ ?_
                rotate_left
                · intro w'
                  go_simp
                  with_reducible rfl
                rotate_left
                · simp only [Act.put, List.setIfInBounds_toArray, List.set_cons_zero, List.set_cons_succ, i64_w, i32_w]
                  rfl
                refine pure_ (i := 9) (N := some 22) (v := ?_) (a' := ?_) #[true, true, true, true, true, true, true, true, true, true, false, false, false, false, false, false, false, false, false, false, false, false, false, false, false] rfl rfl (any_of HT_.out (by kernel_rfl)) (fun _ _ _ h => h) (Or.inl ⟨by rfl, ?_⟩) ?_ ?_
                rotate_left
                · intro w'
                  go_simp
                  with_reducible rfl
                rotate_left
                · simp only [Act.put, List.setIfInBounds_toArray, List.set_cons_zero, List.set_cons_succ, i64_w, i32_w]
                  rfl
                refine pure_ (i := 10) (N := some 23) (v := undef) (a' := ?_) #[true, true, true, true, true, true, true, true, true, true, true, false, false, false, false, false, false, false, false, false, false, false, false, false, false] rfl rfl (any_of HT_.out (by kernel_rfl)) (fun _ _ _ h => h) (Or.inr ⟨by rfl, rfl⟩) ?_ ?_
                rotate_left
                · simp only [Act.put, List.setIfInBounds_toArray, List.set_cons_zero, List.set_cons_succ, i64_w, i32_w]
                  rfl
                refine pure_ (i := 11) (N := some 24) (v := undef) (a' := ?_) #[true, true, true, true, true, true, true, true, true, true, true, true, false, false, false, false, false, false, false, false, false, false, false, false, false] rfl rfl (any_of HT_.out (by kernel_rfl)) (fun _ _ _ h => h) (Or.inr ⟨by rfl, rfl⟩) ?_ ?_
                rotate_left
                · simp only [Act.put, List.setIfInBounds_toArray, List.set_cons_zero, List.set_cons_succ, i64_w, i32_w]
                  rfl
                refine pure_ (i := 12) (N := some 25) (v := undef) (a' := ?_) #[true, true, true, true, true, true, true, true, true, true, true, true, true, false, false, false, false, false, false, false, false, false, false, false, false] rfl rfl (any_of HT_.out (by kernel_rfl)) (fun _ _ _ h => h) (Or.inr ⟨by rfl, rfl⟩) ?_ ?_
                rotate_left
                · simp only [Act.put, List.setIfInBounds_toArray, List.set_cons_zero, List.set_cons_succ, i64_w, i32_w]
                  rfl
                refine pure_ (i := 13) (N := some 26) (v := undef) (a' := ?_) #[true, true, true, true, true, true, true, true, true, true, true, true, true, true, false, false, false, false, false, false, false, false, false, false, false] rfl rfl (any_of HT_.out (by kernel_rfl)) (fun _ _ _ h => h) (Or.inr ⟨by rfl, rfl⟩) ?_ ?_
                rotate_left
                · simp only [Act.put, List.setIfInBounds_toArray, List.set_cons_zero, List.set_cons_succ, i64_w, i32_w]
                  rfl
                refine pure_ (i := 14) (N := some 27) (v := undef) (a' := ?_) #[true, true, true, true, true, true, true, true, true, true, true, true, true, true, true, false, false, false, false, false, false, false, false, false, false] rfl rfl (any_of HT_.out (by kernel_rfl)) (fun _ _ _ h => h) (Or.inr ⟨by rfl, rfl⟩) ?_ ?_
                rotate_left
                · simp only [Act.put, List.setIfInBounds_toArray, List.set_cons_zero, List.set_cons_succ, i64_w, i32_w]
                  rfl
                refine pure_ (i := 15) (N := some 28) (v := undef) (a' := ?_) #[true, true, true, true, true, true, true, true, true, true, true, true, true, true, true, true, false, false, false, false, false, false, false, false, false] rfl rfl (any_of HT_.out (by kernel_rfl)) (fun _ _ _ h => h) (Or.inr ⟨by rfl, rfl⟩) ?_ ?_
                rotate_left
                · simp only [Act.put, List.setIfInBounds_toArray, List.set_cons_zero, List.set_cons_succ, i64_w, i32_w]
                  rfl
                refine pure_ (i := 16) (N := some 29) (v := undef) (a' := ?_) #[true, true, true, true, true, true, true, true, true, true, true, true, true, true, true, true, true, false, false, false, false, false, false, false, false] rfl rfl (any_of HT_.out (by kernel_rfl)) (fun _ _ _ h => h) (Or.inr ⟨by rfl, rfl⟩) ?_ ?_
                rotate_left
                · simp only [Act.put, List.setIfInBounds_toArray, List.set_cons_zero, List.set_cons_succ, i64_w, i32_w]
                  rfl
                refine pure_ (i := 17) (N := some 30) (v := undef) (a' := ?_) #[true, true, true, true, true, true, true, true, true, true, true, true, true, true, true, true, true, true, false, false, false, false, false, false, false] rfl rfl (any_of HT_.out (by kernel_rfl)) (fun _ _ _ h => h) (Or.inr ⟨by rfl, rfl⟩) ?_ ?_
                rotate_left
                · simp only [Act.put, List.setIfInBounds_toArray, List.set_cons_zero, List.set_cons_succ, i64_w, i32_w]
                  rfl
                refine pure_ (i := 18) (N := some 31) (v := undef) (a' := ?_) #[true, true, true, true, true, true, true, true, true, true, true, true, true, true, true, true, true, true, true, false, false, false, false, false, false] rfl rfl (any_of HT_.out (by kernel_rfl)) (fun _ _ _ h => h) (Or.inr ⟨by rfl, rfl⟩) ?_ ?_
                rotate_left
                · simp only [Act.put, List.setIfInBounds_toArray, List.set_cons_zero, List.set_cons_succ, i64_w, i32_w]
                  rfl
                refine pure_ (i := 19) (N := some 32) (v := undef) (a' := ?_) #[true, true, true, true, true, true, true, true, true, true, true, true, true, true, true, true, true, true, true, true, false, false, false, false, false] rfl rfl (any_of HT_.out (by kernel_rfl)) (fun _ _ _ h => h) (Or.inr ⟨by rfl, rfl⟩) ?_ ?_
                rotate_left
                · simp only [Act.put, List.setIfInBounds_toArray, List.set_cons_zero, List.set_cons_succ, i64_w, i32_w]
                  rfl
                refine pure_ (i := 20) (N := some 33) (v := undef) (a' := ?_) #[true, true, true, true, true, true, true, true, true, true, true, true, true, true, true, true, true, true, true, true, true, false, false, false, false] rfl rfl (any_of HT_.out (by kernel_rfl)) (fun _ _ _ h => h) (Or.inr ⟨by rfl, rfl⟩) ?_ ?_
                rotate_left
                · simp only [Act.put, List.setIfInBounds_toArray, List.set_cons_zero, List.set_cons_succ, i64_w, i32_w]
                  rfl
                refine pure_ (i := 21) (N := some 34) (v := undef) (a' := ?_) #[true, true, true, true, true, true, true, true, true, true, true, true, true, true, true, true, true, true, true, true, true, true, false, false, false] rfl rfl (any_of HT_.out (by kernel_rfl)) (fun _ _ _ h => h) (Or.inr ⟨by rfl, rfl⟩) ?_ ?_
                rotate_left
                · simp only [Act.put, List.setIfInBounds_toArray, List.set_cons_zero, List.set_cons_succ, i64_w, i32_w]
                  rfl
                refine pure_ (i := 22) (N := some 35) (v := undef) (a' := ?_) #[true, true, true, true, true, true, true, true, true, true, true, true, true, true, true, true, true, true, true, true, true, true, true, false, false] rfl rfl (any_of HT_.out (by kernel_rfl)) (fun _ _ _ h => h) (Or.inr ⟨by rfl, rfl⟩) ?_ ?_
                rotate_left
                · simp only [Act.put, List.setIfInBounds_toArray, List.set_cons_zero, List.set_cons_succ, i64_w, i32_w]
                  rfl
                refine pure_ (i := 23) (N := some 36) (v := ?_) (a' := ?_) #[true, true, true, true, true, true, true, true, true, true, true, true, true, true, true, true, true, true, true, true, true, true, true, true, false] rfl rfl (any_of HT_.out (by kernel_rfl)) (fun _ _ _ h => h) (Or.inl ⟨by rfl, ?_⟩) ?_ ?_
                rotate_left
                · intro w'
                  go_simp
                  with_reducible rfl
                rotate_left
                · simp only [Act.put, List.setIfInBounds_toArray, List.set_cons_zero, List.set_cons_succ, i64_w, i32_w]
                  rfl
                refine pure_ (i := 24) (N := some 37) (v := ?_) (a' := ?_) #[true, true, true, true, true, true, true, true, true, true, true, true, true, true, true, true, true, true, true, true, true, true, true, true, true] rfl rfl (any_of HT_.out (by kernel_rfl)) (fun _ _ _ h => h) (Or.inl ⟨by rfl, ?_⟩) ?_ ?_
                rotate_left
                · intro w'
                  go_simp
                  with_reducible rfl
                rotate_left
                · simp only [Act.put, List.setIfInBounds_toArray, List.set_cons_zero, List.set_cons_succ, i64_w, i32_w]
                  rfl
                refine done_ (done_of HT_.out (by kernel_rfl)) ?_
                try go_wp2
                go_roundg k1
                case measure => have := HK1.out; omega
                case rel => exact ⟨(wrap64 (x3_1 + 1)), (by first | rfl | (simp; done) | (simp [*]; done)), H', ⟨by have := HK1.out; omega⟩, ⟨by repeat (first | (with_reducible first | exact HB.out | apply below_alloc | apply pw_below_drewN | apply below_drew1) | exact HB.out)⟩⟩
            · replace c6 := Bool.eq_false_iff.mpr c6
              subst c6
              have H1 : (some false) = some r := by rw [if_neg (show ¬ (false = true) by decide)] at H; exact H
              clear H
              have H := H1
              clear H1
              obtain rfl := Option.some.inj H
              try go_wp2
              have n0_ := Aside0.mk (below_drew1 HB.out)
              clear HB
              have HB := n0_
              clear n0_
              have p191 : 0 ≤ (x3_1 : Int) := of_decide_eq_true (by first | (with_reducible assumption) | assumption)
              have q191 : x3_1 < (l0.length : Int) := of_decide_eq_true (by first | (with_reducible assumption) | assumption)
              obtain ⟨ad191, e191, hx191_0, hx191_1, hx191_2, hx191_3, hx191_4, hx191_5⟩ := at_T30 HR0.out x3_1 p191 q191
              have hw191_5 := hx191_5
              have hw191_4 := hx191_4
              have hw191_3 := hx191_3
              have hw191_2 := hx191_2
              have hw191_1 := hx191_1
              have hw191_0 := hx191_0
              cases e191
              replace hx191_0 := (HB.out.cell (World.block_lt_of_cell? w _ hx191_0)).trans hx191_0
              replace hx191_1 := (HB.out.cell (World.block_lt_of_cell? w _ hx191_1)).trans hx191_1
              replace hx191_2 := (HB.out.cell (World.block_lt_of_cell? w _ hx191_2)).trans hx191_2
              replace hx191_3 := (HB.out.cell (World.block_lt_of_cell? w _ hx191_3)).trans hx191_3
              replace hx191_4 := (HB.out.cell (World.block_lt_of_cell? w _ hx191_4)).trans hx191_4
              replace hx191_5 := (HB.out.cell (World.block_lt_of_cell? w _ hx191_5)).trans hx191_5
              replace p191 := eq_true p191
              replace q191 := eq_true q191
              refine start_ (n := 25) (S := fun w' => w'.cell? (ad191.add ((x3_1).toNat * 6)) = some (.int .i64 ((rd_T30 l0 x3_1).f0.f0)) ∧ w'.cell? ⟨(ad191.add ((x3_1).toNat * 6)).block, (ad191.add ((x3_1).toNat * 6)).off + 1, none⟩ = some (.int .i64 ((rd_T30 l0 x3_1).f0.f1)) ∧ w'.cell? ⟨(ad191.add ((x3_1).toNat * 6)).block, (ad191.add ((x3_1).toNat * 6)).off + 2, none⟩ = some (.int .i64 ((rd_T30 l0 x3_1).f1)) ∧ w'.cell? ⟨(ad191.add ((x3_1).toNat * 6)).block, (ad191.add ((x3_1).toNat * 6)).off + 3, none⟩ = some (.int .i64 ((rd_T30 l0 x3_1).f2)) ∧ w'.cell? ⟨(ad191.add ((x3_1).toNat * 6)).block, (ad191.add ((x3_1).toNat * 6)).off + 4, none⟩ = some (.string ((rd_T30 l0 x3_1).f3)) ∧ w'.cell? ⟨(ad191.add ((x3_1).toNat * 6)).block, (ad191.add ((x3_1).toNat * 6)).off + 5, none⟩ = some (.float .f64 ((rd_T30 l0 x3_1).f4))) (ds := []) #[false, false, false, false, false, false, false, false, false, false, false, false, false, false, false, false, false, false, false, false, false, false, false, false, false] (by kernel_rfl) rfl rfl ⟨((HB.out.cell (World.block_lt_of_cell? w _ hw191_0)).trans hw191_0), ((HB.out.cell (World.block_lt_of_cell? w _ hw191_1)).trans hw191_1), ((HB.out.cell (World.block_lt_of_cell? w _ hw191_2)).trans hw191_2), ((HB.out.cell (World.block_lt_of_cell? w _ hw191_3)).trans hw191_3), ((HB.out.cell (World.block_lt_of_cell? w _ hw191_4)).trans hw191_4), ((HB.out.cell (World.block_lt_of_cell? w _ hw191_5)).trans hw191_5)⟩ (fun hHeld => ?_); refine with_tabW bonsairef13_May.tab6 bonsairef13_May.bits6 (fun HT_ HW_ => ?_)
              generalize wr.drew = w21 at HB hx191_0 hx191_1 hx191_2 hx191_3 hx191_4 hx191_5 hHeld ⊢
              refine pure_ (i := 0) (N := some 13) (v := ?_) (a' := ?_) #[true, false, false, false, false, false, false, false, false, false, false, false, false, false, false, false, false, false, false, false, false, false, false, false, false] rfl rfl (any_of HT_.out (by kernel_rfl)) (fun _ _ _ h => h) (Or.inl ⟨by rfl, ?_⟩) ?_ ?_
              rotate_left
              · intro w'
                go_simp
                with_reducible rfl
              rotate_left
              · simp only [Act.put, List.setIfInBounds_toArray, List.set_cons_zero, List.set_cons_succ, i64_w, i32_w]
                rfl
              refine pure_ (i := 1) (N := some 14) (v := ?_) (a' := ?_) #[true, true, false, false, false, false, false, false, false, false, false, false, false, false, false, false, false, false, false, false, false, false, false, false, false] rfl rfl (any_of HT_.out (by kernel_rfl)) (fun _ _ _ h => h) (Or.inl ⟨by rfl, ?_⟩) ?_ ?_
              rotate_left
              · intro w'
                go_simp
                with_reducible rfl
              rotate_left
              · simp only [Act.put, List.setIfInBounds_toArray, List.set_cons_zero, List.set_cons_succ, i64_w, i32_w]
                rfl
              refine pure_ (i := 2) (N := some 15) (v := ?_) (a' := ?_) #[true, true, true, false, false, false, false, false, false, false, false, false, false, false, false, false, false, false, false, false, false, false, false, false, false] rfl rfl (any_of HT_.out (by kernel_rfl)) (fun _ _ _ h => h) (Or.inl ⟨by rfl, ?_⟩) ?_ ?_
              rotate_left
              · intro w'
                go_simp
                with_reducible rfl
              rotate_left
              · simp only [Act.put, List.setIfInBounds_toArray, List.set_cons_zero, List.set_cons_succ, i64_w, i32_w]
                rfl
              refine take_ (i := 3) (N := some 16) (v := ?_) (a' := ?_) #[true, true, true, true, false, false, false, false, false, false, false, false, false, false, false, false, false, false, false, false, false, false, false, false, false] rfl rfl (take_ofW HT_.out HW_.out (by kernel_rfl)) (fun _ _ _ h => h) (Or.inl ⟨by rfl, ?_⟩) hHeld ?_ ?_
              rotate_left
              · rintro w' ⟨s0, s1, s2, s3, s4, s5⟩
                go_simp
                with_reducible rfl
              rotate_left
              · simp only [Act.put, List.setIfInBounds_toArray, List.set_cons_zero, List.set_cons_succ, i64_w, i32_w]
                rfl
              refine one_ (i := 4) (N := some 17) #[true, true, true, true, true, false, false, false, false, false, false, false, false, false, false, false, false, false, false, false, false, false, false, false, false] rfl rfl (one_of HT_.out (by kernel_rfl)) (by decide) (fun K hK => ?_)
              refine goes_ Try.func41 (by kernel_rfl) rfl #[.agg #[.int .i64 ((rd_T30 l0 x3_1).f0.f0), .int .i64 ((rd_T30 l0 x3_1).f0.f1), .int .i64 ((rd_T30 l0 x3_1).f1), .int .i64 ((rd_T30 l0 x3_1).f2), .string ((rd_T30 l0 x3_1).f3), .float .f64 ((rd_T30 l0 x3_1).f4)]] (by rfl) rfl rfl (by (try simp only [List.map_toArray, List.map_cons, List.map_nil]); first | done | rfl | (simp only [List.length_drop, List.length_take]; rfl)) ?_
              with_reducible refine (bonsairef13_One.calls k1 ((rd_T30 l0 x3_1).f0.f0) ((rd_T30 l0 x3_1).f0.f1) ((rd_T30 l0 x3_1).f1) ((rd_T30 l0 x3_1).f2) ((rd_T30 l0 x3_1).f3) ((rd_T30 l0 x3_1).f4) false _ A5.out).mono ?_
              rintro e w22 ⟨rfl, hb⟩
              refine ⟨_, rfl, ?_⟩
              have n0_ := Aside0.mk (below_step (by repeat (first | (with_reducible first | exact HB.out | apply below_alloc | apply pw_below_drewN | apply below_drew1) | exact HB.out)) hb)
              clear HB
              have HB := n0_
              clear n0_
              (try clear hb)
              (try clear hb2)
              (try clear hk)
              (try clear hi)
              refine hK.out _ _ ⟨((HB.out.cell (World.block_lt_of_cell? w _ hw191_0)).trans hw191_0), ((HB.out.cell (World.block_lt_of_cell? w _ hw191_1)).trans hw191_1), ((HB.out.cell (World.block_lt_of_cell? w _ hw191_2)).trans hw191_2), ((HB.out.cell (World.block_lt_of_cell? w _ hw191_3)).trans hw191_3), ((HB.out.cell (World.block_lt_of_cell? w _ hw191_4)).trans hw191_4), ((HB.out.cell (World.block_lt_of_cell? w _ hw191_5)).trans hw191_5)⟩ (fun hHeld => ?_)
              clear hK K
              refine norm_ (a' := ?_) ?_ ?_
              rotate_left
              · show Act.put _ (some 17) _ = _
                simp only [Act.put, List.setIfInBounds_toArray, List.set_cons_zero, List.set_cons_succ, i64_w, i32_w]
                rfl
              refine pure_ (i := 5) (N := some 18) (v := ?_) (a' := ?_) #[true, true, true, true, true, true, false, false, false, false, false, false, false, false, false, false, false, false, false, false, false, false, false, false, false] rfl rfl (any_of HT_.out (by kernel_rfl)) (fun _ _ _ h => h) (Or.inl ⟨by rfl, ?_⟩) ?_ ?_
              rotate_left
              · intro w'
                go_simp
                with_reducible rfl
              rotate_left
              · simp only [Act.put, List.setIfInBounds_toArray, List.set_cons_zero, List.set_cons_succ, i64_w, i32_w]
                rfl
              refine pure_ (i := 6) (N := some 19) (v := ?_) (a' := ?_) #[true, true, true, true, true, true, true, false, false, false, false, false, false, false, false, false, false, false, false, false, false, false, false, false, false] rfl rfl (any_of HT_.out (by kernel_rfl)) (fun _ _ _ h => h) (Or.inl ⟨by rfl, ?_⟩) ?_ ?_
              rotate_left
              · intro w'
                go_simp
                with_reducible rfl
              rotate_left
              · simp only [Act.put, List.setIfInBounds_toArray, List.set_cons_zero, List.set_cons_succ, i64_w, i32_w]
                rfl
              refine pure_ (i := 7) (N := some 20) (v := undef) (a' := ?_) #[true, true, true, true, true, true, true, true, false, false, false, false, false, false, false, false, false, false, false, false, false, false, false, false, false] rfl rfl (any_of HT_.out (by kernel_rfl)) (fun _ _ _ h => h) (Or.inr ⟨by rfl, rfl⟩) ?_ ?_
              rotate_left
              · simp only [Act.put, List.setIfInBounds_toArray, List.set_cons_zero, List.set_cons_succ, i64_w, i32_w]
                rfl
              refine pure_ (i := 8) (N := some 21) (v := undef) (a' := ?_) #[true, true, true, true, true, true, true, true, true, false, false, false, false, false, false, false, false, false, false, false, false, false, false, false, false] rfl rfl (any_of HT_.out (by kernel_rfl)) (fun _ _ _ h => h) (Or.inr ⟨by rfl, rfl⟩) ?_ ?_
              rotate_left
              · simp only [Act.put, List.setIfInBounds_toArray, List.set_cons_zero, List.set_cons_succ, i64_w, i32_w]
                rfl
              refine pure_ (i := 9) (N := some 22) (v := undef) (a' := ?_) #[true, true, true, true, true, true, true, true, true, true, false, false, false, false, false, false, false, false, false, false, false, false, false, false, false] rfl rfl (any_of HT_.out (by kernel_rfl)) (fun _ _ _ h => h) (Or.inr ⟨by rfl, rfl⟩) ?_ ?_
              rotate_left
              · simp only [Act.put, List.setIfInBounds_toArray, List.set_cons_zero, List.set_cons_succ, i64_w, i32_w]
                rfl
              refine pure_ (i := 10) (N := some 23) (v := undef) (a' := ?_) #[true, true, true, true, true, true, true, true, true, true, true, false, false, false, false, false, false, false, false, false, false, false, false, false, false] rfl rfl (any_of HT_.out (by kernel_rfl)) (fun _ _ _ h => h) (Or.inr ⟨by rfl, rfl⟩) ?_ ?_
              rotate_left
              · simp only [Act.put, List.setIfInBounds_toArray, List.set_cons_zero, List.set_cons_succ, i64_w, i32_w]
                rfl
              refine pure_ (i := 11) (N := some 24) (v := undef) (a' := ?_) #[true, true, true, true, true, true, true, true, true, true, true, true, false, false, false, false, false, false, false, false, false, false, false, false, false] rfl rfl (any_of HT_.out (by kernel_rfl)) (fun _ _ _ h => h) (Or.inr ⟨by rfl, rfl⟩) ?_ ?_
              rotate_left
              · simp only [Act.put, List.setIfInBounds_toArray, List.set_cons_zero, List.set_cons_succ, i64_w, i32_w]
                rfl
              refine pure_ (i := 12) (N := some 25) (v := undef) (a' := ?_) #[true, true, true, true, true, true, true, true, true, true, true, true, true, false, false, false, false, false, false, false, false, false, false, false, false] rfl rfl (any_of HT_.out (by kernel_rfl)) (fun _ _ _ h => h) (Or.inr ⟨by rfl, rfl⟩) ?_ ?_
              rotate_left
              · simp only [Act.put, List.setIfInBounds_toArray, List.set_cons_zero, List.set_cons_succ, i64_w, i32_w]
                rfl
              refine pure_ (i := 13) (N := some 26) (v := undef) (a' := ?_) #[true, true, true, true, true, true, true, true, true, true, true, true, true, true, false, false, false, false, false, false, false, false, false, false, false] rfl rfl (any_of HT_.out (by kernel_rfl)) (fun _ _ _ h => h) (Or.inr ⟨by rfl, rfl⟩) ?_ ?_
              rotate_left
              · simp only [Act.put, List.setIfInBounds_toArray, List.set_cons_zero, List.set_cons_succ, i64_w, i32_w]
                rfl
              refine pure_ (i := 14) (N := some 27) (v := undef) (a' := ?_) #[true, true, true, true, true, true, true, true, true, true, true, true, true, true, true, false, false, false, false, false, false, false, false, false, false] rfl rfl (any_of HT_.out (by kernel_rfl)) (fun _ _ _ h => h) (Or.inr ⟨by rfl, rfl⟩) ?_ ?_
              rotate_left
              · simp only [Act.put, List.setIfInBounds_toArray, List.set_cons_zero, List.set_cons_succ, i64_w, i32_w]
                rfl
              refine pure_ (i := 15) (N := some 28) (v := undef) (a' := ?_) #[true, true, true, true, true, true, true, true, true, true, true, true, true, true, true, true, false, false, false, false, false, false, false, false, false] rfl rfl (any_of HT_.out (by kernel_rfl)) (fun _ _ _ h => h) (Or.inr ⟨by rfl, rfl⟩) ?_ ?_
              rotate_left
              · simp only [Act.put, List.setIfInBounds_toArray, List.set_cons_zero, List.set_cons_succ, i64_w, i32_w]
                rfl
              refine pure_ (i := 16) (N := some 29) (v := undef) (a' := ?_) #[true, true, true, true, true, true, true, true, true, true, true, true, true, true, true, true, true, false, false, false, false, false, false, false, false] rfl rfl (any_of HT_.out (by kernel_rfl)) (fun _ _ _ h => h) (Or.inr ⟨by rfl, rfl⟩) ?_ ?_
              rotate_left
              · simp only [Act.put, List.setIfInBounds_toArray, List.set_cons_zero, List.set_cons_succ, i64_w, i32_w]
                rfl
              refine pure_ (i := 17) (N := some 30) (v := undef) (a' := ?_) #[true, true, true, true, true, true, true, true, true, true, true, true, true, true, true, true, true, true, false, false, false, false, false, false, false] rfl rfl (any_of HT_.out (by kernel_rfl)) (fun _ _ _ h => h) (Or.inr ⟨by rfl, rfl⟩) ?_ ?_
              rotate_left
              · simp only [Act.put, List.setIfInBounds_toArray, List.set_cons_zero, List.set_cons_succ, i64_w, i32_w]
                rfl
              refine pure_ (i := 18) (N := some 31) (v := undef) (a' := ?_) #[true, true, true, true, true, true, true, true, true, true, true, true, true, true, true, true, true, true, true, false, false, false, false, false, false] rfl rfl (any_of HT_.out (by kernel_rfl)) (fun _ _ _ h => h) (Or.inr ⟨by rfl, rfl⟩) ?_ ?_
              rotate_left
              · simp only [Act.put, List.setIfInBounds_toArray, List.set_cons_zero, List.set_cons_succ, i64_w, i32_w]
                rfl
              refine pure_ (i := 19) (N := some 32) (v := undef) (a' := ?_) #[true, true, true, true, true, true, true, true, true, true, true, true, true, true, true, true, true, true, true, true, false, false, false, false, false] rfl rfl (any_of HT_.out (by kernel_rfl)) (fun _ _ _ h => h) (Or.inr ⟨by rfl, rfl⟩) ?_ ?_
              rotate_left
              · simp only [Act.put, List.setIfInBounds_toArray, List.set_cons_zero, List.set_cons_succ, i64_w, i32_w]
                rfl
              refine pure_ (i := 20) (N := some 33) (v := undef) (a' := ?_) #[true, true, true, true, true, true, true, true, true, true, true, true, true, true, true, true, true, true, true, true, true, false, false, false, false] rfl rfl (any_of HT_.out (by kernel_rfl)) (fun _ _ _ h => h) (Or.inr ⟨by rfl, rfl⟩) ?_ ?_
              rotate_left
              · simp only [Act.put, List.setIfInBounds_toArray, List.set_cons_zero, List.set_cons_succ, i64_w, i32_w]
                rfl
              refine pure_ (i := 21) (N := some 34) (v := undef) (a' := ?_) #[true, true, true, true, true, true, true, true, true, true, true, true, true, true, true, true, true, true, true, true, true, true, false, false, false] rfl rfl (any_of HT_.out (by kernel_rfl)) (fun _ _ _ h => h) (Or.inr ⟨by rfl, rfl⟩) ?_ ?_
              rotate_left
              · simp only [Act.put, List.setIfInBounds_toArray, List.set_cons_zero, List.set_cons_succ, i64_w, i32_w]
                rfl
              refine pure_ (i := 22) (N := some 35) (v := undef) (a' := ?_) #[true, true, true, true, true, true, true, true, true, true, true, true, true, true, true, true, true, true, true, true, true, true, true, false, false] rfl rfl (any_of HT_.out (by kernel_rfl)) (fun _ _ _ h => h) (Or.inr ⟨by rfl, rfl⟩) ?_ ?_
              rotate_left
              · simp only [Act.put, List.setIfInBounds_toArray, List.set_cons_zero, List.set_cons_succ, i64_w, i32_w]
                rfl
              refine pure_ (i := 23) (N := some 36) (v := undef) (a' := ?_) #[true, true, true, true, true, true, true, true, true, true, true, true, true, true, true, true, true, true, true, true, true, true, true, true, false] rfl rfl (any_of HT_.out (by kernel_rfl)) (fun _ _ _ h => h) (Or.inr ⟨by rfl, rfl⟩) ?_ ?_
              rotate_left
              · simp only [Act.put, List.setIfInBounds_toArray, List.set_cons_zero, List.set_cons_succ, i64_w, i32_w]
                rfl
              refine pure_ (i := 24) (N := some 37) (v := ?_) (a' := ?_) #[true, true, true, true, true, true, true, true, true, true, true, true, true, true, true, true, true, true, true, true, true, true, true, true, true] rfl rfl (any_of HT_.out (by kernel_rfl)) (fun _ _ _ h => h) (Or.inl ⟨by rfl, ?_⟩) ?_ ?_
              rotate_left
              · intro w'
                go_simp
                with_reducible rfl
              rotate_left
              · simp only [Act.put, List.setIfInBounds_toArray, List.set_cons_zero, List.set_cons_succ, i64_w, i32_w]
                rfl
              refine done_ (done_of HT_.out (by kernel_rfl)) ?_
              try go_wp2
              go_ret
              exact ⟨by first | rfl | (simp [errW_none, errW_some] <;> rfl) | (simp [*, errW_none, errW_some] <;> rfl), by repeat (first | (with_reducible first | exact HB.out | apply below_alloc | apply pw_below_drewN | apply below_drew1) | exact HB.out)⟩
          · rw [if_neg c4] at H
            exact absurd H (by simp)
        · rw [if_neg c3] at H
          have c3b0 : decide (x3_1 < (l0.length : Int)) = false := decide_eq_false c3
          clear c3
          obtain rfl := Option.some.inj H
          go_wp2
          go_ret
          exact ⟨by first | rfl | (simp [errW_none, errW_some] <;> rfl) | (simp [*, errW_none, errW_some] <;> rfl), by repeat (first | (with_reducible first | exact HB.out | apply below_alloc | apply pw_below_drewN | apply below_drew1) | exact HB.out)⟩
end Go.Proofs.Ytfcndhajcikgiaa.B
namespace Go.Proofs.Ytfcndhajcikgiaa.B
open Go.RowKit Go.Proofs.Sp Go.Proofs.Fl Go.Proofs.YtfcndhajcikgiaaW.PrintWords Go.Proofs.YtfcndhajcikgiaaW.PrintLast Go.Proofs.YtfcndhajcikgiaaW.PrintMore
def fewB (l : List S30) (a : Int) : Bool := decide ((l.length : Int) ≤ a) && l.all fun x => decide (x.f3.size ≤ 100)
theorem few_l (l : List S30) (hl : l.length ≤ 9223372036854775806) : ∀ (d i k : Nat), i + d = l.length → d + 1 ≤ k → bonsairef13_Few.l0 k l i = some ((l.drop i).all fun x => decide (x.f3.size ≤ 100))
  | 0, i, k, hd, hk => by
    obtain ⟨k, rfl⟩ : ∃ m, k = m + 1 := ⟨k - 1, by omega⟩
    rw [bonsairef13_Few.l0, if_neg (by omega), List.drop_eq_nil_of_le (by omega)]; rfl
  | d + 1, i, k, hd, hk => by
    obtain ⟨k, rfl⟩ : ∃ m, k = m + 1 := ⟨k - 1, by omega⟩
    have hi : i < l.length := by omega
    rw [bonsairef13_Few.l0, if_pos (by omega), if_pos (by omega), rd_get l i hi, List.drop_eq_getElem_cons hi, List.all_cons, w64 (by omega) (by omega)]
    by_cases h : l[i].f3.size ≤ 100
    · rw [if_neg (by omega), decide_eq_true h, Bool.true_and]
      exact few_l l hl d (i + 1) k (by omega) (by omega)
    · rw [if_pos (by omega), decide_eq_false h]; rfl
theorem few_f (l : List S30) (a : Int) (hl : a ≤ 1000) (k : Nat) (hk : l.length + 1 ≤ k) : bonsairef13_Few.f k l a = some (fewB l a) := by
  unfold bonsairef13_Few.f fewB
  by_cases h : (l.length : Int) ≤ a
  · rw [if_neg (by omega), decide_eq_true h, Bool.true_and]
    exact few_l l (by omega) l.length 0 k (by omega) hk
  · rw [if_pos (by omega), decide_eq_false h]; rfl
theorem fewB_names {l : List S30} {a : Int} (h : fewB l a = true) : (l.length : Int) ≤ a ∧ ∀ x ∈ l, x.f3.size ≤ 100 := by
  unfold fewB at h
  simp only [Bool.and_eq_true, decide_eq_true_eq, List.all_eq_true] at h
  exact h
theorem may_l (l : List S30) (hl : l.length ≤ 2000) : ∀ (d i k : Nat), i + d = l.length → d + 72 ≤ k → bonsairef13_May.l0 k l i = some ((l.drop i).all oneM && ordM (l.drop (i - 1)))
  | 0, i, k, hd, hk => by
    obtain ⟨k, rfl⟩ : ∃ m, k = m + 1 := ⟨k - 1, by omega⟩
    rw [bonsairef13_May.l0, if_neg (by omega), List.drop_eq_nil_of_le (show l.length ≤ i by omega)]
    rcases Nat.lt_or_ge (i - 1) l.length with h | h
    · rw [List.drop_eq_getElem_cons h, List.drop_eq_nil_of_le (by omega)]; rfl
    · rw [List.drop_eq_nil_of_le h]; rfl
  | d + 1, i, k, hd, hk => by
    obtain ⟨k, rfl⟩ : ∃ m, k = m + 1 := ⟨k - 1, by omega⟩
    have hi : i < l.length := by omega
    rw [bonsairef13_May.l0, if_pos (by omega), if_pos (by omega), rd_get l i hi, rone_f _ _ _ _ _ _ k (by omega), List.drop_eq_getElem_cons hi, List.all_cons, w64 (n := (i : Int) + 1) (by omega) (by omega)]
    simp only [Option.bind_some]
    cases ho : oneB l[i].f0.f0 l[i].f0.f1 l[i].f1 l[i].f2 l[i].f3 with
    | false => rw [if_neg (by decide), show oneM l[i] = false from ho]; rfl
    | true =>
      rw [if_pos rfl, show oneM l[i] = true from ho, Bool.true_and]
      have ih := may_l l hl d (i + 1) k (by omega) (by omega)
      rw [show ((i + 1 : Nat) : Int) = (i : Int) + 1 from rfl] at ih
      by_cases h0 : i = 0
      · subst h0
        rw [if_neg (by omega), ih]
      · obtain ⟨j, rfl⟩ : ∃ j, i = j + 1 := ⟨i - 1, by omega⟩
        have hj : j < l.length := by omega
        have e1 : wrap64 (((j + 1 : Nat) : Int) - 1) = (j : Int) := by rw [w64 (by omega) (by omega)]; omega
        rw [if_pos (by omega), e1, if_pos (by omega), if_pos (by omega), rd_get l j hj, rbefore_f]
        simp only [Option.bind_some]
        rw [show j + 1 - 1 = j by omega, List.drop_eq_getElem_cons hj, List.drop_eq_getElem_cons hi, ordM]
        rw [show j + 1 + 1 - 1 = j + 1 by omega, List.drop_eq_getElem_cons hi] at ih
        cases hb : beforeB l[j].f0.f0 l[j].f0.f1 l[j + 1].f0.f0 l[j + 1].f0.f1 with
        | false => rw [if_neg (by decide), Bool.false_and, Bool.and_false]
        | true => rw [if_pos rfl, ih, Bool.true_and]
theorem may_ref_f (l : List S30) (k : Nat) (hk : l.length + 72 ≤ k) : bonsairef13_May.f k l = some (mayM l) := by
  unfold bonsairef13_May.f mayM
  by_cases h : l.length ≤ 2000
  · rw [if_neg (by omega), decide_eq_true h, Bool.and_true]
    have := may_l l h l.length 0 k (by omega) hk
    rw [show ((0 : Nat) : Int) = 0 from rfl] at this
    rw [this, List.drop_zero, Bool.and_comm]
  · rw [if_pos (by omega), decide_eq_false h, Bool.and_false, Bool.false_and]
end Go.Proofs.Ytfcndhajcikgiaa.B
