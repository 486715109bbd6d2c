/- RowsSizes: for every input the law returns true, and the input reads behind the call as it read before. (Part 6 of 10.) -/
import Derived.Test.YtfcndhajcikgiaaKSizes5
set_option linter.unusedVariables false
set_option linter.unusedSimpArgs false
namespace Go.Proofs.Ytfcndhajcikgiaa.B
open Go.RowKit Go.Proofs.YtfcndhajcikgiaaW.PrintWords Go.Proofs.YtfcndhajcikgiaaW.PrintLast Go.Proofs.YtfcndhajcikgiaaW.PrintMore
def bonsairef13_Same.l0 : Nat → List (S30) → List (S30) → Int → Option (Bool)
  | 0, _, _, _ => none
  | k + 1, x0, x1, x5 => if x5 < (x0.length : Int) then (if 0 ≤ x5 then (if x5 < (x1.length : Int) then ((bonsairef13_Alike.f ((rd_T30 x0 x5).f0.f0) ((rd_T30 x0 x5).f0.f1) ((rd_T30 x0 x5).f1) ((rd_T30 x0 x5).f2) ((rd_T30 x0 x5).f3) ((rd_T30 x0 x5).f4) ((rd_T30 x1 x5).f0.f0) ((rd_T30 x1 x5).f0.f1) ((rd_T30 x1 x5).f1) ((rd_T30 x1 x5).f2) ((rd_T30 x1 x5).f3) ((rd_T30 x1 x5).f4)).bind fun t319 => (if t319 = true then (bonsairef13_Same.l0 k x0 x1 (wrap64 (x5 + 1))) else (some false))) else (none)) else (none)) else (some true)
def bonsairef13_Same.f (k : Nat) (l0 : List (S30)) (l1 : List (S30)) : Option (Bool) := if (l0.length : Int) = (l1.length : Int) then (bonsairef13_Same.l0 k l0 l1 0) else (some false)
theorem bonsairef13_Same.mono_l : ∀ k, (∀ y0 y1 y2, LeO (bonsairef13_Same.l0 k y0 y1 y2) (bonsairef13_Same.l0 (k + 1) y0 y1 y2))
  | 0 => fun _ _ _ r h => by simp [bonsairef13_Same.l0] at h
  | k + 1 => by
    have ih0 := bonsairef13_Same.mono_l k
    · intro y0 y1 y2
      unfold bonsairef13_Same.l0
      repeat' first
      | (with_reducible exact ih0 _ _ _)
      | (with_reducible exact LeO.refl _)
      | (with_reducible exact LeO.none _)
      | (with_reducible refine LeO.ite ?_ ?_)
      | (with_reducible refine LeO.bind ?_ (fun _ => ?_))
      | exact ih0 _ _ _
      | exact LeO.none _
      | refine LeO.ite ?_ ?_
      | refine LeO.bind ?_ (fun _ => ?_)
theorem bonsairef13_Same.mono : ∀ a0 a1 k, LeO (bonsairef13_Same.f k a0 a1) (bonsairef13_Same.f (k + 1) a0 a1) := by
  intro a0 a1 k
  have ih0 := bonsairef13_Same.mono_l k
  unfold bonsairef13_Same.f
  repeat' first
      | (with_reducible exact ih0 _ _ _)
      | (with_reducible exact LeO.refl _)
      | (with_reducible exact LeO.none _)
      | (with_reducible refine LeO.ite ?_ ?_)
      | (with_reducible refine LeO.bind ?_ (fun _ => ?_))
      | exact ih0 _ _ _
      | exact LeO.none _
      | refine LeO.ite ?_ ?_
      | refine LeO.bind ?_ (fun _ => ?_)
def bonsairef13_Same.T6 : Bool × List (List Nat × List Nat) := (true, [([], []), ([], []), ([0, 1], [0, 1]), ([2], [2]), ([], []), ([], []), ([4, 5], [4, 5]), ([6], [6]), ([3, 7], [3, 7]), ([8], [8])])
def bonsairef13_Same.B6 : List Nat := [0, 0, 3, 7, 0, 0, 48, 112, 255, 511]
theorem bonsairef13_Same.tab6 : rtab .any (opsOf Try.f15 6) = bonsairef13_Same.T6 := by kernel_rfl
theorem bonsairef13_Same.bits6 : waitsOk bonsairef13_Same.T6.2 bonsairef13_Same.B6 = true := by kernel_rfl
set_option maxHeartbeats 8000000 in
set_option maxRecDepth 100000 in
theorem bonsairef13_Same.calls (k : Nat) (A0 : Option Addr) (c0 : Nat) (l0 : List (S30)) (A1 : Option Addr) (c1 : Nat) (l1 : List (S30)) (r : Bool) (w : World) (hr0 : Kd.C k30 w A0 l0.length l0) (hc0 : l0.length ≤ c0) (hr1 : Kd.C k30 w A1 l1.length l1) (hc1 : l1.length ≤ c1) (h : bonsairef13_Same.f k l0 l1 = some r) :
    Calls Try.prog 15 #[.slice A0 l0.length c0, .slice A1 l1.length c1] w fun e w' => e = .returned (.bool r) ∧ Below w.heap.size w w' := by
  have hu30 := Try.underlying30
  have HR0 := Aside0.mk hr0
  have HC0 := Aside0.mk hc0
  clear hr0 hc0
  have HR1 := Aside0.mk hr1
  have HC1 := Aside0.mk hc1
  clear hr1 hc1
  have HB := Aside0.mk (Below.refl w.heap.size w)
  have H : (if (l0.length : Int) = (l1.length : Int) then (bonsairef13_Same.l0 k l0 l1 0) else (some false)) = some r := h
  clear h
  by_cases c3 : (l0.length : Int) = (l1.length : Int)
  · rw [if_pos c3] at H
    have c3b0 : ((l0.length : Int) == (l1.length : Int)) = true := beq_iff_eq.mpr c3
    have c3b1 : ((l0.length : Int) != (l1.length : Int)) = false := bne_eq_false_iff_eq.mpr c3
    have c3b2 : (l0.length == l1.length) = true := by first | simpa using c3 | (simp at c3 ⊢; omega)
    clear c3
    have H' := Aside0.mk H
    clear H
    go_enter Try.func15, Try.ntmps15
    go_wp2
    go_loopg [5] k (fun kq v5 w' => ∃ (x5_1 : Int), v5 = .int .i64 x5_1 ∧ Aside0 (bonsairef13_Same.l0 kq l0 l1 x5_1 = some r) ∧ Aside0 (kq ≤ k) ∧ Aside0 (Below w.heap.size w w'))
    case atStart => exact ⟨(0), (by first | rfl | (simp; done) | (simp [*]; done)), H', ⟨Nat.le_refl _⟩, ⟨by repeat (first | (with_reducible first | exact HB.out | apply below_alloc | apply pw_below_drewN | apply below_drew1) | exact HB.out)⟩⟩
    case round =>
      clear H'
      try clear c1
      try clear p2
      try clear c3
      try clear c3b0
      try clear c3b1
      try clear c3b2
      obtain ⟨x5_1, rfl, HA, HK1, HB⟩ := hrel
      cases gk with
      | zero => exact absurd HA.out (by simp [bonsairef13_Same.l0])
      | succ k1 =>
        have H := HA.out
        clear HA
        simp only [bonsairef13_Same.l0] at H
        by_cases c4 : x5_1 < (l0.length : Int)
        · rw [if_pos c4] at H
          have c4b0 : decide (x5_1 < (l0.length : Int)) = true := decide_eq_true c4
          clear c4
          by_cases c5 : 0 ≤ x5_1
          · rw [if_pos c5] at H
            have c5b0 : decide (0 ≤ x5_1) = true := decide_eq_true c5
            clear c5
            by_cases c6 : x5_1 < (l1.length : Int)
            · rw [if_pos c6] at H
              have c6b0 : decide (x5_1 < (l1.length : Int)) = true := decide_eq_true c6
              clear c6
              replace H := Option.bind_eq_some_iff.mp H
              obtain ⟨t319, A70, H⟩ := H
              replace H : (if t319 = true then (bonsairef13_Same.l0 k1 l0 l1 (wrap64 (x5_1 + 1))) else (some false)) = some r := H
              have A7 := Aside0.mk A70
              clear A70
              by_cases c8 : t319 = true
              · subst c8
                have H1 : (bonsairef13_Same.l0 k1 l0 l1 (wrap64 (x5_1 + 1))) = some r := by rw [if_pos rfl] at H; exact H
                clear H
                have H := H1
                clear H1
                have H' := Aside0.mk H
                clear H
                try go_wp2
                have n0_ := Aside0.mk (below_drew1 HB.out)
                clear HB
                have HB := n0_
                clear n0_
                have p317 : 0 ≤ (x5_1 : Int) := of_decide_eq_true (by first | (with_reducible assumption) | assumption)
                have q317 : x5_1 < (l0.length : Int) := of_decide_eq_true (by first | (with_reducible assumption) | assumption)
                obtain ⟨ad317, e317, hx317_0, hx317_1, hx317_2, hx317_3, hx317_4, hx317_5⟩ := at_T30 HR0.out x5_1 p317 q317
                have hw317_5 := hx317_5
                have hw317_4 := hx317_4
                have hw317_3 := hx317_3
                have hw317_2 := hx317_2
                have hw317_1 := hx317_1
                have hw317_0 := hx317_0
                cases e317
                replace hx317_0 := (HB.out.cell (World.block_lt_of_cell? w _ hx317_0)).trans hx317_0
                replace hx317_1 := (HB.out.cell (World.block_lt_of_cell? w _ hx317_1)).trans hx317_1
                replace hx317_2 := (HB.out.cell (World.block_lt_of_cell? w _ hx317_2)).trans hx317_2
                replace hx317_3 := (HB.out.cell (World.block_lt_of_cell? w _ hx317_3)).trans hx317_3
                replace hx317_4 := (HB.out.cell (World.block_lt_of_cell? w _ hx317_4)).trans hx317_4
                replace hx317_5 := (HB.out.cell (World.block_lt_of_cell? w _ hx317_5)).trans hx317_5
                replace p317 := eq_true p317
                replace q317 := eq_true q317
                have p318 : 0 ≤ (x5_1 : Int) := of_decide_eq_true (by first | (with_reducible assumption) | assumption)
                have q318 : x5_1 < (l1.length : Int) := of_decide_eq_true (by first | (with_reducible assumption) | assumption)
                obtain ⟨ad318, e318, hx318_0, hx318_1, hx318_2, hx318_3, hx318_4, hx318_5⟩ := at_T30 HR1.out x5_1 p318 q318
                have hw318_5 := hx318_5
                have hw318_4 := hx318_4
                have hw318_3 := hx318_3
                have hw318_2 := hx318_2
                have hw318_1 := hx318_1
                have hw318_0 := hx318_0
                cases e318
                replace hx318_0 := (HB.out.cell (World.block_lt_of_cell? w _ hx318_0)).trans hx318_0
                replace hx318_1 := (HB.out.cell (World.block_lt_of_cell? w _ hx318_1)).trans hx318_1
                replace hx318_2 := (HB.out.cell (World.block_lt_of_cell? w _ hx318_2)).trans hx318_2
                replace hx318_3 := (HB.out.cell (World.block_lt_of_cell? w _ hx318_3)).trans hx318_3
                replace hx318_4 := (HB.out.cell (World.block_lt_of_cell? w _ hx318_4)).trans hx318_4
                replace hx318_5 := (HB.out.cell (World.block_lt_of_cell? w _ hx318_5)).trans hx318_5
                replace p318 := eq_true p318
                replace q318 := eq_true q318
                refine start_ (n := 10) (S := fun w' => w'.cell? (ad317.add ((x5_1).toNat * 6)) = some (.int .i64 ((rd_T30 l0 x5_1).f0.f0)) ∧ w'.cell? ⟨(ad317.add ((x5_1).toNat * 6)).block, (ad317.add ((x5_1).toNat * 6)).off + 1, none⟩ = some (.int .i64 ((rd_T30 l0 x5_1).f0.f1)) ∧ w'.cell? ⟨(ad317.add ((x5_1).toNat * 6)).block, (ad317.add ((x5_1).toNat * 6)).off + 2, none⟩ = some (.int .i64 ((rd_T30 l0 x5_1).f1)) ∧ w'.cell? ⟨(ad317.add ((x5_1).toNat * 6)).block, (ad317.add ((x5_1).toNat * 6)).off + 3, none⟩ = some (.int .i64 ((rd_T30 l0 x5_1).f2)) ∧ w'.cell? ⟨(ad317.add ((x5_1).toNat * 6)).block, (ad317.add ((x5_1).toNat * 6)).off + 4, none⟩ = some (.string ((rd_T30 l0 x5_1).f3)) ∧ w'.cell? ⟨(ad317.add ((x5_1).toNat * 6)).block, (ad317.add ((x5_1).toNat * 6)).off + 5, none⟩ = some (.float .f64 ((rd_T30 l0 x5_1).f4)) ∧ w'.cell? (ad318.add ((x5_1).toNat * 6)) = some (.int .i64 ((rd_T30 l1 x5_1).f0.f0)) ∧ w'.cell? ⟨(ad318.add ((x5_1).toNat * 6)).block, (ad318.add ((x5_1).toNat * 6)).off + 1, none⟩ = some (.int .i64 ((rd_T30 l1 x5_1).f0.f1)) ∧ w'.cell? ⟨(ad318.add ((x5_1).toNat * 6)).block, (ad318.add ((x5_1).toNat * 6)).off + 2, none⟩ = some (.int .i64 ((rd_T30 l1 x5_1).f1)) ∧ w'.cell? ⟨(ad318.add ((x5_1).toNat * 6)).block, (ad318.add ((x5_1).toNat * 6)).off + 3, none⟩ = some (.int .i64 ((rd_T30 l1 x5_1).f2)) ∧ w'.cell? ⟨(ad318.add ((x5_1).toNat * 6)).block, (ad318.add ((x5_1).toNat * 6)).off + 4, none⟩ = some (.string ((rd_T30 l1 x5_1).f3)) ∧ w'.cell? ⟨(ad318.add ((x5_1).toNat * 6)).block, (ad318.add ((x5_1).toNat * 6)).off + 5, none⟩ = some (.float .f64 ((rd_T30 l1 x5_1).f4))) (ds := []) #[false, false, false, false, false, false, false, false, false, false] (by kernel_rfl) rfl rfl ⟨((HB.out.cell (World.block_lt_of_cell? w _ hw317_0)).trans hw317_0), ((HB.out.cell (World.block_lt_of_cell? w _ hw317_1)).trans hw317_1), ((HB.out.cell (World.block_lt_of_cell? w _ hw317_2)).trans hw317_2), ((HB.out.cell (World.block_lt_of_cell? w _ hw317_3)).trans hw317_3), ((HB.out.cell (World.block_lt_of_cell? w _ hw317_4)).trans hw317_4), ((HB.out.cell (World.block_lt_of_cell? w _ hw317_5)).trans hw317_5), ((HB.out.cell (World.block_lt_of_cell? w _ hw318_0)).trans hw318_0), ((HB.out.cell (World.block_lt_of_cell? w _ hw318_1)).trans hw318_1), ((HB.out.cell (World.block_lt_of_cell? w _ hw318_2)).trans hw318_2), ((HB.out.cell (World.block_lt_of_cell? w _ hw318_3)).trans hw318_3), ((HB.out.cell (World.block_lt_of_cell? w _ hw318_4)).trans hw318_4), ((HB.out.cell (World.block_lt_of_cell? w _ hw318_5)).trans hw318_5)⟩ (fun hHeld => ?_); refine with_tabW bonsairef13_Same.tab6 bonsairef13_Same.bits6 (fun HT_ HW_ => ?_)
                generalize wr.drew = w9 at HB hx317_0 hx317_1 hx317_2 hx317_3 hx317_4 hx317_5 hx318_0 hx318_1 hx318_2 hx318_3 hx318_4 hx318_5 hHeld ⊢
                refine pure_ (i := 0) (N := some 17) (v := ?_) (a' := ?_) #[true, false, false, false, false, false, false, false, false, false] rfl rfl (any_of HT_.out (by kernel_rfl)) (fun _ _ _ h => h) (Or.inl ⟨by rfl, ?_⟩) ?_ ?_
                rotate_left
                · intro w'
                  go_simp
                  with_reducible rfl
                rotate_left
                · simp only [Act.put, List.setIfInBounds_toArray, List.set_cons_zero, List.set_cons_succ, i64_w, i32_w]
                  rfl
                refine pure_ (i := 1) (N := some 18) (v := ?_) (a' := ?_) #[true, true, false, false, false, false, false, false, false, false] rfl rfl (any_of HT_.out (by kernel_rfl)) (fun _ _ _ h => h) (Or.inl ⟨by rfl, ?_⟩) ?_ ?_
                rotate_left
                · intro w'
                  go_simp
                  with_reducible rfl
                rotate_left
                · simp only [Act.put, List.setIfInBounds_toArray, List.set_cons_zero, List.set_cons_succ, i64_w, i32_w]
                  rfl
                refine pure_ (i := 2) (N := some 19) (v := ?_) (a' := ?_) #[true, true, true, false, false, false, false, false, false, false] rfl rfl (any_of HT_.out (by kernel_rfl)) (fun _ _ _ h => h) (Or.inl ⟨by rfl, ?_⟩) ?_ ?_
                rotate_left
                · intro w'
                  go_simp
                  with_reducible rfl
                rotate_left
                · simp only [Act.put, List.setIfInBounds_toArray, List.set_cons_zero, List.set_cons_succ, i64_w, i32_w]
                  rfl
                refine pure_ (i := 4) (N := some 21) (v := ?_) (a' := ?_) #[true, true, true, false, true, false, false, false, false, false] rfl rfl (any_of HT_.out (by kernel_rfl)) (fun _ _ _ h => h) (Or.inl ⟨by rfl, ?_⟩) ?_ ?_
                rotate_left
                · intro w'
                  go_simp
                  with_reducible rfl
                rotate_left
                · simp only [Act.put, List.setIfInBounds_toArray, List.set_cons_zero, List.set_cons_succ, i64_w, i32_w]
                  rfl
                refine pure_ (i := 5) (N := some 22) (v := ?_) (a' := ?_) #[true, true, true, false, true, true, false, false, false, false] rfl rfl (any_of HT_.out (by kernel_rfl)) (fun _ _ _ h => h) (Or.inl ⟨by rfl, ?_⟩) ?_ ?_
                rotate_left
                · intro w'
                  go_simp
                  with_reducible rfl
                rotate_left
                · simp only [Act.put, List.setIfInBounds_toArray, List.set_cons_zero, List.set_cons_succ, i64_w, i32_w]
                  rfl
                refine pure_ (i := 6) (N := some 23) (v := ?_) (a' := ?_) #[true, true, true, false, true, true, true, false, false, false] rfl rfl (any_of HT_.out (by kernel_rfl)) (fun _ _ _ h => h) (Or.inl ⟨by rfl, ?_⟩) ?_ ?_
                rotate_left
                · intro w'
                  go_simp
                  with_reducible rfl
                rotate_left
                · simp only [Act.put, List.setIfInBounds_toArray, List.set_cons_zero, List.set_cons_succ, i64_w, i32_w]
                  rfl
                refine take_ (i := 3) (N := some 20) (v := ?_) (a' := ?_) #[true, true, true, true, true, true, true, false, false, false] rfl rfl (take_ofW HT_.out HW_.out (by kernel_rfl)) (fun _ _ _ h => h) (Or.inl ⟨by rfl, ?_⟩) hHeld ?_ ?_
                rotate_left
                · rintro w' ⟨s0, s1, s2, s3, s4, s5, s6, s7, s8, s9, s10, s11⟩
                  go_simp
                  with_reducible rfl
                rotate_left
                · simp only [Act.put, List.setIfInBounds_toArray, List.set_cons_zero, List.set_cons_succ, i64_w, i32_w]
                  rfl
                refine take_ (i := 7) (N := some 24) (v := ?_) (a' := ?_) #[true, true, true, true, true, true, true, true, false, false] rfl rfl (take_ofW HT_.out HW_.out (by kernel_rfl)) (fun _ _ _ h => h) (Or.inl ⟨by rfl, ?_⟩) hHeld ?_ ?_
                rotate_left
                · rintro w' ⟨s0, s1, s2, s3, s4, s5, s6, s7, s8, s9, s10, s11⟩
                  go_simp
                  with_reducible rfl
                rotate_left
                · simp only [Act.put, List.setIfInBounds_toArray, List.set_cons_zero, List.set_cons_succ, i64_w, i32_w]
                  rfl
                refine one_ (i := 8) (N := some 25) #[true, true, true, true, true, true, true, true, true, false] rfl rfl (one_of HT_.out (by kernel_rfl)) (by decide) (fun K hK => ?_)
                refine goes_ Try.func44 (by kernel_rfl) rfl #[.agg #[.int .i64 ((rd_T30 l0 x5_1).f0.f0), .int .i64 ((rd_T30 l0 x5_1).f0.f1), .int .i64 ((rd_T30 l0 x5_1).f1), .int .i64 ((rd_T30 l0 x5_1).f2), .string ((rd_T30 l0 x5_1).f3), .float .f64 ((rd_T30 l0 x5_1).f4)], .agg #[.int .i64 ((rd_T30 l1 x5_1).f0.f0), .int .i64 ((rd_T30 l1 x5_1).f0.f1), .int .i64 ((rd_T30 l1 x5_1).f1), .int .i64 ((rd_T30 l1 x5_1).f2), .string ((rd_T30 l1 x5_1).f3), .float .f64 ((rd_T30 l1 x5_1).f4)]] (by rfl) rfl rfl (by (try simp only [List.map_toArray, List.map_cons, List.map_nil]); first | done | rfl | (simp only [List.length_drop, List.length_take]; rfl)) ?_
                with_reducible refine (bonsairef13_Alike.calls ((rd_T30 l0 x5_1).f0.f0) ((rd_T30 l0 x5_1).f0.f1) ((rd_T30 l0 x5_1).f1) ((rd_T30 l0 x5_1).f2) ((rd_T30 l0 x5_1).f3) ((rd_T30 l0 x5_1).f4) ((rd_T30 l1 x5_1).f0.f0) ((rd_T30 l1 x5_1).f0.f1) ((rd_T30 l1 x5_1).f1) ((rd_T30 l1 x5_1).f2) ((rd_T30 l1 x5_1).f3) ((rd_T30 l1 x5_1).f4) true _ A7.out).mono ?_
                rintro e w10 ⟨rfl, hb⟩
                refine ⟨_, rfl, ?_⟩
                have n0_ := Aside0.mk (below_step (by repeat (first | (with_reducible first | exact HB.out | apply below_alloc | apply pw_below_drewN | apply below_drew1) | exact HB.out)) hb)
                clear HB
                have HB := n0_
                clear n0_
                (try clear hb)
                (try clear hb2)
                (try clear hk)
                (try clear hi)
                refine hK.out _ _ ⟨((HB.out.cell (World.block_lt_of_cell? w _ hw317_0)).trans hw317_0), ((HB.out.cell (World.block_lt_of_cell? w _ hw317_1)).trans hw317_1), ((HB.out.cell (World.block_lt_of_cell? w _ hw317_2)).trans hw317_2), ((HB.out.cell (World.block_lt_of_cell? w _ hw317_3)).trans hw317_3), ((HB.out.cell (World.block_lt_of_cell? w _ hw317_4)).trans hw317_4), ((HB.out.cell (World.block_lt_of_cell? w _ hw317_5)).trans hw317_5), ((HB.out.cell (World.block_lt_of_cell? w _ hw318_0)).trans hw318_0), ((HB.out.cell (World.block_lt_of_cell? w _ hw318_1)).trans hw318_1), ((HB.out.cell (World.block_lt_of_cell? w _ hw318_2)).trans hw318_2), ((HB.out.cell (World.block_lt_of_cell? w _ hw318_3)).trans hw318_3), ((HB.out.cell (World.block_lt_of_cell? w _ hw318_4)).trans hw318_4), ((HB.out.cell (World.block_lt_of_cell? w _ hw318_5)).trans hw318_5)⟩ (fun hHeld => ?_)
                clear hK K
                refine norm_ (a' := ?_) ?_ ?_
                rotate_left
                · show Act.put _ (some 25) _ = _
                  simp only [Act.put, List.setIfInBounds_toArray, List.set_cons_zero, List.set_cons_succ, i64_w, i32_w]
                  rfl
                refine pure_ (i := 9) (N := some 26) (v := ?_) (a' := ?_) #[true, true, true, true, true, true, true, true, true, true] rfl rfl (any_of HT_.out (by kernel_rfl)) (fun _ _ _ h => h) (Or.inl ⟨by rfl, ?_⟩) ?_ ?_
                rotate_left
                · intro w'
                  go_simp
                  with_reducible rfl
                rotate_left
                · simp only [Act.put, List.setIfInBounds_toArray, List.set_cons_zero, List.set_cons_succ, i64_w, i32_w]
                  rfl
                refine done_ (done_of HT_.out (by kernel_rfl)) ?_
                try go_wp2
                go_roundg k1
                case measure => have := HK1.out; omega
                case rel => exact ⟨(wrap64 (x5_1 + 1)), (by first | rfl | (simp; done) | (simp [*]; done)), H', ⟨by have := HK1.out; omega⟩, ⟨by repeat (first | (with_reducible first | exact HB.out | apply below_alloc | apply pw_below_drewN | apply below_drew1) | exact HB.out)⟩⟩
              · replace c8 := Bool.eq_false_iff.mpr c8
                subst c8
                have H1 : (some false) = some r := by rw [if_neg (show ¬ (false = true) by decide)] at H; exact H
                clear H
                have H := H1
                clear H1
                obtain rfl := Option.some.inj H
                try go_wp2
                have n0_ := Aside0.mk (below_drew1 HB.out)
                clear HB
                have HB := n0_
                clear n0_
                have p317 : 0 ≤ (x5_1 : Int) := of_decide_eq_true (by first | (with_reducible assumption) | assumption)
                have q317 : x5_1 < (l0.length : Int) := of_decide_eq_true (by first | (with_reducible assumption) | assumption)
                obtain ⟨ad317, e317, hx317_0, hx317_1, hx317_2, hx317_3, hx317_4, hx317_5⟩ := at_T30 HR0.out x5_1 p317 q317
                have hw317_5 := hx317_5
                have hw317_4 := hx317_4
                have hw317_3 := hx317_3
                have hw317_2 := hx317_2
                have hw317_1 := hx317_1
                have hw317_0 := hx317_0
                cases e317
                replace hx317_0 := (HB.out.cell (World.block_lt_of_cell? w _ hx317_0)).trans hx317_0
                replace hx317_1 := (HB.out.cell (World.block_lt_of_cell? w _ hx317_1)).trans hx317_1
                replace hx317_2 := (HB.out.cell (World.block_lt_of_cell? w _ hx317_2)).trans hx317_2
                replace hx317_3 := (HB.out.cell (World.block_lt_of_cell? w _ hx317_3)).trans hx317_3
                replace hx317_4 := (HB.out.cell (World.block_lt_of_cell? w _ hx317_4)).trans hx317_4
                replace hx317_5 := (HB.out.cell (World.block_lt_of_cell? w _ hx317_5)).trans hx317_5
                replace p317 := eq_true p317
                replace q317 := eq_true q317
                have p318 : 0 ≤ (x5_1 : Int) := of_decide_eq_true (by first | (with_reducible assumption) | assumption)
                have q318 : x5_1 < (l1.length : Int) := of_decide_eq_true (by first | (with_reducible assumption) | assumption)
                obtain ⟨ad318, e318, hx318_0, hx318_1, hx318_2, hx318_3, hx318_4, hx318_5⟩ := at_T30 HR1.out x5_1 p318 q318
                have hw318_5 := hx318_5
                have hw318_4 := hx318_4
                have hw318_3 := hx318_3
                have hw318_2 := hx318_2
                have hw318_1 := hx318_1
                have hw318_0 := hx318_0
                cases e318
                replace hx318_0 := (HB.out.cell (World.block_lt_of_cell? w _ hx318_0)).trans hx318_0
                replace hx318_1 := (HB.out.cell (World.block_lt_of_cell? w _ hx318_1)).trans hx318_1
                replace hx318_2 := (HB.out.cell (World.block_lt_of_cell? w _ hx318_2)).trans hx318_2
                replace hx318_3 := (HB.out.cell (World.block_lt_of_cell? w _ hx318_3)).trans hx318_3
                replace hx318_4 := (HB.out.cell (World.block_lt_of_cell? w _ hx318_4)).trans hx318_4
                replace hx318_5 := (HB.out.cell (World.block_lt_of_cell? w _ hx318_5)).trans hx318_5
                replace p318 := eq_true p318
                replace q318 := eq_true q318
                refine start_ (n := 10) (S := fun w' => w'.cell? (ad317.add ((x5_1).toNat * 6)) = some (.int .i64 ((rd_T30 l0 x5_1).f0.f0)) ∧ w'.cell? ⟨(ad317.add ((x5_1).toNat * 6)).block, (ad317.add ((x5_1).toNat * 6)).off + 1, none⟩ = some (.int .i64 ((rd_T30 l0 x5_1).f0.f1)) ∧ w'.cell? ⟨(ad317.add ((x5_1).toNat * 6)).block, (ad317.add ((x5_1).toNat * 6)).off + 2, none⟩ = some (.int .i64 ((rd_T30 l0 x5_1).f1)) ∧ w'.cell? ⟨(ad317.add ((x5_1).toNat * 6)).block, (ad317.add ((x5_1).toNat * 6)).off + 3, none⟩ = some (.int .i64 ((rd_T30 l0 x5_1).f2)) ∧ w'.cell? ⟨(ad317.add ((x5_1).toNat * 6)).block, (ad317.add ((x5_1).toNat * 6)).off + 4, none⟩ = some (.string ((rd_T30 l0 x5_1).f3)) ∧ w'.cell? ⟨(ad317.add ((x5_1).toNat * 6)).block, (ad317.add ((x5_1).toNat * 6)).off + 5, none⟩ = some (.float .f64 ((rd_T30 l0 x5_1).f4)) ∧ w'.cell? (ad318.add ((x5_1).toNat * 6)) = some (.int .i64 ((rd_T30 l1 x5_1).f0.f0)) ∧ w'.cell? ⟨(ad318.add ((x5_1).toNat * 6)).block, (ad318.add ((x5_1).toNat * 6)).off + 1, none⟩ = some (.int .i64 ((rd_T30 l1 x5_1).f0.f1)) ∧ w'.cell? ⟨(ad318.add ((x5_1).toNat * 6)).block, (ad318.add ((x5_1).toNat * 6)).off + 2, none⟩ = some (.int .i64 ((rd_T30 l1 x5_1).f1)) ∧ w'.cell? ⟨(ad318.add ((x5_1).toNat * 6)).block, (ad318.add ((x5_1).toNat * 6)).off + 3, none⟩ = some (.int .i64 ((rd_T30 l1 x5_1).f2)) ∧ w'.cell? ⟨(ad318.add ((x5_1).toNat * 6)).block, (ad318.add ((x5_1).toNat * 6)).off + 4, none⟩ = some (.string ((rd_T30 l1 x5_1).f3)) ∧ w'.cell? ⟨(ad318.add ((x5_1).toNat * 6)).block, (ad318.add ((x5_1).toNat * 6)).off + 5, none⟩ = some (.float .f64 ((rd_T30 l1 x5_1).f4))) (ds := []) #[false, false, false, false, false, false, false, false, false, false] (by kernel_rfl) rfl rfl ⟨((HB.out.cell (World.block_lt_of_cell? w _ hw317_0)).trans hw317_0), ((HB.out.cell (World.block_lt_of_cell? w _ hw317_1)).trans hw317_1), ((HB.out.cell (World.block_lt_of_cell? w _ hw317_2)).trans hw317_2), ((HB.out.cell (World.block_lt_of_cell? w _ hw317_3)).trans hw317_3), ((HB.out.cell (World.block_lt_of_cell? w _ hw317_4)).trans hw317_4), ((HB.out.cell (World.block_lt_of_cell? w _ hw317_5)).trans hw317_5), ((HB.out.cell (World.block_lt_of_cell? w _ hw318_0)).trans hw318_0), ((HB.out.cell (World.block_lt_of_cell? w _ hw318_1)).trans hw318_1), ((HB.out.cell (World.block_lt_of_cell? w _ hw318_2)).trans hw318_2), ((HB.out.cell (World.block_lt_of_cell? w _ hw318_3)).trans hw318_3), ((HB.out.cell (World.block_lt_of_cell? w _ hw318_4)).trans hw318_4), ((HB.out.cell (World.block_lt_of_cell? w _ hw318_5)).trans hw318_5)⟩ (fun hHeld => ?_); refine with_tabW bonsairef13_Same.tab6 bonsairef13_Same.bits6 (fun HT_ HW_ => ?_)
                generalize wr.drew = w11 at HB hx317_0 hx317_1 hx317_2 hx317_3 hx317_4 hx317_5 hx318_0 hx318_1 hx318_2 hx318_3 hx318_4 hx318_5 hHeld ⊢
                refine pure_ (i := 0) (N := some 17) (v := ?_) (a' := ?_) #[true, false, false, false, false, false, false, false, false, false] rfl rfl (any_of HT_.out (by kernel_rfl)) (fun _ _ _ h => h) (Or.inl ⟨by rfl, ?_⟩) ?_ ?_
                rotate_left
                · intro w'
                  go_simp
                  with_reducible rfl
                rotate_left
                · simp only [Act.put, List.setIfInBounds_toArray, List.set_cons_zero, List.set_cons_succ, i64_w, i32_w]
                  rfl
                refine pure_ (i := 1) (N := some 18) (v := ?_) (a' := ?_) #[true, true, false, false, false, false, false, false, false, false] rfl rfl (any_of HT_.out (by kernel_rfl)) (fun _ _ _ h => h) (Or.inl ⟨by rfl, ?_⟩) ?_ ?_
                rotate_left
                · intro w'
                  go_simp
                  with_reducible rfl
                rotate_left
                · simp only [Act.put, List.setIfInBounds_toArray, List.set_cons_zero, List.set_cons_succ, i64_w, i32_w]
                  rfl
                refine pure_ (i := 2) (N := some 19) (v := ?_) (a' := ?_) #[true, true, true, false, false, false, false, false, false, false] rfl rfl (any_of HT_.out (by kernel_rfl)) (fun _ _ _ h => h) (Or.inl ⟨by rfl, ?_⟩) ?_ ?_
                rotate_left
                · intro w'
                  go_simp
                  with_reducible rfl
                rotate_left
                · simp only [Act.put, List.setIfInBounds_toArray, List.set_cons_zero, List.set_cons_succ, i64_w, i32_w]
                  rfl
                refine pure_ (i := 4) (N := some 21) (v := ?_) (a' := ?_) #[true, true, true, false, true, false, false, false, false, false] rfl rfl (any_of HT_.out (by kernel_rfl)) (fun _ _ _ h => h) (Or.inl ⟨by rfl, ?_⟩) ?_ ?_
                rotate_left
                · intro w'
                  go_simp
                  with_reducible rfl
                rotate_left
                · simp only [Act.put, List.setIfInBounds_toArray, List.set_cons_zero, List.set_cons_succ, i64_w, i32_w]
                  rfl
                refine pure_ (i := 5) (N := some 22) (v := ?_) (a' := ?_) #[true, true, true, false, true, true, false, false, false, false] rfl rfl (any_of HT_.out (by kernel_rfl)) (fun _ _ _ h => h) (Or.inl ⟨by rfl, ?_⟩) ?_ ?_
                rotate_left
                · intro w'
                  go_simp
                  with_reducible rfl
                rotate_left
                · simp only [Act.put, List.setIfInBounds_toArray, List.set_cons_zero, List.set_cons_succ, i64_w, i32_w]
                  rfl
                refine pure_ (i := 6) (N := some 23) (v := ?_) (a' := ?_) #[true, true, true, false, true, true, true, false, false, false] rfl rfl (any_of HT_.out (by kernel_rfl)) (fun _ _ _ h => h) (Or.inl ⟨by rfl, ?_⟩) ?_ ?_
                rotate_left
                · intro w'
                  go_simp
                  with_reducible rfl
                rotate_left
                · simp only [Act.put, List.setIfInBounds_toArray, List.set_cons_zero, List.set_cons_succ, i64_w, i32_w]
                  rfl
                refine take_ (i := 3) (N := some 20) (v := ?_) (a' := ?_) #[true, true, true, true, true, true, true, false, false, false] rfl rfl (take_ofW HT_.out HW_.out (by kernel_rfl)) (fun _ _ _ h => h) (Or.inl ⟨by rfl, ?_⟩) hHeld ?_ ?_
                rotate_left
                · rintro w' ⟨s0, s1, s2, s3, s4, s5, s6, s7, s8, s9, s10, s11⟩
                  go_simp
                  with_reducible rfl
                rotate_left
                · simp only [Act.put, List.setIfInBounds_toArray, List.set_cons_zero, List.set_cons_succ, i64_w, i32_w]
                  rfl
                refine take_ (i := 7) (N := some 24) (v := ?_) (a' := ?_) #[true, true, true, true, true, true, true, true, false, false] rfl rfl (take_ofW HT_.out HW_.out (by kernel_rfl)) (fun _ _ _ h => h) (Or.inl ⟨by rfl, ?_⟩) hHeld ?_ ?_
                rotate_left
                · rintro w' ⟨s0, s1, s2, s3, s4, s5, s6, s7, s8, s9, s10, s11⟩
                  go_simp
                  with_reducible rfl
                rotate_left
                · simp only [Act.put, List.setIfInBounds_toArray, List.set_cons_zero, List.set_cons_succ, i64_w, i32_w]
                  rfl
                refine one_ (i := 8) (N := some 25) #[true, true, true, true, true, true, true, true, true, false] rfl rfl (one_of HT_.out (by kernel_rfl)) (by decide) (fun K hK => ?_)
                refine goes_ Try.func44 (by kernel_rfl) rfl #[.agg #[.int .i64 ((rd_T30 l0 x5_1).f0.f0), .int .i64 ((rd_T30 l0 x5_1).f0.f1), .int .i64 ((rd_T30 l0 x5_1).f1), .int .i64 ((rd_T30 l0 x5_1).f2), .string ((rd_T30 l0 x5_1).f3), .float .f64 ((rd_T30 l0 x5_1).f4)], .agg #[.int .i64 ((rd_T30 l1 x5_1).f0.f0), .int .i64 ((rd_T30 l1 x5_1).f0.f1), .int .i64 ((rd_T30 l1 x5_1).f1), .int .i64 ((rd_T30 l1 x5_1).f2), .string ((rd_T30 l1 x5_1).f3), .float .f64 ((rd_T30 l1 x5_1).f4)]] (by rfl) rfl rfl (by (try simp only [List.map_toArray, List.map_cons, List.map_nil]); first | done | rfl | (simp only [List.length_drop, List.length_take]; rfl)) ?_
                with_reducible refine (bonsairef13_Alike.calls ((rd_T30 l0 x5_1).f0.f0) ((rd_T30 l0 x5_1).f0.f1) ((rd_T30 l0 x5_1).f1) ((rd_T30 l0 x5_1).f2) ((rd_T30 l0 x5_1).f3) ((rd_T30 l0 x5_1).f4) ((rd_T30 l1 x5_1).f0.f0) ((rd_T30 l1 x5_1).f0.f1) ((rd_T30 l1 x5_1).f1) ((rd_T30 l1 x5_1).f2) ((rd_T30 l1 x5_1).f3) ((rd_T30 l1 x5_1).f4) false _ A7.out).mono ?_
                rintro e w12 ⟨rfl, hb⟩
                refine ⟨_, rfl, ?_⟩
                have n0_ := Aside0.mk (below_step (by repeat (first | (with_reducible first | exact HB.out | apply below_alloc | apply pw_below_drewN | apply below_drew1) | exact HB.out)) hb)
                clear HB
                have HB := n0_
                clear n0_
                (try clear hb)
                (try clear hb2)
                (try clear hk)
                (try clear hi)
                refine hK.out _ _ ⟨((HB.out.cell (World.block_lt_of_cell? w _ hw317_0)).trans hw317_0), ((HB.out.cell (World.block_lt_of_cell? w _ hw317_1)).trans hw317_1), ((HB.out.cell (World.block_lt_of_cell? w _ hw317_2)).trans hw317_2), ((HB.out.cell (World.block_lt_of_cell? w _ hw317_3)).trans hw317_3), ((HB.out.cell (World.block_lt_of_cell? w _ hw317_4)).trans hw317_4), ((HB.out.cell (World.block_lt_of_cell? w _ hw317_5)).trans hw317_5), ((HB.out.cell (World.block_lt_of_cell? w _ hw318_0)).trans hw318_0), ((HB.out.cell (World.block_lt_of_cell? w _ hw318_1)).trans hw318_1), ((HB.out.cell (World.block_lt_of_cell? w _ hw318_2)).trans hw318_2), ((HB.out.cell (World.block_lt_of_cell? w _ hw318_3)).trans hw318_3), ((HB.out.cell (World.block_lt_of_cell? w _ hw318_4)).trans hw318_4), ((HB.out.cell (World.block_lt_of_cell? w _ hw318_5)).trans hw318_5)⟩ (fun hHeld => ?_)
                clear hK K
                refine norm_ (a' := ?_) ?_ ?_
                rotate_left
                · show Act.put _ (some 25) _ = _
                  simp only [Act.put, List.setIfInBounds_toArray, List.set_cons_zero, List.set_cons_succ, i64_w, i32_w]
                  rfl
                refine pure_ (i := 9) (N := some 26) (v := ?_) (a' := ?_) #[true, true, true, true, true, true, true, true, true, true] rfl rfl (any_of HT_.out (by kernel_rfl)) (fun _ _ _ h => h) (Or.inl ⟨by rfl, ?_⟩) ?_ ?_
                rotate_left
                · intro w'
                  go_simp
                  with_reducible rfl
                rotate_left
                · simp only [Act.put, List.setIfInBounds_toArray, List.set_cons_zero, List.set_cons_succ, i64_w, i32_w]
                  rfl
                refine done_ (done_of HT_.out (by kernel_rfl)) ?_
                try go_wp2
                go_ret
                exact ⟨by first | rfl | (simp [errW_none, errW_some] <;> rfl) | (simp [*, errW_none, errW_some] <;> rfl), by repeat (first | (with_reducible first | exact HB.out | apply below_alloc | apply pw_below_drewN | apply below_drew1) | exact HB.out)⟩
            · rw [if_neg c6] at H
              exact absurd H (by simp)
          · rw [if_neg c5] at H
            exact absurd H (by simp)
        · rw [if_neg c4] at H
          have c4b0 : decide (x5_1 < (l0.length : Int)) = false := decide_eq_false c4
          clear c4
          obtain rfl := Option.some.inj H
          go_wp2
          go_ret
          exact ⟨by first | rfl | (simp [errW_none, errW_some] <;> rfl) | (simp [*, errW_none, errW_some] <;> rfl), by repeat (first | (with_reducible first | exact HB.out | apply below_alloc | apply pw_below_drewN | apply below_drew1) | exact HB.out)⟩
  · rw [if_neg c3] at H
    have c3b0 : ((l0.length : Int) == (l1.length : Int)) = false := beq_eq_false_iff_ne.mpr c3
    have c3b1 : ((l0.length : Int) != (l1.length : Int)) = true := bne_iff_ne.mpr c3
    have c3b2 : (l0.length == l1.length) = false := by first | simpa using c3 | (simp at c3 ⊢; omega)
    obtain rfl := Option.some.inj H
    go_enter Try.func15, Try.ntmps15
    go_wp2
    go_ret
    exact ⟨by first | rfl | (simp [errW_none, errW_some] <;> rfl) | (simp [*, errW_none, errW_some] <;> rfl), by repeat (first | (with_reducible first | exact HB.out | apply below_alloc | apply pw_below_drewN | apply below_drew1) | exact HB.out)⟩
end Go.Proofs.Ytfcndhajcikgiaa.B
namespace Go.Proofs.Ytfcndhajcikgiaa.B
open Go.RowKit Go.Proofs.Sp Go.Proofs.Fl Go.Proofs.YtfcndhajcikgiaaW.PrintWords Go.Proofs.YtfcndhajcikgiaaW.PrintLast Go.Proofs.YtfcndhajcikgiaaW.PrintMore
def headL : List UInt8 := [66, 78, 83, 73, 1]
def fileX (l : List S30) : List UInt8 := headL ++ (putL l.length ++ l.flatMap encX)
theorem flat_le : ∀ l : List S30, (∀ x ∈ l, x.f3.size ≤ 1000) → (l.flatMap encX).length ≤ 1058 * l.length
  | [], _ => by simp
  | x :: r, h => by
    have h1 := encX_le x
    have h2 := h x (by simp)
    have h3 := flat_le r (fun y hy => h y (by simp [hy]))
    rw [List.flatMap_cons, List.length_append, List.length_cons]; omega
theorem may_names {l : List S30} (h : mayM l = true) : l.length ≤ 2000 ∧ (∀ x ∈ l, oneM x = true) ∧ ∀ x ∈ l, x.f3.size ≤ 1000 := by
  unfold mayM at h
  simp only [Bool.and_eq_true, decide_eq_true_eq, List.all_eq_true] at h
  obtain ⟨⟨h1, h2⟩, h3⟩ := h
  refine ⟨h2, h3, fun x hx => ?_⟩
  have := h3 x hx
  unfold oneM oneB at this
  simp only [Bool.and_eq_true, decide_eq_true_eq] at this
  have := this.1.2
  omega
theorem ones_f : ∀ l : List S30, Ranks l → (∀ x ∈ l, x.f3.size ≤ 1000) → onesM l = some (l.flatMap encX)
  | [], _, _ => rfl
  | x :: r, h, hn => by
    rw [onesM, one_f_ (h x (by simp)) (hn x (by simp))]
    simp only [Option.bind_some]
    rw [ones_f r (fun y hy => h y (by simp [hy])) (fun y hy => hn y (by simp [hy]))]; rfl
theorem encode_f {l : List S30} (hr : Ranks l) : rows_Encode.f l = some (if mayM l then (ba (fileX l), 0) else (⟨#[]⟩, 1)) := by
  unfold rows_Encode.f
  by_cases h : mayM l = true
  · obtain ⟨h1, h2, h3⟩ := may_names h
    rw [if_pos h, if_pos h, pack_put_f (by omega) 20 (by omega), ones_f l hr h3]
    simp only [Option.bind_some]
    have := flat_le l h3
    have := putL_le l.length
    rw [if_pos (by rw [ba_size]; omega)]
    refine congrArg some (Prod.ext ?_ rfl)
    apply ba_ext
    show (headM.data.toList ++ _ ++ _) = _
    rw [List.append_assoc]; rfl
  · rw [if_neg h, if_neg h]
theorem alike_f {x y : S30} (hx : x.f4 < 2 ^ 64) (hy : y.f4 < 2 ^ 64) (h : toS x = toS y) : bonsairef13_Alike.f x.f0.f0 x.f0.f1 x.f1 x.f2 x.f3 x.f4 y.f0.f0 y.f0.f1 y.f1 y.f2 y.f3 y.f4 = some true := by
  unfold toS at h
  injection h with h1 h2 h3 h4 h5 h6
  have h7 : canon x.f4 = canon y.f4 := by have := (canon_nat hx).1; have := (canon_nat hy).1; omega
  unfold bonsairef13_Alike.f bonsairef13_Row.f bonsairef12_Alike.f bonsairef01_Same.f bonsairef01_Bits.f
  simp only [Option.bind_some, h1, h2, h3, h4, h5, if_pos hx, if_pos hy, h7]
  simp
theorem same_l (a b : List S30) (ha : Ranks a) (hb : Ranks b) (h : a.map toS = b.map toS) (hl : a.length ≤ 9223372036854775806) : ∀ (d i k : Nat), i + d = a.length → d + 1 ≤ k → bonsairef13_Same.l0 k a b i = some true
  | 0, i, k, hd, hk => by
    obtain ⟨k, rfl⟩ : ∃ m, k = m + 1 := ⟨k - 1, by omega⟩
    rw [bonsairef13_Same.l0, if_neg (by omega)]
  | d + 1, i, k, hd, hk => by
    obtain ⟨k, rfl⟩ : ∃ m, k = m + 1 := ⟨k - 1, by omega⟩
    have hlen : a.length = b.length := by have := congrArg List.length h; simpa using this
    have hi : i < a.length := by omega
    have hi2 : i < b.length := by omega
    have he : toS a[i] = toS b[i] := by
      have := congrArg (fun l : List MoveS => l[i]?) h
      simp only [List.getElem?_map, List.getElem?_eq_getElem hi, List.getElem?_eq_getElem hi2, Option.map_some, Option.some.injEq] at this
      exact this
    rw [bonsairef13_Same.l0, if_pos (by omega), if_pos (by omega), if_pos (by omega), rd_get a i hi, rd_get b i hi2, alike_f (ha _ (List.getElem_mem hi)) (hb _ (List.getElem_mem hi2)) he]
    simp only [Option.bind_some, if_true]
    rw [w64 (by omega) (by omega)]
    exact same_l a b ha hb h hl d (i + 1) k (by omega) (by omega)
theorem same_f {a b : List S30} (ha : Ranks a) (hb : Ranks b) (h : a.map toS = b.map toS) (hl : a.length ≤ 9223372036854775806) (k : Nat) (hk : a.length + 1 ≤ k) : bonsairef13_Same.f k a b = some true := by
  have hlen : a.length = b.length := by have := congrArg List.length h; simpa using this
  unfold bonsairef13_Same.f
  rw [if_pos (by omega)]
  exact same_l a b ha hb h hl a.length 0 k (by omega) hk
theorem like_toS : ∀ {ms : List MoveS} {xs : List S30}, LikeL ms xs → (∀ m ∈ ms, canonB m.rank = true ∧ m.rank < 2 ^ 64) → xs.map toS = ms ∧ Ranks xs
  | [], [], _, _ => ⟨rfl, fun _ h => by cases h⟩
  | m :: r, x :: t, h, hok => by
    obtain ⟨ih1, ih2⟩ := like_toS h.2 (fun y hy => hok y (by simp [hy]))
    obtain ⟨h1, h2, h3, h4, h5, h6, h7, h8⟩ := h.1
    obtain ⟨c1, c2⟩ := hok m (by simp)
    refine ⟨?_, fun y hy => ?_⟩
    · rw [List.map_cons, ih1]
      congr 1
      unfold toS
      cases m
      simp only [MoveS.mk.injEq]
      refine ⟨h1, h2, h3, h4, h5, ?_⟩
      dsimp only at h7 c1 c2
      rw [h7]
      unfold canonB at c1
      unfold canon
      split
      · rfl
      · rename_i hc
        rw [decide_eq_false hc, Bool.false_or, decide_eq_true_eq] at c1
        omega
    · rcases List.mem_cons.1 hy with rfl | hy
      · exact h6
      · exact ih2 y hy
  | [], _ :: _, h, _ => h.elim
  | _ :: _, [], h, _ => h.elim
end Go.Proofs.Ytfcndhajcikgiaa.B
namespace Go.Proofs.Ytfcndhajcikgiaa.B
open Go.RowKit Go.ChangeShapes Go.WideShapes Go.Deep Go.Proofs.Sp Go.Proofs.Fl Go.Proofs.YtfcndhajcikgiaaW.PrintWords Go.Proofs.YtfcndhajcikgiaaW.PrintLast Go.Proofs.YtfcndhajcikgiaaW.PrintMore
theorem cells_27 : Try.prog.cellsOf 27 = 2 := by kernel_rfl
theorem cells_3 : Try.prog.cellsOf 3 = 1 := by kernel_rfl
theorem cells_9 : Try.prog.cellsOf 9 = 1 := by kernel_rfl
theorem cells_28 : Try.prog.cellsOf 28 = 1 := by kernel_rfl
theorem cells_30 : Try.prog.cellsOf 30 = 6 := by kernel_rfl
theorem list_of {α : Type} {P : Nat → α → Prop} : ∀ n, (∀ i, i < n → ∃ x, P i x) → ∃ l : List α, l.length = n ∧ ∀ i x, l[i]? = some x → P i x
  | 0, _ => ⟨[], rfl, fun i x h => by simp at h⟩
  | n + 1, h => by
    obtain ⟨l, hl, hp⟩ := list_of n (fun i hi => h i (by omega))
    obtain ⟨x, hx⟩ := h n (by omega)
    refine ⟨l ++ [x], by simp [hl], fun i y hy => ?_⟩
    by_cases hi : i < l.length
    · rw [List.getElem?_append_left hi] at hy; exact hp i y hy
    · rw [List.getElem?_append_right (by omega)] at hy
      have h0 : i - l.length = 0 := by
        have := (List.getElem?_eq_some_iff.1 hy).1
        simp at this; omega
      rw [h0] at hy
      injection hy with hy
      subst hy
      rw [show i = n by omega]; exact hx
section
variable {H : Type} {enc : TypeId × Value → H} {w : World} {base : Nat} {spare : Nat → Bool} {held : Bool}
theorem trod_f64 {P : Program} {t : TypeId} {fuel : Nat} {cs : List Value} {x : DataW H × List MemPlace} (ht : P.underlying t = some (.float .f64)) (h : DataW.trod enc P w base spare held fuel t cs = some x) : ∃ n : Nat, cs = [.float .f64 n] ∧ n < 2 ^ 64 := by
  cases fuel with
  | zero => simp [DataW.trod] at h
  | succ n =>
    unfold DataW.trod at h
    rw [ht] at h
    split at h
    all_goals try (simp at *; done)
    rename_i kd kv b he
    injection he with he
    injection he with he
    subst he
    split at h
    · rename_i hc
      obtain ⟨rfl, hw⟩ := hc
      exact ⟨b, rfl, of_decide_eq_true hw⟩
    · cases h
set_option maxRecDepth 20000 in
theorem open_time {fuel : Nat} {c0 c1 : Value} {x : DataW H × List MemPlace} (h : DataW.trod enc Try.prog w base spare held fuel 27 [c0, c1] = some x) : ∃ a b : Int, c0 = .int .i64 a ∧ c1 = .int .i64 b := by
  obtain ⟨ys, n, rfl, -, -, hyl, hf⟩ := DataW.trod_struct Try.underlying27 h
  match ys, hyl with
  | [y0, y1], _ =>
    have g0 : DataW.trod enc Try.prog w base spare held n 3 (([c0, c1].drop 0).take (Try.prog.cellsOf 3)) = some y0 := hf 0 _ rfl
    have g1 : DataW.trod enc Try.prog w base spare held n 3 (([c0, c1].drop 1).take (Try.prog.cellsOf 3)) = some y1 := hf 1 _ rfl
    rw [cells_3] at g0 g1
    obtain ⟨a, ha, -, -⟩ := DataW.trod_int Try.underlying3 (show DataW.trod enc Try.prog w base spare held n 3 [c0] = some y0 from g0)
    obtain ⟨b, hb, -, -⟩ := DataW.trod_int Try.underlying3 (show DataW.trod enc Try.prog w base spare held n 3 [c1] = some y1 from g1)
    injection ha with ha
    injection hb with hb
    exact ⟨a, b, ha, hb⟩
set_option maxRecDepth 20000 in
theorem open_move {fuel : Nat} {cs : List Value} {x : DataW H × List MemPlace} (h : DataW.trod enc Try.prog w base spare held fuel 30 cs = some x) :
    ∃ y : S30, cs = [.int .i64 y.f0.f0, .int .i64 y.f0.f1, .int .i64 y.f1, .int .i64 y.f2, .string y.f3, .float .f64 y.f4] ∧ y.f4 < 2 ^ 64 := by
  obtain ⟨ys, n, rfl, -, hlen, hyl, hf⟩ := DataW.trod_struct Try.underlying30 h
  rw [cells_30] at hlen
  match cs, hlen with
  | [c0, c1, c2, c3, c4, c5], _ =>
    match ys, hyl with
    | [y0, y1, y2, y3, y4], _ =>
      have g0 : DataW.trod enc Try.prog w base spare held n 27 (([c0, c1, c2, c3, c4, c5].drop 0).take (Try.prog.cellsOf 27)) = some y0 := hf 0 _ rfl
      have g1 : DataW.trod enc Try.prog w base spare held n 3 (([c0, c1, c2, c3, c4, c5].drop 2).take (Try.prog.cellsOf 3)) = some y1 := hf 1 _ rfl
      have g2 : DataW.trod enc Try.prog w base spare held n 3 (([c0, c1, c2, c3, c4, c5].drop 3).take (Try.prog.cellsOf 3)) = some y2 := hf 2 _ rfl
      have g3 : DataW.trod enc Try.prog w base spare held n 9 (([c0, c1, c2, c3, c4, c5].drop 4).take (Try.prog.cellsOf 9)) = some y3 := hf 3 _ rfl
      have g4 : DataW.trod enc Try.prog w base spare held n 28 (([c0, c1, c2, c3, c4, c5].drop 5).take (Try.prog.cellsOf 28)) = some y4 := hf 4 _ rfl
      rw [cells_27] at g0
      rw [cells_3] at g1 g2
      rw [cells_9] at g3
      rw [cells_28] at g4
      obtain ⟨a, b, rfl, rfl⟩ := open_time (show DataW.trod enc Try.prog w base spare held n 27 [c0, c1] = some y0 from g0)
      obtain ⟨p, hp, -, -⟩ := DataW.trod_int Try.underlying3 (show DataW.trod enc Try.prog w base spare held n 3 [c2] = some y1 from g1)
      obtain ⟨q, hq, -, -⟩ := DataW.trod_int Try.underlying3 (show DataW.trod enc Try.prog w base spare held n 3 [c3] = some y2 from g2)
      obtain ⟨s, hs, -, -⟩ := DataW.trod_string Try.underlying9 (show DataW.trod enc Try.prog w base spare held n 9 [c4] = some y3 from g3)
      obtain ⟨f, hf5, hlt⟩ := trod_f64 Try.underlying28 (show DataW.trod enc Try.prog w base spare held n 28 [c5] = some y4 from g4)
      injection hp with hp
      injection hq with hq
      injection hs with hs
      injection hf5 with hf5
      subst hp hq hs hf5
      exact ⟨⟨⟨a, b⟩, p, q, s, f⟩, rfl, hlt⟩
/-- A list of moves that came in: read. -/
theorem open_moves {a : Option Addr} {len cap : Nat} {d : DataW H} {p : List MemPlace} (h : DataW.Trod enc Try.prog w base spare held 22 (.slice a len cap) d p) :
    ∃ l : List S30, len = l.length ∧ l.length ≤ cap ∧ Kd.C k30 w a l.length l ∧ Ranks l := by
  obtain ⟨fuel, hf⟩ := h
  rcases open_slice Try.underlying22 hf with ⟨hcs, _⟩ | ⟨x, l, c, m, n, D, Pl, hcs, _, hl, hm, hmm, _, hi⟩
  · simp [Value.cells] at hcs
    obtain ⟨rfl, rfl, rfl⟩ := hcs
    exact ⟨[], rfl, Nat.le_refl _, Kd.C_nil _ _, fun _ hx => by cases hx⟩
  · simp [Value.cells] at hcs
    obtain ⟨rfl, rfl, rfl⟩ := hcs
    have hlm : len ≤ m := by rw [hmm]; split <;> omega
    obtain ⟨xs, hxs, hp⟩ := list_of (P := fun i (y : S30) => (∀ j u, [Value.int .i64 y.f0.f0, .int .i64 y.f0.f1, .int .i64 y.f1, .int .i64 y.f2, .string y.f3, .float .f64 y.f4][j]? = some u → w.cell? (x.add (i * 6 + j)) = some u) ∧ y.f4 < 2 ^ 64) len (fun i hil => by
      obtain ⟨cs', hc, ht⟩ := hi i (by omega)
      obtain ⟨y, rfl, hy⟩ := open_move ht
      rw [cells_30] at hc
      obtain ⟨_, hcl, hat⟩ := World.cells?_some hc
      refine ⟨y, fun j u hu => ?_, hy⟩
      have hj : j < 6 := (List.getElem?_eq_some_iff.1 hu).1
      rw [← Go.Deep.add_add]
      exact (hat j hj).trans hu)
    refine ⟨xs, hxs.symm, by omega, ⟨rfl, by unfold maxLen at hm; omega, fun _ => ⟨x, rfl, fun j y hj => ?_⟩⟩, fun y hy => ?_⟩
    · obtain ⟨h1, h2⟩ := hp j y hj
      exact ⟨_, rfl, k30_mk w y, h1⟩
    · obtain ⟨j, hj, rfl⟩ := List.getElem_of_mem hy
      exact (hp j _ (List.getElem?_eq_getElem hj)).2
end
end Go.Proofs.Ytfcndhajcikgiaa.B
namespace Go.Proofs.Ytfcndhajcikgiaa.B
open Go.RowKit Go.Proofs.YtfcndhajcikgiaaW.PrintWords Go.Proofs.YtfcndhajcikgiaaW.PrintLast Go.Proofs.YtfcndhajcikgiaaW.PrintMore
def bonsairef04_in.f (a0 : ByteArray) (a1 : Int) (a2 : Int) (a3 : Int) : Option (Bool) := if a1 < (a0.size : Int) then (if 0 ≤ a1 then (if (wrap64 (bt a0 a1)) ≥ a2 then (some (decide ((wrap64 (bt a0 a1)) ≤ a3))) else (some false)) else (none)) else (some false)
set_option maxHeartbeats 8000000 in
set_option maxRecDepth 100000 in
theorem bonsairef04_in.calls (a0 : ByteArray) (a1 : Int) (a2 : Int) (a3 : Int) (r : Bool) (w : World) (h : bonsairef04_in.f a0 a1 a2 a3 = some r) :
    Calls Try.prog 95 #[.string a0, .int .i64 a1, .int .i64 a2, .int .i64 a3] w fun e w' => e = .returned (.bool r) ∧ Drawn0 w w' := by
  have H : (if a1 < (a0.size : Int) then (if 0 ≤ a1 then (if (wrap64 (bt a0 a1)) ≥ a2 then (some (decide ((wrap64 (bt a0 a1)) ≤ a3))) else (some false)) else (none)) else (some false)) = some r := h
  clear h
  by_cases c5 : a1 < (a0.size : Int)
  · rw [if_pos c5] at H
    have c5b0 : decide (a1 < (a0.size : Int)) = true := decide_eq_true c5
    clear c5
    by_cases c6 : 0 ≤ a1
    · rw [if_pos c6] at H
      have c6b0 : decide (0 ≤ a1) = true := decide_eq_true c6
      clear c6
      by_cases c8 : (wrap64 (bt a0 a1)) ≥ a2
      · rw [if_pos c8] at H
        have c8b0 : decide (a2 ≤ (wrap64 (bt a0 a1))) = true := decide_eq_true c8
        clear c8
        obtain rfl := Option.some.inj H
        have p7 : 0 ≤ (a1 : Int) := of_decide_eq_true (by first | (with_reducible assumption) | assumption)
        have q7 : a1 < (a0.size : Int) := of_decide_eq_true (by first | (with_reducible assumption) | assumption)
        have hx7 := bt_at a0 a1
        replace p7 := eq_true p7
        replace q7 := eq_true q7
        have p9 : 0 ≤ (a1 : Int) := of_decide_eq_true (by first | (with_reducible assumption) | assumption)
        have q9 : a1 < (a0.size : Int) := of_decide_eq_true (by first | (with_reducible assumption) | assumption)
        have hx9 := bt_at a0 a1
        replace p9 := eq_true p9
        replace q9 := eq_true q9
        go_enter Try.func95, Try.ntmps95
        go_wp2
        go_ret
        exact ⟨by first | rfl | (simp; done) | (simp [*]; done), by repeat (first | exact Drawn0.refl _ | apply Drawn0.step)⟩
      · rw [if_neg c8] at H
        have c8b0 : decide (a2 ≤ (wrap64 (bt a0 a1))) = false := decide_eq_false c8
        clear c8
        obtain rfl := Option.some.inj H
        have p7 : 0 ≤ (a1 : Int) := of_decide_eq_true (by first | (with_reducible assumption) | assumption)
        have q7 : a1 < (a0.size : Int) := of_decide_eq_true (by first | (with_reducible assumption) | assumption)
        have hx7 := bt_at a0 a1
        replace p7 := eq_true p7
        replace q7 := eq_true q7
        go_enter Try.func95, Try.ntmps95
        go_wp2
        go_ret
        exact ⟨by first | rfl | (simp; done) | (simp [*]; done), by repeat (first | exact Drawn0.refl _ | apply Drawn0.step)⟩
    · rw [if_neg c6] at H
      exact absurd H (by simp)
  · rw [if_neg c5] at H
    have c5b0 : decide (a1 < (a0.size : Int)) = false := decide_eq_false c5
    clear c5
    obtain rfl := Option.some.inj H
    go_enter Try.func95, Try.ntmps95
    go_wp2
    go_ret
    exact ⟨by first | rfl | (simp; done) | (simp [*]; done), by repeat (first | exact Drawn0.refl _ | apply Drawn0.step)⟩
end Go.Proofs.Ytfcndhajcikgiaa.B
