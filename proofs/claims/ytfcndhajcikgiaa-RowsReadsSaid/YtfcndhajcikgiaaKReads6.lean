/- RowsReads: for every input the law returns true, and the input reads behind the call as it read before. (Part 6 of 10.) -/
import Derived.Test.YtfcndhajcikgiaaKReads5
set_option linter.unusedVariables false
set_option linter.unusedSimpArgs false
namespace Go.Proofs.Ytfcndhajcikgiaa.B
open Go.RowKit Go.Proofs.YtfcndhajcikgiaaW.PrintWords Go.Proofs.YtfcndhajcikgiaaW.PrintLast Go.Proofs.YtfcndhajcikgiaaW.PrintMore
def bonsairef13_Same.l0 : Nat → List (S30) → List (S30) → Int → Option (Bool)
  | 0, _, _, _ => none
  | k + 1, x0, x1, x5 => if x5 < (x0.length : Int) then (if 0 ≤ x5 then (if x5 < (x1.length : Int) then ((bonsairef13_Alike.f ((rd_T30 x0 x5).f0.f0) ((rd_T30 x0 x5).f0.f1) ((rd_T30 x0 x5).f1) ((rd_T30 x0 x5).f2) ((rd_T30 x0 x5).f3) ((rd_T30 x0 x5).f4) ((rd_T30 x1 x5).f0.f0) ((rd_T30 x1 x5).f0.f1) ((rd_T30 x1 x5).f1) ((rd_T30 x1 x5).f2) ((rd_T30 x1 x5).f3) ((rd_T30 x1 x5).f4)).bind fun t319 => (if t319 = true then (bonsairef13_Same.l0 k x0 x1 (wrap64 (x5 + 1))) else (some false))) else (none)) else (none)) else (some true)
def bonsairef13_Same.f (k : Nat) (l0 : List (S30)) (l1 : List (S30)) : Option (Bool) := if (l0.length : Int) = (l1.length : Int) then (bonsairef13_Same.l0 k l0 l1 0) else (some false)
theorem bonsairef13_Same.mono_l : ∀ k, (∀ y0 y1 y2, LeO (bonsairef13_Same.l0 k y0 y1 y2) (bonsairef13_Same.l0 (k + 1) y0 y1 y2))
  | 0 => fun _ _ _ r h => by simp [bonsairef13_Same.l0] at h
  | k + 1 => by
    have ih0 := bonsairef13_Same.mono_l k
    · intro y0 y1 y2
      unfold bonsairef13_Same.l0
      repeat' first
      | (with_reducible exact ih0 _ _ _)
      | (with_reducible exact LeO.refl _)
      | (with_reducible exact LeO.none _)
      | (with_reducible refine LeO.ite ?_ ?_)
      | (with_reducible refine LeO.bind ?_ (fun _ => ?_))
      | exact ih0 _ _ _
      | exact LeO.none _
      | refine LeO.ite ?_ ?_
      | refine LeO.bind ?_ (fun _ => ?_)
theorem bonsairef13_Same.mono : ∀ a0 a1 k, LeO (bonsairef13_Same.f k a0 a1) (bonsairef13_Same.f (k + 1) a0 a1) := by
  intro a0 a1 k
  have ih0 := bonsairef13_Same.mono_l k
  unfold bonsairef13_Same.f
  repeat' first
      | (with_reducible exact ih0 _ _ _)
      | (with_reducible exact LeO.refl _)
      | (with_reducible exact LeO.none _)
      | (with_reducible refine LeO.ite ?_ ?_)
      | (with_reducible refine LeO.bind ?_ (fun _ => ?_))
      | exact ih0 _ _ _
      | exact LeO.none _
      | refine LeO.ite ?_ ?_
      | refine LeO.bind ?_ (fun _ => ?_)
def bonsairef13_Same.T6 : Bool × List (List Nat × List Nat) := (true, [([], []), ([], []), ([0, 1], [0, 1]), ([2], [2]), ([], []), ([], []), ([4, 5], [4, 5]), ([6], [6]), ([3, 7], [3, 7]), ([8], [8])])
def bonsairef13_Same.B6 : List Nat := [0, 0, 3, 7, 0, 0, 48, 112, 255, 511]
theorem bonsairef13_Same.tab6 : rtab .any (opsOf Try.f15 6) = bonsairef13_Same.T6 := by kernel_rfl
theorem bonsairef13_Same.bits6 : waitsOk bonsairef13_Same.T6.2 bonsairef13_Same.B6 = true := by kernel_rfl
set_option maxHeartbeats 8000000 in
set_option maxRecDepth 100000 in
theorem bonsairef13_Same.calls (k : Nat) (A0 : Option Addr) (c0 : Nat) (l0 : List (S30)) (A1 : Option Addr) (c1 : Nat) (l1 : List (S30)) (r : Bool) (w : World) (hr0 : Kd.C k30 w A0 l0.length l0) (hc0 : l0.length ≤ c0) (hr1 : Kd.C k30 w A1 l1.length l1) (hc1 : l1.length ≤ c1) (h : bonsairef13_Same.f k l0 l1 = some r) :
    Calls Try.prog 15 #[.slice A0 l0.length c0, .slice A1 l1.length c1] w fun e w' => e = .returned (.bool r) ∧ Below w.heap.size w w' := by
  have hu30 := Try.underlying30
  have HR0 := Aside0.mk hr0
  have HC0 := Aside0.mk hc0
  clear hr0 hc0
  have HR1 := Aside0.mk hr1
  have HC1 := Aside0.mk hc1
  clear hr1 hc1
  have HB := Aside0.mk (Below.refl w.heap.size w)
  have H : (if (l0.length : Int) = (l1.length : Int) then (bonsairef13_Same.l0 k l0 l1 0) else (some false)) = some r := h
  clear h
  by_cases c3 : (l0.length : Int) = (l1.length : Int)
  · rw [if_pos c3] at H
    have c3b0 : ((l0.length : Int) == (l1.length : Int)) = true := beq_iff_eq.mpr c3
    have c3b1 : ((l0.length : Int) != (l1.length : Int)) = false := bne_eq_false_iff_eq.mpr c3
    have c3b2 : (l0.length == l1.length) = true := by first | simpa using c3 | (simp at c3 ⊢; omega)
    clear c3
    have H' := Aside0.mk H
    clear H
    go_enter Try.func15, Try.ntmps15
    go_wp2
    go_loopg [5] k (fun kq v5 w' => ∃ (x5_1 : Int), v5 = .int .i64 x5_1 ∧ Aside0 (bonsairef13_Same.l0 kq l0 l1 x5_1 = some r) ∧ Aside0 (kq ≤ k) ∧ Aside0 (Below w.heap.size w w'))
    case atStart => exact ⟨(0), (by first | rfl | (simp; done) | (simp [*]; done)), H', ⟨Nat.le_refl _⟩, ⟨by repeat (first | (with_reducible first | exact HB.out | apply below_alloc | apply pw_below_drewN | apply below_drew1) | exact HB.out)⟩⟩
    case round =>
      clear H'
      try clear c1
      try clear p2
      try clear c3
      try clear c3b0
      try clear c3b1
      try clear c3b2
      obtain ⟨x5_1, rfl, HA, HK1, HB⟩ := hrel
      cases gk with
      | zero => exact absurd HA.out (by simp [bonsairef13_Same.l0])
      | succ k1 =>
        have H := HA.out
        clear HA
        simp only [bonsairef13_Same.l0] at H
        by_cases c4 : x5_1 < (l0.length : Int)
        · rw [if_pos c4] at H
          have c4b0 : decide (x5_1 < (l0.length : Int)) = true := decide_eq_true c4
          clear c4
          by_cases c5 : 0 ≤ x5_1
          · rw [if_pos c5] at H
            have c5b0 : decide (0 ≤ x5_1) = true := decide_eq_true c5
            clear c5
            by_cases c6 : x5_1 < (l1.length : Int)
            · rw [if_pos c6] at H
              have c6b0 : decide (x5_1 < (l1.length : Int)) = true := decide_eq_true c6
              clear c6
              replace H := Option.bind_eq_some_iff.mp H
              obtain ⟨t319, A70, H⟩ := H
              replace H : (if t319 = true then (bonsairef13_Same.l0 k1 l0 l1 (wrap64 (x5_1 + 1))) else (some false)) = some r := H
              have A7 := Aside0.mk A70
              clear A70
              by_cases c8 : t319 = true
              · subst c8
                have H1 : (bonsairef13_Same.l0 k1 l0 l1 (wrap64 (x5_1 + 1))) = some r := by rw [if_pos rfl] at H; exact H
                clear H
                have H := H1
                clear H1
                have H' := Aside0.mk H
                clear H
                try go_wp2
                have n0_ := Aside0.mk (below_drew1 HB.out)
                clear HB
                have HB := n0_
                clear n0_
                have p317 : 0 ≤ (x5_1 : Int) := of_decide_eq_true (by first | (with_reducible assumption) | assumption)
                have q317 : x5_1 < (l0.length : Int) := of_decide_eq_true (by first | (with_reducible assumption) | assumption)
                obtain ⟨ad317, e317, hx317_0, hx317_1, hx317_2, hx317_3, hx317_4, hx317_5⟩ := at_T30 HR0.out x5_1 p317 q317
                have hw317_5 := hx317_5
                have hw317_4 := hx317_4
                have hw317_3 := hx317_3
                have hw317_2 := hx317_2
                have hw317_1 := hx317_1
                have hw317_0 := hx317_0
                cases e317
                replace hx317_0 := (HB.out.cell (World.block_lt_of_cell? w _ hx317_0)).trans hx317_0
                replace hx317_1 := (HB.out.cell (World.block_lt_of_cell? w _ hx317_1)).trans hx317_1
                replace hx317_2 := (HB.out.cell (World.block_lt_of_cell? w _ hx317_2)).trans hx317_2
                replace hx317_3 := (HB.out.cell (World.block_lt_of_cell? w _ hx317_3)).trans hx317_3
                replace hx317_4 := (HB.out.cell (World.block_lt_of_cell? w _ hx317_4)).trans hx317_4
                replace hx317_5 := (HB.out.cell (World.block_lt_of_cell? w _ hx317_5)).trans hx317_5
                replace p317 := eq_true p317
                replace q317 := eq_true q317
                have p318 : 0 ≤ (x5_1 : Int) := of_decide_eq_true (by first | (with_reducible assumption) | assumption)
                have q318 : x5_1 < (l1.length : Int) := of_decide_eq_true (by first | (with_reducible assumption) | assumption)
                obtain ⟨ad318, e318, hx318_0, hx318_1, hx318_2, hx318_3, hx318_4, hx318_5⟩ := at_T30 HR1.out x5_1 p318 q318
                have hw318_5 := hx318_5
                have hw318_4 := hx318_4
                have hw318_3 := hx318_3
                have hw318_2 := hx318_2
                have hw318_1 := hx318_1
                have hw318_0 := hx318_0
                cases e318
                replace hx318_0 := (HB.out.cell (World.block_lt_of_cell? w _ hx318_0)).trans hx318_0
                replace hx318_1 := (HB.out.cell (World.block_lt_of_cell? w _ hx318_1)).trans hx318_1
                replace hx318_2 := (HB.out.cell (World.block_lt_of_cell? w _ hx318_2)).trans hx318_2
                replace hx318_3 := (HB.out.cell (World.block_lt_of_cell? w _ hx318_3)).trans hx318_3
                replace hx318_4 := (HB.out.cell (World.block_lt_of_cell? w _ hx318_4)).trans hx318_4
                replace hx318_5 := (HB.out.cell (World.block_lt_of_cell? w _ hx318_5)).trans hx318_5
                replace p318 := eq_true p318
                replace q318 := eq_true q318
                refine start_ (n := 10) (S := fun w' => w'.cell? (ad317.add ((x5_1).toNat * 6)) = some (.int .i64 ((rd_T30 l0 x5_1).f0.f0)) ∧ w'.cell? ⟨(ad317.add ((x5_1).toNat * 6)).block, (ad317.add ((x5_1).toNat * 6)).off + 1, none⟩ = some (.int .i64 ((rd_T30 l0 x5_1).f0.f1)) ∧ w'.cell? ⟨(ad317.add ((x5_1).toNat * 6)).block, (ad317.add ((x5_1).toNat * 6)).off + 2, none⟩ = some (.int .i64 ((rd_T30 l0 x5_1).f1)) ∧ w'.cell? ⟨(ad317.add ((x5_1).toNat * 6)).block, (ad317.add ((x5_1).toNat * 6)).off + 3, none⟩ = some (.int .i64 ((rd_T30 l0 x5_1).f2)) ∧ w'.cell? ⟨(ad317.add ((x5_1).toNat * 6)).block, (ad317.add ((x5_1).toNat * 6)).off + 4, none⟩ = some (.string ((rd_T30 l0 x5_1).f3)) ∧ w'.cell? ⟨(ad317.add ((x5_1).toNat * 6)).block, (ad317.add ((x5_1).toNat * 6)).off + 5, none⟩ = some (.float .f64 ((rd_T30 l0 x5_1).f4)) ∧ w'.cell? (ad318.add ((x5_1).toNat * 6)) = some (.int .i64 ((rd_T30 l1 x5_1).f0.f0)) ∧ w'.cell? ⟨(ad318.add ((x5_1).toNat * 6)).block, (ad318.add ((x5_1).toNat * 6)).off + 1, none⟩ = some (.int .i64 ((rd_T30 l1 x5_1).f0.f1)) ∧ w'.cell? ⟨(ad318.add ((x5_1).toNat * 6)).block, (ad318.add ((x5_1).toNat * 6)).off + 2, none⟩ = some (.int .i64 ((rd_T30 l1 x5_1).f1)) ∧ w'.cell? ⟨(ad318.add ((x5_1).toNat * 6)).block, (ad318.add ((x5_1).toNat * 6)).off + 3, none⟩ = some (.int .i64 ((rd_T30 l1 x5_1).f2)) ∧ w'.cell? ⟨(ad318.add ((x5_1).toNat * 6)).block, (ad318.add ((x5_1).toNat * 6)).off + 4, none⟩ = some (.string ((rd_T30 l1 x5_1).f3)) ∧ w'.cell? ⟨(ad318.add ((x5_1).toNat * 6)).block, (ad318.add ((x5_1).toNat * 6)).off + 5, none⟩ = some (.float .f64 ((rd_T30 l1 x5_1).f4))) (ds := []) #[false, false, false, false, false, false, false, false, false, false] (by kernel_rfl) rfl rfl ⟨((HB.out.cell (World.block_lt_of_cell? w _ hw317_0)).trans hw317_0), ((HB.out.cell (World.block_lt_of_cell? w _ hw317_1)).trans hw317_1), ((HB.out.cell (World.block_lt_of_cell? w _ hw317_2)).trans hw317_2), ((HB.out.cell (World.block_lt_of_cell? w _ hw317_3)).trans hw317_3), ((HB.out.cell (World.block_lt_of_cell? w _ hw317_4)).trans hw317_4), ((HB.out.cell (World.block_lt_of_cell? w _ hw317_5)).trans hw317_5), ((HB.out.cell (World.block_lt_of_cell? w _ hw318_0)).trans hw318_0), ((HB.out.cell (World.block_lt_of_cell? w _ hw318_1)).trans hw318_1), ((HB.out.cell (World.block_lt_of_cell? w _ hw318_2)).trans hw318_2), ((HB.out.cell (World.block_lt_of_cell? w _ hw318_3)).trans hw318_3), ((HB.out.cell (World.block_lt_of_cell? w _ hw318_4)).trans hw318_4), ((HB.out.cell (World.block_lt_of_cell? w _ hw318_5)).trans hw318_5)⟩ (fun hHeld => ?_); refine with_tabW bonsairef13_Same.tab6 bonsairef13_Same.bits6 (fun HT_ HW_ => ?_)
                generalize wr.drew = w9 at HB hx317_0 hx317_1 hx317_2 hx317_3 hx317_4 hx317_5 hx318_0 hx318_1 hx318_2 hx318_3 hx318_4 hx318_5 hHeld ⊢
                refine pure_ (i := 0) (N := some 17) (v := ?_) (a' := ?_) #[true, false, false, false, false, false, false, false, false, false] rfl rfl (any_of HT_.out (by kernel_rfl)) (fun _ _ _ h => h) (Or.inl ⟨by rfl, ?_⟩) ?_ ?_
                rotate_left
                · intro w'
                  go_simp
                  with_reducible rfl
                rotate_left
                · simp only [Act.put, List.setIfInBounds_toArray, List.set_cons_zero, List.set_cons_succ, i64_w, i32_w]
                  rfl
                refine pure_ (i := 1) (N := some 18) (v := ?_) (a' := ?_) #[true, true, false, false, false, false, false, false, false, false] rfl rfl (any_of HT_.out (by kernel_rfl)) (fun _ _ _ h => h) (Or.inl ⟨by rfl, ?_⟩) ?_ ?_
                rotate_left
                · intro w'
                  go_simp
                  with_reducible rfl
                rotate_left
                · simp only [Act.put, List.setIfInBounds_toArray, List.set_cons_zero, List.set_cons_succ, i64_w, i32_w]
                  rfl
                refine pure_ (i := 2) (N := some 19) (v := ?_) (a' := ?_) #[true, true, true, false, false, false, false, false, false, false] rfl rfl (any_of HT_.out (by kernel_rfl)) (fun _ _ _ h => h) (Or.inl ⟨by rfl, ?_⟩) ?_ ?_
                rotate_left
                · intro w'
                  go_simp
                  with_reducible rfl
                rotate_left
                · simp only [Act.put, List.setIfInBounds_toArray, List.set_cons_zero, List.set_cons_succ, i64_w, i32_w]
                  rfl
                refine pure_ (i := 4) (N := some 21) (v := ?_) (a' := ?_) #[true, true, true, false, true, false, false, false, false, false] rfl rfl (any_of HT_.out (by kernel_rfl)) (fun _ _ _ h => h) (Or.inl ⟨by rfl, ?_⟩) ?_ ?_
                rotate_left
                · intro w'
                  go_simp
                  with_reducible rfl
                rotate_left
                · simp only [Act.put, List.setIfInBounds_toArray, List.set_cons_zero, List.set_cons_succ, i64_w, i32_w]
                  rfl
                refine pure_ (i := 5) (N := some 22) (v := ?_) (a' := ?_) #[true, true, true, false, true, true, false, false, false, false] rfl rfl (any_of HT_.out (by kernel_rfl)) (fun _ _ _ h => h) (Or.inl ⟨by rfl, ?_⟩) ?_ ?_
                rotate_left
                · intro w'
                  go_simp
                  with_reducible rfl
                rotate_left
                · simp only [Act.put, List.setIfInBounds_toArray, List.set_cons_zero, List.set_cons_succ, i64_w, i32_w]
                  rfl
                refine pure_ (i := 6) (N := some 23) (v := ?_) (a' := ?_) #[true, true, true, false, true, true, true, false, false, false] rfl rfl (any_of HT_.out (by kernel_rfl)) (fun _ _ _ h => h) (Or.inl ⟨by rfl, ?_⟩) ?_ ?_
                rotate_left
                · intro w'
                  go_simp
                  with_reducible rfl
                rotate_left
                · simp only [Act.put, List.setIfInBounds_toArray, List.set_cons_zero, List.set_cons_succ, i64_w, i32_w]
                  rfl
                refine take_ (i := 3) (N := some 20) (v := ?_) (a' := ?_) #[true, true, true, true, true, true, true, false, false, false] rfl rfl (take_ofW HT_.out HW_.out (by kernel_rfl)) (fun _ _ _ h => h) (Or.inl ⟨by rfl, ?_⟩) hHeld ?_ ?_
                rotate_left
                · rintro w' ⟨s0, s1, s2, s3, s4, s5, s6, s7, s8, s9, s10, s11⟩
                  go_simp
                  with_reducible rfl
                rotate_left
                · simp only [Act.put, List.setIfInBounds_toArray, List.set_cons_zero, List.set_cons_succ, i64_w, i32_w]
                  rfl
                refine take_ (i := 7) (N := some 24) (v := ?_) (a' := ?_) #[true, true, true, true, true, true, true, true, false, false] rfl rfl (take_ofW HT_.out HW_.out (by kernel_rfl)) (fun _ _ _ h => h) (Or.inl ⟨by rfl, ?_⟩) hHeld ?_ ?_
                rotate_left
                · rintro w' ⟨s0, s1, s2, s3, s4, s5, s6, s7, s8, s9, s10, s11⟩
                  go_simp
                  with_reducible rfl
                rotate_left
                · simp only [Act.put, List.setIfInBounds_toArray, List.set_cons_zero, List.set_cons_succ, i64_w, i32_w]
                  rfl
                refine one_ (i := 8) (N := some 25) #[true, true, true, true, true, true, true, true, true, false] rfl rfl (one_of HT_.out (by kernel_rfl)) (by decide) (fun K hK => ?_)
                refine goes_ Try.func44 (by kernel_rfl) rfl #[.agg #[.int .i64 ((rd_T30 l0 x5_1).f0.f0), .int .i64 ((rd_T30 l0 x5_1).f0.f1), .int .i64 ((rd_T30 l0 x5_1).f1), .int .i64 ((rd_T30 l0 x5_1).f2), .string ((rd_T30 l0 x5_1).f3), .float .f64 ((rd_T30 l0 x5_1).f4)], .agg #[.int .i64 ((rd_T30 l1 x5_1).f0.f0), .int .i64 ((rd_T30 l1 x5_1).f0.f1), .int .i64 ((rd_T30 l1 x5_1).f1), .int .i64 ((rd_T30 l1 x5_1).f2), .string ((rd_T30 l1 x5_1).f3), .float .f64 ((rd_T30 l1 x5_1).f4)]] (by rfl) rfl rfl (by (try simp only [List.map_toArray, List.map_cons, List.map_nil]); first | done | rfl | (simp only [List.length_drop, List.length_take]; rfl)) ?_
                with_reducible refine (bonsairef13_Alike.calls ((rd_T30 l0 x5_1).f0.f0) ((rd_T30 l0 x5_1).f0.f1) ((rd_T30 l0 x5_1).f1) ((rd_T30 l0 x5_1).f2) ((rd_T30 l0 x5_1).f3) ((rd_T30 l0 x5_1).f4) ((rd_T30 l1 x5_1).f0.f0) ((rd_T30 l1 x5_1).f0.f1) ((rd_T30 l1 x5_1).f1) ((rd_T30 l1 x5_1).f2) ((rd_T30 l1 x5_1).f3) ((rd_T30 l1 x5_1).f4) true _ A7.out).mono ?_
                rintro e w10 ⟨rfl, hb⟩
                refine ⟨_, rfl, ?_⟩
                have n0_ := Aside0.mk (below_step (by repeat (first | (with_reducible first | exact HB.out | apply below_alloc | apply pw_below_drewN | apply below_drew1) | exact HB.out)) hb)
                clear HB
                have HB := n0_
                clear n0_
                (try clear hb)
                (try clear hb2)
                (try clear hk)
                (try clear hi)
                refine hK.out _ _ ⟨((HB.out.cell (World.block_lt_of_cell? w _ hw317_0)).trans hw317_0), ((HB.out.cell (World.block_lt_of_cell? w _ hw317_1)).trans hw317_1), ((HB.out.cell (World.block_lt_of_cell? w _ hw317_2)).trans hw317_2), ((HB.out.cell (World.block_lt_of_cell? w _ hw317_3)).trans hw317_3), ((HB.out.cell (World.block_lt_of_cell? w _ hw317_4)).trans hw317_4), ((HB.out.cell (World.block_lt_of_cell? w _ hw317_5)).trans hw317_5), ((HB.out.cell (World.block_lt_of_cell? w _ hw318_0)).trans hw318_0), ((HB.out.cell (World.block_lt_of_cell? w _ hw318_1)).trans hw318_1), ((HB.out.cell (World.block_lt_of_cell? w _ hw318_2)).trans hw318_2), ((HB.out.cell (World.block_lt_of_cell? w _ hw318_3)).trans hw318_3), ((HB.out.cell (World.block_lt_of_cell? w _ hw318_4)).trans hw318_4), ((HB.out.cell (World.block_lt_of_cell? w _ hw318_5)).trans hw318_5)⟩ (fun hHeld => ?_)
                clear hK K
                refine norm_ (a' := ?_) ?_ ?_
                rotate_left
                · show Act.put _ (some 25) _ = _
                  simp only [Act.put, List.setIfInBounds_toArray, List.set_cons_zero, List.set_cons_succ, i64_w, i32_w]
                  rfl
                refine pure_ (i := 9) (N := some 26) (v := ?_) (a' := ?_) #[true, true, true, true, true, true, true, true, true, true] rfl rfl (any_of HT_.out (by kernel_rfl)) (fun _ _ _ h => h) (Or.inl ⟨by rfl, ?_⟩) ?_ ?_
                rotate_left
                · intro w'
                  go_simp
                  with_reducible rfl
                rotate_left
                · simp only [Act.put, List.setIfInBounds_toArray, List.set_cons_zero, List.set_cons_succ, i64_w, i32_w]
                  rfl
                refine done_ (done_of HT_.out (by kernel_rfl)) ?_
                try go_wp2
                go_roundg k1
                case measure => have := HK1.out; omega
                case rel => exact ⟨(wrap64 (x5_1 + 1)), (by first | rfl | (simp; done) | (simp [*]; done)), H', ⟨by have := HK1.out; omega⟩, ⟨by repeat (first | (with_reducible first | exact HB.out | apply below_alloc | apply pw_below_drewN | apply below_drew1) | exact HB.out)⟩⟩
              · replace c8 := Bool.eq_false_iff.mpr c8
                subst c8
                have H1 : (some false) = some r := by rw [if_neg (show ¬ (false = true) by decide)] at H; exact H
                clear H
                have H := H1
                clear H1
                obtain rfl := Option.some.inj H
                try go_wp2
                have n0_ := Aside0.mk (below_drew1 HB.out)
                clear HB
                have HB := n0_
                clear n0_
                have p317 : 0 ≤ (x5_1 : Int) := of_decide_eq_true (by first | (with_reducible assumption) | assumption)
                have q317 : x5_1 < (l0.length : Int) := of_decide_eq_true (by first | (with_reducible assumption) | assumption)
                obtain ⟨ad317, e317, hx317_0, hx317_1, hx317_2, hx317_3, hx317_4, hx317_5⟩ := at_T30 HR0.out x5_1 p317 q317
                have hw317_5 := hx317_5
                have hw317_4 := hx317_4
                have hw317_3 := hx317_3
                have hw317_2 := hx317_2
                have hw317_1 := hx317_1
                have hw317_0 := hx317_0
                cases e317
                replace hx317_0 := (HB.out.cell (World.block_lt_of_cell? w _ hx317_0)).trans hx317_0
                replace hx317_1 := (HB.out.cell (World.block_lt_of_cell? w _ hx317_1)).trans hx317_1
                replace hx317_2 := (HB.out.cell (World.block_lt_of_cell? w _ hx317_2)).trans hx317_2
                replace hx317_3 := (HB.out.cell (World.block_lt_of_cell? w _ hx317_3)).trans hx317_3
                replace hx317_4 := (HB.out.cell (World.block_lt_of_cell? w _ hx317_4)).trans hx317_4
                replace hx317_5 := (HB.out.cell (World.block_lt_of_cell? w _ hx317_5)).trans hx317_5
                replace p317 := eq_true p317
                replace q317 := eq_true q317
                have p318 : 0 ≤ (x5_1 : Int) := of_decide_eq_true (by first | (with_reducible assumption) | assumption)
                have q318 : x5_1 < (l1.length : Int) := of_decide_eq_true (by first | (with_reducible assumption) | assumption)
                obtain ⟨ad318, e318, hx318_0, hx318_1, hx318_2, hx318_3, hx318_4, hx318_5⟩ := at_T30 HR1.out x5_1 p318 q318
                have hw318_5 := hx318_5
                have hw318_4 := hx318_4
                have hw318_3 := hx318_3
                have hw318_2 := hx318_2
                have hw318_1 := hx318_1
                have hw318_0 := hx318_0
                cases e318
                replace hx318_0 := (HB.out.cell (World.block_lt_of_cell? w _ hx318_0)).trans hx318_0
                replace hx318_1 := (HB.out.cell (World.block_lt_of_cell? w _ hx318_1)).trans hx318_1
                replace hx318_2 := (HB.out.cell (World.block_lt_of_cell? w _ hx318_2)).trans hx318_2
                replace hx318_3 := (HB.out.cell (World.block_lt_of_cell? w _ hx318_3)).trans hx318_3
                replace hx318_4 := (HB.out.cell (World.block_lt_of_cell? w _ hx318_4)).trans hx318_4
                replace hx318_5 := (HB.out.cell (World.block_lt_of_cell? w _ hx318_5)).trans hx318_5
                replace p318 := eq_true p318
                replace q318 := eq_true q318
                refine start_ (n := 10) (S := fun w' => w'.cell? (ad317.add ((x5_1).toNat * 6)) = some (.int .i64 ((rd_T30 l0 x5_1).f0.f0)) ∧ w'.cell? ⟨(ad317.add ((x5_1).toNat * 6)).block, (ad317.add ((x5_1).toNat * 6)).off + 1, none⟩ = some (.int .i64 ((rd_T30 l0 x5_1).f0.f1)) ∧ w'.cell? ⟨(ad317.add ((x5_1).toNat * 6)).block, (ad317.add ((x5_1).toNat * 6)).off + 2, none⟩ = some (.int .i64 ((rd_T30 l0 x5_1).f1)) ∧ w'.cell? ⟨(ad317.add ((x5_1).toNat * 6)).block, (ad317.add ((x5_1).toNat * 6)).off + 3, none⟩ = some (.int .i64 ((rd_T30 l0 x5_1).f2)) ∧ w'.cell? ⟨(ad317.add ((x5_1).toNat * 6)).block, (ad317.add ((x5_1).toNat * 6)).off + 4, none⟩ = some (.string ((rd_T30 l0 x5_1).f3)) ∧ w'.cell? ⟨(ad317.add ((x5_1).toNat * 6)).block, (ad317.add ((x5_1).toNat * 6)).off + 5, none⟩ = some (.float .f64 ((rd_T30 l0 x5_1).f4)) ∧ w'.cell? (ad318.add ((x5_1).toNat * 6)) = some (.int .i64 ((rd_T30 l1 x5_1).f0.f0)) ∧ w'.cell? ⟨(ad318.add ((x5_1).toNat * 6)).block, (ad318.add ((x5_1).toNat * 6)).off + 1, none⟩ = some (.int .i64 ((rd_T30 l1 x5_1).f0.f1)) ∧ w'.cell? ⟨(ad318.add ((x5_1).toNat * 6)).block, (ad318.add ((x5_1).toNat * 6)).off + 2, none⟩ = some (.int .i64 ((rd_T30 l1 x5_1).f1)) ∧ w'.cell? ⟨(ad318.add ((x5_1).toNat * 6)).block, (ad318.add ((x5_1).toNat * 6)).off + 3, none⟩ = some (.int .i64 ((rd_T30 l1 x5_1).f2)) ∧ w'.cell? ⟨(ad318.add ((x5_1).toNat * 6)).block, (ad318.add ((x5_1).toNat * 6)).off + 4, none⟩ = some (.string ((rd_T30 l1 x5_1).f3)) ∧ w'.cell? ⟨(ad318.add ((x5_1).toNat * 6)).block, (ad318.add ((x5_1).toNat * 6)).off + 5, none⟩ = some (.float .f64 ((rd_T30 l1 x5_1).f4))) (ds := []) #[false, false, false, false, false, false, false, false, false, false] (by kernel_rfl) rfl rfl ⟨((HB.out.cell (World.block_lt_of_cell? w _ hw317_0)).trans hw317_0), ((HB.out.cell (World.block_lt_of_cell? w _ hw317_1)).trans hw317_1), ((HB.out.cell (World.block_lt_of_cell? w _ hw317_2)).trans hw317_2), ((HB.out.cell (World.block_lt_of_cell? w _ hw317_3)).trans hw317_3), ((HB.out.cell (World.block_lt_of_cell? w _ hw317_4)).trans hw317_4), ((HB.out.cell (World.block_lt_of_cell? w _ hw317_5)).trans hw317_5), ((HB.out.cell (World.block_lt_of_cell? w _ hw318_0)).trans hw318_0), ((HB.out.cell (World.block_lt_of_cell? w _ hw318_1)).trans hw318_1), ((HB.out.cell (World.block_lt_of_cell? w _ hw318_2)).trans hw318_2), ((HB.out.cell (World.block_lt_of_cell? w _ hw318_3)).trans hw318_3), ((HB.out.cell (World.block_lt_of_cell? w _ hw318_4)).trans hw318_4), ((HB.out.cell (World.block_lt_of_cell? w _ hw318_5)).trans hw318_5)⟩ (fun hHeld => ?_); refine with_tabW bonsairef13_Same.tab6 bonsairef13_Same.bits6 (fun HT_ HW_ => ?_)
                generalize wr.drew = w11 at HB hx317_0 hx317_1 hx317_2 hx317_3 hx317_4 hx317_5 hx318_0 hx318_1 hx318_2 hx318_3 hx318_4 hx318_5 hHeld ⊢
                refine pure_ (i := 0) (N := some 17) (v := ?_) (a' := ?_) #[true, false, false, false, false, false, false, false, false, false] rfl rfl (any_of HT_.out (by kernel_rfl)) (fun _ _ _ h => h) (Or.inl ⟨by rfl, ?_⟩) ?_ ?_
                rotate_left
                · intro w'
                  go_simp
                  with_reducible rfl
                rotate_left
                · simp only [Act.put, List.setIfInBounds_toArray, List.set_cons_zero, List.set_cons_succ, i64_w, i32_w]
                  rfl
                refine pure_ (i := 1) (N := some 18) (v := ?_) (a' := ?_) #[true, true, false, false, false, false, false, false, false, false] rfl rfl (any_of HT_.out (by kernel_rfl)) (fun _ _ _ h => h) (Or.inl ⟨by rfl, ?_⟩) ?_ ?_
                rotate_left
                · intro w'
                  go_simp
                  with_reducible rfl
                rotate_left
                · simp only [Act.put, List.setIfInBounds_toArray, List.set_cons_zero, List.set_cons_succ, i64_w, i32_w]
                  rfl
                refine pure_ (i := 2) (N := some 19) (v := ?_) (a' := ?_) #[true, true, true, false, false, false, false, false, false, false] rfl rfl (any_of HT_.out (by kernel_rfl)) (fun _ _ _ h => h) (Or.inl ⟨by rfl, ?_⟩) ?_ ?_
                rotate_left
                · intro w'
                  go_simp
                  with_reducible rfl
                rotate_left
                · simp only [Act.put, List.setIfInBounds_toArray, List.set_cons_zero, List.set_cons_succ, i64_w, i32_w]
                  rfl
                refine pure_ (i := 4) (N := some 21) (v := ?_) (a' := ?_) #[true, true, true, false, true, false, false, false, false, false] rfl rfl (any_of HT_.out (by kernel_rfl)) (fun _ _ _ h => h) (Or.inl ⟨by rfl, ?_⟩) ?_ ?_
                rotate_left
                · intro w'
                  go_simp
                  with_reducible rfl
                rotate_left
                · simp only [Act.put, List.setIfInBounds_toArray, List.set_cons_zero, List.set_cons_succ, i64_w, i32_w]
                  rfl
                refine pure_ (i := 5) (N := some 22) (v := ?_) (a' := ?_) #[true, true, true, false, true, true, false, false, false, false] rfl rfl (any_of HT_.out (by kernel_rfl)) (fun _ _ _ h => h) (Or.inl ⟨by rfl, ?_⟩) ?_ ?_
                rotate_left
                · intro w'
                  go_simp
                  with_reducible rfl
                rotate_left
                · simp only [Act.put, List.setIfInBounds_toArray, List.set_cons_zero, List.set_cons_succ, i64_w, i32_w]
                  rfl
                refine pure_ (i := 6) (N := some 23) (v := ?_) (a' := ?_) #[true, true, true, false, true, true, true, false, false, false] rfl rfl (any_of HT_.out (by kernel_rfl)) (fun _ _ _ h => h) (Or.inl ⟨by rfl, ?_⟩) ?_ ?_
                rotate_left
                · intro w'
                  go_simp
                  with_reducible rfl
                rotate_left
                · simp only [Act.put, List.setIfInBounds_toArray, List.set_cons_zero, List.set_cons_succ, i64_w, i32_w]
                  rfl
                refine take_ (i := 3) (N := some 20) (v := ?_) (a' := ?_) #[true, true, true, true, true, true, true, false, false, false] rfl rfl (take_ofW HT_.out HW_.out (by kernel_rfl)) (fun _ _ _ h => h) (Or.inl ⟨by rfl, ?_⟩) hHeld ?_ ?_
                rotate_left
                · rintro w' ⟨s0, s1, s2, s3, s4, s5, s6, s7, s8, s9, s10, s11⟩
                  go_simp
                  with_reducible rfl
                rotate_left
                · simp only [Act.put, List.setIfInBounds_toArray, List.set_cons_zero, List.set_cons_succ, i64_w, i32_w]
                  rfl
                refine take_ (i := 7) (N := some 24) (v := ?_) (a' := ?_) #[true, true, true, true, true, true, true, true, false, false] rfl rfl (take_ofW HT_.out HW_.out (by kernel_rfl)) (fun _ _ _ h => h) (Or.inl ⟨by rfl, ?_⟩) hHeld ?_ ?_
                rotate_left
                · rintro w' ⟨s0, s1, s2, s3, s4, s5, s6, s7, s8, s9, s10, s11⟩
                  go_simp
                  with_reducible rfl
                rotate_left
                · simp only [Act.put, List.setIfInBounds_toArray, List.set_cons_zero, List.set_cons_succ, i64_w, i32_w]
                  rfl
                refine one_ (i := 8) (N := some 25) #[true, true, true, true, true, true, true, true, true, false] rfl rfl (one_of HT_.out (by kernel_rfl)) (by decide) (fun K hK => ?_)
                refine goes_ Try.func44 (by kernel_rfl) rfl #[.agg #[.int .i64 ((rd_T30 l0 x5_1).f0.f0), .int .i64 ((rd_T30 l0 x5_1).f0.f1), .int .i64 ((rd_T30 l0 x5_1).f1), .int .i64 ((rd_T30 l0 x5_1).f2), .string ((rd_T30 l0 x5_1).f3), .float .f64 ((rd_T30 l0 x5_1).f4)], .agg #[.int .i64 ((rd_T30 l1 x5_1).f0.f0), .int .i64 ((rd_T30 l1 x5_1).f0.f1), .int .i64 ((rd_T30 l1 x5_1).f1), .int .i64 ((rd_T30 l1 x5_1).f2), .string ((rd_T30 l1 x5_1).f3), .float .f64 ((rd_T30 l1 x5_1).f4)]] (by rfl) rfl rfl (by (try simp only [List.map_toArray, List.map_cons, List.map_nil]); first | done | rfl | (simp only [List.length_drop, List.length_take]; rfl)) ?_
                with_reducible refine (bonsairef13_Alike.calls ((rd_T30 l0 x5_1).f0.f0) ((rd_T30 l0 x5_1).f0.f1) ((rd_T30 l0 x5_1).f1) ((rd_T30 l0 x5_1).f2) ((rd_T30 l0 x5_1).f3) ((rd_T30 l0 x5_1).f4) ((rd_T30 l1 x5_1).f0.f0) ((rd_T30 l1 x5_1).f0.f1) ((rd_T30 l1 x5_1).f1) ((rd_T30 l1 x5_1).f2) ((rd_T30 l1 x5_1).f3) ((rd_T30 l1 x5_1).f4) false _ A7.out).mono ?_
                rintro e w12 ⟨rfl, hb⟩
                refine ⟨_, rfl, ?_⟩
                have n0_ := Aside0.mk (below_step (by repeat (first | (with_reducible first | exact HB.out | apply below_alloc | apply pw_below_drewN | apply below_drew1) | exact HB.out)) hb)
                clear HB
                have HB := n0_
                clear n0_
                (try clear hb)
                (try clear hb2)
                (try clear hk)
                (try clear hi)
                refine hK.out _ _ ⟨((HB.out.cell (World.block_lt_of_cell? w _ hw317_0)).trans hw317_0), ((HB.out.cell (World.block_lt_of_cell? w _ hw317_1)).trans hw317_1), ((HB.out.cell (World.block_lt_of_cell? w _ hw317_2)).trans hw317_2), ((HB.out.cell (World.block_lt_of_cell? w _ hw317_3)).trans hw317_3), ((HB.out.cell (World.block_lt_of_cell? w _ hw317_4)).trans hw317_4), ((HB.out.cell (World.block_lt_of_cell? w _ hw317_5)).trans hw317_5), ((HB.out.cell (World.block_lt_of_cell? w _ hw318_0)).trans hw318_0), ((HB.out.cell (World.block_lt_of_cell? w _ hw318_1)).trans hw318_1), ((HB.out.cell (World.block_lt_of_cell? w _ hw318_2)).trans hw318_2), ((HB.out.cell (World.block_lt_of_cell? w _ hw318_3)).trans hw318_3), ((HB.out.cell (World.block_lt_of_cell? w _ hw318_4)).trans hw318_4), ((HB.out.cell (World.block_lt_of_cell? w _ hw318_5)).trans hw318_5)⟩ (fun hHeld => ?_)
                clear hK K
                refine norm_ (a' := ?_) ?_ ?_
                rotate_left
                · show Act.put _ (some 25) _ = _
                  simp only [Act.put, List.setIfInBounds_toArray, List.set_cons_zero, List.set_cons_succ, i64_w, i32_w]
                  rfl
                refine pure_ (i := 9) (N := some 26) (v := ?_) (a' := ?_) #[true, true, true, true, true, true, true, true, true, true] rfl rfl (any_of HT_.out (by kernel_rfl)) (fun _ _ _ h => h) (Or.inl ⟨by rfl, ?_⟩) ?_ ?_
                rotate_left
                · intro w'
                  go_simp
                  with_reducible rfl
                rotate_left
                · simp only [Act.put, List.setIfInBounds_toArray, List.set_cons_zero, List.set_cons_succ, i64_w, i32_w]
                  rfl
                refine done_ (done_of HT_.out (by kernel_rfl)) ?_
                try go_wp2
                go_ret
                exact ⟨by first | rfl | (simp [errW_none, errW_some] <;> rfl) | (simp [*, errW_none, errW_some] <;> rfl), by repeat (first | (with_reducible first | exact HB.out | apply below_alloc | apply pw_below_drewN | apply below_drew1) | exact HB.out)⟩
            · rw [if_neg c6] at H
              exact absurd H (by simp)
          · rw [if_neg c5] at H
            exact absurd H (by simp)
        · rw [if_neg c4] at H
          have c4b0 : decide (x5_1 < (l0.length : Int)) = false := decide_eq_false c4
          clear c4
          obtain rfl := Option.some.inj H
          go_wp2
          go_ret
          exact ⟨by first | rfl | (simp [errW_none, errW_some] <;> rfl) | (simp [*, errW_none, errW_some] <;> rfl), by repeat (first | (with_reducible first | exact HB.out | apply below_alloc | apply pw_below_drewN | apply below_drew1) | exact HB.out)⟩
  · rw [if_neg c3] at H
    have c3b0 : ((l0.length : Int) == (l1.length : Int)) = false := beq_eq_false_iff_ne.mpr c3
    have c3b1 : ((l0.length : Int) != (l1.length : Int)) = true := bne_iff_ne.mpr c3
    have c3b2 : (l0.length == l1.length) = false := by first | simpa using c3 | (simp at c3 ⊢; omega)
    obtain rfl := Option.some.inj H
    go_enter Try.func15, Try.ntmps15
    go_wp2
    go_ret
    exact ⟨by first | rfl | (simp [errW_none, errW_some] <;> rfl) | (simp [*, errW_none, errW_some] <;> rfl), by repeat (first | (with_reducible first | exact HB.out | apply below_alloc | apply pw_below_drewN | apply below_drew1) | exact HB.out)⟩
end Go.Proofs.Ytfcndhajcikgiaa.B
namespace Go.Proofs.Ytfcndhajcikgiaa.B
open Go.RowKit Go.Proofs.Sp Go.Proofs.Fl Go.Proofs.YtfcndhajcikgiaaW.PrintWords Go.Proofs.YtfcndhajcikgiaaW.PrintLast Go.Proofs.YtfcndhajcikgiaaW.PrintMore
def headL : List UInt8 := [66, 78, 83, 73, 1]
def fileX (l : List S30) : List UInt8 := headL ++ (putL l.length ++ l.flatMap encX)
theorem flat_le : ∀ l : List S30, (∀ x ∈ l, x.f3.size ≤ 1000) → (l.flatMap encX).length ≤ 1058 * l.length
  | [], _ => by simp
  | x :: r, h => by
    have h1 := encX_le x
    have h2 := h x (by simp)
    have h3 := flat_le r (fun y hy => h y (by simp [hy]))
    rw [List.flatMap_cons, List.length_append, List.length_cons]; omega
theorem may_names {l : List S30} (h : mayM l = true) : l.length ≤ 2000 ∧ (∀ x ∈ l, oneM x = true) ∧ ∀ x ∈ l, x.f3.size ≤ 1000 := by
  unfold mayM at h
  simp only [Bool.and_eq_true, decide_eq_true_eq, List.all_eq_true] at h
  obtain ⟨⟨h1, h2⟩, h3⟩ := h
  refine ⟨h2, h3, fun x hx => ?_⟩
  have := h3 x hx
  unfold oneM oneB at this
  simp only [Bool.and_eq_true, decide_eq_true_eq] at this
  have := this.1.2
  omega
theorem ones_f : ∀ l : List S30, Ranks l → (∀ x ∈ l, x.f3.size ≤ 1000) → onesM l = some (l.flatMap encX)
  | [], _, _ => rfl
  | x :: r, h, hn => by
    rw [onesM, one_f_ (h x (by simp)) (hn x (by simp))]
    simp only [Option.bind_some]
    rw [ones_f r (fun y hy => h y (by simp [hy])) (fun y hy => hn y (by simp [hy]))]; rfl
theorem encode_f {l : List S30} (hr : Ranks l) : rows_Encode.f l = some (if mayM l then (ba (fileX l), 0) else (⟨#[]⟩, 1)) := by
  unfold rows_Encode.f
  by_cases h : mayM l = true
  · obtain ⟨h1, h2, h3⟩ := may_names h
    rw [if_pos h, if_pos h, pack_put_f (by omega) 20 (by omega), ones_f l hr h3]
    simp only [Option.bind_some]
    have := flat_le l h3
    have := putL_le l.length
    rw [if_pos (by rw [ba_size]; omega)]
    refine congrArg some (Prod.ext ?_ rfl)
    apply ba_ext
    show (headM.data.toList ++ _ ++ _) = _
    rw [List.append_assoc]; rfl
  · rw [if_neg h, if_neg h]
theorem alike_f {x y : S30} (hx : x.f4 < 2 ^ 64) (hy : y.f4 < 2 ^ 64) (h : toS x = toS y) : bonsairef13_Alike.f x.f0.f0 x.f0.f1 x.f1 x.f2 x.f3 x.f4 y.f0.f0 y.f0.f1 y.f1 y.f2 y.f3 y.f4 = some true := by
  unfold toS at h
  injection h with h1 h2 h3 h4 h5 h6
  have h7 : canon x.f4 = canon y.f4 := by have := (canon_nat hx).1; have := (canon_nat hy).1; omega
  unfold bonsairef13_Alike.f bonsairef13_Row.f bonsairef12_Alike.f bonsairef01_Same.f bonsairef01_Bits.f
  simp only [Option.bind_some, h1, h2, h3, h4, h5, if_pos hx, if_pos hy, h7]
  simp
theorem same_l (a b : List S30) (ha : Ranks a) (hb : Ranks b) (h : a.map toS = b.map toS) (hl : a.length ≤ 9223372036854775806) : ∀ (d i k : Nat), i + d = a.length → d + 1 ≤ k → bonsairef13_Same.l0 k a b i = some true
  | 0, i, k, hd, hk => by
    obtain ⟨k, rfl⟩ : ∃ m, k = m + 1 := ⟨k - 1, by omega⟩
    rw [bonsairef13_Same.l0, if_neg (by omega)]
  | d + 1, i, k, hd, hk => by
    obtain ⟨k, rfl⟩ : ∃ m, k = m + 1 := ⟨k - 1, by omega⟩
    have hlen : a.length = b.length := by have := congrArg List.length h; simpa using this
    have hi : i < a.length := by omega
    have hi2 : i < b.length := by omega
    have he : toS a[i] = toS b[i] := by
      have := congrArg (fun l : List MoveS => l[i]?) h
      simp only [List.getElem?_map, List.getElem?_eq_getElem hi, List.getElem?_eq_getElem hi2, Option.map_some, Option.some.injEq] at this
      exact this
    rw [bonsairef13_Same.l0, if_pos (by omega), if_pos (by omega), if_pos (by omega), rd_get a i hi, rd_get b i hi2, alike_f (ha _ (List.getElem_mem hi)) (hb _ (List.getElem_mem hi2)) he]
    simp only [Option.bind_some, if_true]
    rw [w64 (by omega) (by omega)]
    exact same_l a b ha hb h hl d (i + 1) k (by omega) (by omega)
theorem same_f {a b : List S30} (ha : Ranks a) (hb : Ranks b) (h : a.map toS = b.map toS) (hl : a.length ≤ 9223372036854775806) (k : Nat) (hk : a.length + 1 ≤ k) : bonsairef13_Same.f k a b = some true := by
  have hlen : a.length = b.length := by have := congrArg List.length h; simpa using this
  unfold bonsairef13_Same.f
  rw [if_pos (by omega)]
  exact same_l a b ha hb h hl a.length 0 k (by omega) hk
theorem like_toS : ∀ {ms : List MoveS} {xs : List S30}, LikeL ms xs → (∀ m ∈ ms, canonB m.rank = true ∧ m.rank < 2 ^ 64) → xs.map toS = ms ∧ Ranks xs
  | [], [], _, _ => ⟨rfl, fun _ h => by cases h⟩
  | m :: r, x :: t, h, hok => by
    obtain ⟨ih1, ih2⟩ := like_toS h.2 (fun y hy => hok y (by simp [hy]))
    obtain ⟨h1, h2, h3, h4, h5, h6, h7, h8⟩ := h.1
    obtain ⟨c1, c2⟩ := hok m (by simp)
    refine ⟨?_, fun y hy => ?_⟩
    · rw [List.map_cons, ih1]
      congr 1
      unfold toS
      cases m
      simp only [MoveS.mk.injEq]
      refine ⟨h1, h2, h3, h4, h5, ?_⟩
      dsimp only at h7 c1 c2
      rw [h7]
      unfold canonB at c1
      unfold canon
      split
      · rfl
      · rename_i hc
        rw [decide_eq_false hc, Bool.false_or, decide_eq_true_eq] at c1
        omega
    · rcases List.mem_cons.1 hy with rfl | hy
      · exact h6
      · exact ih2 y hy
  | [], _ :: _, h, _ => h.elim
  | _ :: _, [], h, _ => h.elim
end Go.Proofs.Ytfcndhajcikgiaa.B
namespace Go.Proofs.Ytfcndhajcikgiaa.B
open Go.RowKit Go.ChangeShapes Go.WideShapes Go.Deep Go.Proofs.Sp Go.Proofs.Fl Go.Proofs.YtfcndhajcikgiaaW.PrintWords Go.Proofs.YtfcndhajcikgiaaW.PrintLast Go.Proofs.YtfcndhajcikgiaaW.PrintMore
theorem cells_27 : Try.prog.cellsOf 27 = 2 := by kernel_rfl
theorem cells_3 : Try.prog.cellsOf 3 = 1 := by kernel_rfl
theorem cells_9 : Try.prog.cellsOf 9 = 1 := by kernel_rfl
theorem cells_28 : Try.prog.cellsOf 28 = 1 := by kernel_rfl
theorem cells_30 : Try.prog.cellsOf 30 = 6 := by kernel_rfl
theorem list_of {α : Type} {P : Nat → α → Prop} : ∀ n, (∀ i, i < n → ∃ x, P i x) → ∃ l : List α, l.length = n ∧ ∀ i x, l[i]? = some x → P i x
  | 0, _ => ⟨[], rfl, fun i x h => by simp at h⟩
  | n + 1, h => by
    obtain ⟨l, hl, hp⟩ := list_of n (fun i hi => h i (by omega))
    obtain ⟨x, hx⟩ := h n (by omega)
    refine ⟨l ++ [x], by simp [hl], fun i y hy => ?_⟩
    by_cases hi : i < l.length
    · rw [List.getElem?_append_left hi] at hy; exact hp i y hy
    · rw [List.getElem?_append_right (by omega)] at hy
      have h0 : i - l.length = 0 := by
        have := (List.getElem?_eq_some_iff.1 hy).1
        simp at this; omega
      rw [h0] at hy
      injection hy with hy
      subst hy
      rw [show i = n by omega]; exact hx
section
variable {H : Type} {enc : TypeId × Value → H} {w : World} {base : Nat} {spare : Nat → Bool} {held : Bool}
theorem trod_f64 {P : Program} {t : TypeId} {fuel : Nat} {cs : List Value} {x : DataW H × List MemPlace} (ht : P.underlying t = some (.float .f64)) (h : DataW.trod enc P w base spare held fuel t cs = some x) : ∃ n : Nat, cs = [.float .f64 n] ∧ n < 2 ^ 64 := by
  cases fuel with
  | zero => simp [DataW.trod] at h
  | succ n =>
    unfold DataW.trod at h
    rw [ht] at h
    split at h
    all_goals try (simp at *; done)
    rename_i kd kv b he
    injection he with he
    injection he with he
    subst he
    split at h
    · rename_i hc
      obtain ⟨rfl, hw⟩ := hc
      exact ⟨b, rfl, of_decide_eq_true hw⟩
    · cases h
set_option maxRecDepth 20000 in
theorem open_time {fuel : Nat} {c0 c1 : Value} {x : DataW H × List MemPlace} (h : DataW.trod enc Try.prog w base spare held fuel 27 [c0, c1] = some x) : ∃ a b : Int, c0 = .int .i64 a ∧ c1 = .int .i64 b := by
  obtain ⟨ys, n, rfl, -, -, hyl, hf⟩ := DataW.trod_struct Try.underlying27 h
  match ys, hyl with
  | [y0, y1], _ =>
    have g0 : DataW.trod enc Try.prog w base spare held n 3 (([c0, c1].drop 0).take (Try.prog.cellsOf 3)) = some y0 := hf 0 _ rfl
    have g1 : DataW.trod enc Try.prog w base spare held n 3 (([c0, c1].drop 1).take (Try.prog.cellsOf 3)) = some y1 := hf 1 _ rfl
    rw [cells_3] at g0 g1
    obtain ⟨a, ha, -, -⟩ := DataW.trod_int Try.underlying3 (show DataW.trod enc Try.prog w base spare held n 3 [c0] = some y0 from g0)
    obtain ⟨b, hb, -, -⟩ := DataW.trod_int Try.underlying3 (show DataW.trod enc Try.prog w base spare held n 3 [c1] = some y1 from g1)
    injection ha with ha
    injection hb with hb
    exact ⟨a, b, ha, hb⟩
set_option maxRecDepth 20000 in
theorem open_move {fuel : Nat} {cs : List Value} {x : DataW H × List MemPlace} (h : DataW.trod enc Try.prog w base spare held fuel 30 cs = some x) :
    ∃ y : S30, cs = [.int .i64 y.f0.f0, .int .i64 y.f0.f1, .int .i64 y.f1, .int .i64 y.f2, .string y.f3, .float .f64 y.f4] ∧ y.f4 < 2 ^ 64 := by
  obtain ⟨ys, n, rfl, -, hlen, hyl, hf⟩ := DataW.trod_struct Try.underlying30 h
  rw [cells_30] at hlen
  match cs, hlen with
  | [c0, c1, c2, c3, c4, c5], _ =>
    match ys, hyl with
    | [y0, y1, y2, y3, y4], _ =>
      have g0 : DataW.trod enc Try.prog w base spare held n 27 (([c0, c1, c2, c3, c4, c5].drop 0).take (Try.prog.cellsOf 27)) = some y0 := hf 0 _ rfl
      have g1 : DataW.trod enc Try.prog w base spare held n 3 (([c0, c1, c2, c3, c4, c5].drop 2).take (Try.prog.cellsOf 3)) = some y1 := hf 1 _ rfl
      have g2 : DataW.trod enc Try.prog w base spare held n 3 (([c0, c1, c2, c3, c4, c5].drop 3).take (Try.prog.cellsOf 3)) = some y2 := hf 2 _ rfl
      have g3 : DataW.trod enc Try.prog w base spare held n 9 (([c0, c1, c2, c3, c4, c5].drop 4).take (Try.prog.cellsOf 9)) = some y3 := hf 3 _ rfl
      have g4 : DataW.trod enc Try.prog w base spare held n 28 (([c0, c1, c2, c3, c4, c5].drop 5).take (Try.prog.cellsOf 28)) = some y4 := hf 4 _ rfl
      rw [cells_27] at g0
      rw [cells_3] at g1 g2
      rw [cells_9] at g3
      rw [cells_28] at g4
      obtain ⟨a, b, rfl, rfl⟩ := open_time (show DataW.trod enc Try.prog w base spare held n 27 [c0, c1] = some y0 from g0)
      obtain ⟨p, hp, -, -⟩ := DataW.trod_int Try.underlying3 (show DataW.trod enc Try.prog w base spare held n 3 [c2] = some y1 from g1)
      obtain ⟨q, hq, -, -⟩ := DataW.trod_int Try.underlying3 (show DataW.trod enc Try.prog w base spare held n 3 [c3] = some y2 from g2)
      obtain ⟨s, hs, -, -⟩ := DataW.trod_string Try.underlying9 (show DataW.trod enc Try.prog w base spare held n 9 [c4] = some y3 from g3)
      obtain ⟨f, hf5, hlt⟩ := trod_f64 Try.underlying28 (show DataW.trod enc Try.prog w base spare held n 28 [c5] = some y4 from g4)
      injection hp with hp
      injection hq with hq
      injection hs with hs
      injection hf5 with hf5
      subst hp hq hs hf5
      exact ⟨⟨⟨a, b⟩, p, q, s, f⟩, rfl, hlt⟩
/-- A list of moves that came in: read. -/
theorem open_moves {a : Option Addr} {len cap : Nat} {d : DataW H} {p : List MemPlace} (h : DataW.Trod enc Try.prog w base spare held 22 (.slice a len cap) d p) :
    ∃ l : List S30, len = l.length ∧ l.length ≤ cap ∧ Kd.C k30 w a l.length l ∧ Ranks l := by
  obtain ⟨fuel, hf⟩ := h
  rcases open_slice Try.underlying22 hf with ⟨hcs, _⟩ | ⟨x, l, c, m, n, D, Pl, hcs, _, hl, hm, hmm, _, hi⟩
  · simp [Value.cells] at hcs
    obtain ⟨rfl, rfl, rfl⟩ := hcs
    exact ⟨[], rfl, Nat.le_refl _, Kd.C_nil _ _, fun _ hx => by cases hx⟩
  · simp [Value.cells] at hcs
    obtain ⟨rfl, rfl, rfl⟩ := hcs
    have hlm : len ≤ m := by rw [hmm]; split <;> omega
    obtain ⟨xs, hxs, hp⟩ := list_of (P := fun i (y : S30) => (∀ j u, [Value.int .i64 y.f0.f0, .int .i64 y.f0.f1, .int .i64 y.f1, .int .i64 y.f2, .string y.f3, .float .f64 y.f4][j]? = some u → w.cell? (x.add (i * 6 + j)) = some u) ∧ y.f4 < 2 ^ 64) len (fun i hil => by
      obtain ⟨cs', hc, ht⟩ := hi i (by omega)
      obtain ⟨y, rfl, hy⟩ := open_move ht
      rw [cells_30] at hc
      obtain ⟨_, hcl, hat⟩ := World.cells?_some hc
      refine ⟨y, fun j u hu => ?_, hy⟩
      have hj : j < 6 := (List.getElem?_eq_some_iff.1 hu).1
      rw [← Go.Deep.add_add]
      exact (hat j hj).trans hu)
    refine ⟨xs, hxs.symm, by omega, ⟨rfl, by unfold maxLen at hm; omega, fun _ => ⟨x, rfl, fun j y hj => ?_⟩⟩, fun y hy => ?_⟩
    · obtain ⟨h1, h2⟩ := hp j y hj
      exact ⟨_, rfl, k30_mk w y, h1⟩
    · obtain ⟨j, hj, rfl⟩ := List.getElem_of_mem hy
      exact (hp j _ (List.getElem?_eq_getElem hj)).2
end
end Go.Proofs.Ytfcndhajcikgiaa.B
namespace Go.Proofs.Ytfcndhajcikgiaa.B
open Go.RowKit Go.Proofs.Sp Go.Proofs.Fl Go.Proofs.YtfcndhajcikgiaaW.PrintWords Go.Proofs.YtfcndhajcikgiaaW.PrintLast Go.Proofs.YtfcndhajcikgiaaW.PrintMore
theorem DecodeOf.ok {w w' : World} {m : Except Int (List MoveS)} {ms : List MoveS} {xs : List S30} {v : Value} (h : m = .ok ms) (hl : LikeL ms xs) (hr : Kd.R k30 30 w' w.heap.size (fun _ => True) v xs) (hb : Below w.heap.size w w') : DecodeOf w m (.returned (.tuple #[v, .int .i64 0])) w' := by subst h; exact ⟨⟨v, xs, rfl, hr, hl⟩, hb⟩
/-- Between two moves. -/
def DecAt (w W : World) (h g : Nat) (S : ByteArray) (nn : Int) (ns : ByteArray) (ne : Int) (i : Nat) (acc : List MoveS) (xs : List S30) (s : ByteArray) (e : Int) (lv : Value) : Prop :=
  movesR S nn.toNat [] (ns, ne) = movesR S (nn.toNat - i) acc (s, e) ∧ LikeL acc xs ∧ acc.length = i ∧ Kd.R k30 30 W w.heap.size (fun k => k ≠ g ∧ k ≠ h) lv xs ∧ IsRows w W h g S s e ∧ Below w.heap.size w W
theorem DecodeOf.err {w w' : World} {m : Except Int (List MoveS)} {er : Int} (h : m = .error er) (hb : Below w.heap.size w w') : DecodeOf w m (.returned (.tuple #[.slice none 0 0, .int .i64 er])) w' := by subst h; exact ⟨rfl, hb⟩
theorem IsRows.lt_h {w0 W : World} {h g : Nat} {S s : ByteArray} {er : Int} (hi : IsRows w0 W h g S s er) : h < W.heap.size := blk_lt hi.1
theorem IsRows.lt_g {w0 W : World} {h g : Nat} {S s : ByteArray} {er : Int} (hi : IsRows w0 W h g S s er) : g < W.heap.size := hi.2.2.2.lt
theorem IsRows.grown {w0 W w1 : World} {h g : Nat} {S s : ByteArray} {er : Int} {row : Option Nat} (hi : IsRows w0 W h g S s er) (hg : W.grownBy w1 row) (h1 : some h ≠ row) (h2 : some g ≠ row) : IsRows w0 w1 h g S s er :=
  ⟨(hg.block h (blk_lt hi.1) h1).trans hi.1, hi.2.1, hi.2.2.1, (hg.block g hi.2.2.2.lt h2).trans hi.2.2.2.1, hi.2.2.2.2⟩
theorem IsRows.drew {w0 W : World} {h g : Nat} {S s : ByteArray} {er : Int} (hi : IsRows w0 W h g S s er) : IsRows w0 W.drew h g S s er := hi
theorem IsRows.below {w0 W w1 : World} {h g : Nat} {S s : ByteArray} {er : Int} (hi : IsRows w0 W h g S s er) (hb : Below W.heap.size W w1) : IsRows w0 w1 h g S s er :=
  ⟨(hb.block h (blk_lt hi.1)).trans hi.1, hi.2.1, hi.2.2.1, (hb.block g hi.2.2.2.lt).trans hi.2.2.2.1, hi.2.2.2.2⟩
theorem LikeL.at_ : ∀ {ms : List MoveS} {xs : List S30}, LikeL ms xs → ∀ (j : Nat) (h : j < ms.length), LikeM ms[j] (xs.getD j z30)
  | [], [], _, _, h => absurd h (Nat.not_lt_zero _)
  | a :: r, x :: t, h, 0, _ => h.1
  | a :: r, x :: t, h, j + 1, hj => LikeL.at_ (ms := r) (xs := t) h.2 j (Nat.lt_of_succ_lt_succ hj)
  | [], _ :: _, h, _, _ => h.elim
  | _ :: _, [], h, _, _ => h.elim
theorem LikeL.last {ms : List MoveS} {xs : List S30} (h : LikeL ms xs) (hl : 0 < ms.length) {J : Int} (hJ : J = (ms.length : Int) - 1) : ∃ a, ms.getLast? = some a ∧ (rd_T30 xs J).f0.f0 = a.c ∧ (rd_T30 xs J).f0.f1 = a.r := by
  have hj : ms.length - 1 < ms.length := by omega
  have h2 := h.at_ (ms.length - 1) hj
  refine ⟨ms[ms.length - 1], by rw [List.getLast?_eq_getElem?, List.getElem?_eq_getElem hj], ?_, ?_⟩
  · unfold rd_T30; rw [show J.toNat = ms.length - 1 by omega]; exact h2.1
  · unfold rd_T30; rw [show J.toNat = ms.length - 1 by omega]; exact h2.2.1
theorem six_cells {W : World} {B : Nat} {c0 c1 c2 c3 c4 c5 : Value} {t : TypeId} (h : W.heap[B]? = some (.cells #[c0, c1, c2, c3, c4, c5] t (0, 0))) :
    W.cell? ⟨B, 0, none⟩ = some c0 ∧ W.cell? ⟨B, 1, none⟩ = some c1 ∧ W.cell? ⟨B, 2, none⟩ = some c2 ∧ W.cell? ⟨B, 3, none⟩ = some c3 ∧ W.cell? ⟨B, 4, none⟩ = some c4 ∧ W.cell? ⟨B, 5, none⟩ = some c5 :=
  ⟨(blk_cell h 0).trans rfl, (blk_cell h 1).trans rfl, (blk_cell h 2).trans rfl, (blk_cell h 3).trans rfl, (blk_cell h 4).trans rfl, (blk_cell h 5).trans rfl⟩
/-- One move more. -/
theorem DecAt.next {w W w1 : World} {h g : Nat} {S : ByteArray} {nn : Int} {ns : ByteArray} {ne : Int} {i : Nat} {acc : List MoveS} {xs : List S30} {lv v1 : Value} {x : MoveS} {y : S30} {q2 : ByteArray × Int} {k : Nat}
    (hd : LikeL acc xs) (hl : acc.length = i) (hk : nn.toNat - i = k + 1) (hst : movesR S nn.toNat [] (ns, ne) = movesR S k (acc ++ [x]) q2) (hxy : LikeM x y) (hI : IsRows w W h g S q2.1 q2.2)
    (hL : Kd.R k30 30 W w.heap.size (fun k => k ≠ g ∧ k ≠ h) lv xs)
    (ho : Kd.R k30 30 w1 w.heap.size (fun k => k ≠ g ∧ k ≠ h) v1 (xs ++ [y])) (hb : Below w.heap.size w w1) (hg : W.grownBy w1 lv.ownBlock) :
    DecAt w w1 h g S nn ns ne (i + 1) (acc ++ [x]) (xs ++ [y]) q2.1 q2.2 v1 :=
  ⟨by rw [hst, show nn.toNat - (i + 1) = k by omega], hd.snoc hxy, by simp [hl], ho, hI.grown hg (fun e => (hL.1 h e.symm).2 rfl) (fun e => (hL.1 g e.symm).1 rfl), hb⟩
set_option maxRecDepth 100000 in
set_option maxHeartbeats 4000000 in
theorem rows_Decode.calls (S : ByteArray) (v ve : Int) (w : World) (hS : S.size ≤ 9223372036854775807) (hv : chunk_Version.f S = some (v, ve)) (h5 : ve = 0 → v = 1 → 5 ≤ S.size) :
    Calls Try.prog 13 #[.string S] w fun e w' => DecodeOf w (decodeR S v ve) e w' := by
  have HV := Lib.hid hv
  clear hv
  obtain ⟨m, hm⟩ : ∃ m, m = decodeR S v ve := ⟨_, rfl⟩
  rw [← hm]
  have HM := Lib.hid hm
  clear hm
  go_enter Try.func13, Try.ntmps13
  by_cases c1 : ve = 0
  · by_cases c2 : v = 1
    · have h5' := h5 c1 c2
      have h6 : (5 : Int) ≤ (S.size : Int) := by omega
      go_wp2_with (first
        | (go_at_call 17; refine (chunk_Version.calls S _ _ _ HV.out).mono ?_; rintro e w1 ⟨rfl, hb⟩; have B1 := Lib.hid hb.below; clear hb)
        | (go_at_call 29; refine (pack_New.calls _ _ _ w _ B1.out rfl).mono ?_; rintro e w2 ⟨g, rfl, hq1, hq2, hq3⟩; have I2 := Lib.hid hq1; have B2 := Lib.hid (below_alloc hq2 (.cells #[.pointer (some ⟨g, 0, none⟩), .string S] 60)); have R2 := Lib.hid (show IsRows w (w2.alloc (.cells #[.pointer (some ⟨g, 0, none⟩), .string S] 60)) w2.heap.size g S (S.extract 5 S.size) 0 from ⟨heap_alloc_new w2 _, hq2.size, (by have := hq1.lt; omega), hq1.alloc _⟩); clear hq1 hq2 hq3))
      obtain ⟨nv, hnv⟩ : ∃ n, n = numR (S.extract 5 S.size, 0) := ⟨_, rfl⟩
      have HN := Lib.hid (num_f (S.extract 5 S.size) 0)
      rw [← hnv] at HN
      have HNV := Lib.hid hnv
      clear hnv
      obtain ⟨nn, ns, ne⟩ := nv
      go_wp2_with (go_at_call 30; refine (pack_Reader_Num.calls g _ _ _ _ _ w _ R2.out.2.2.2 B2.out HN.out).mono ?_; rintro e w3 ⟨rfl, h1, h2, h3⟩; have R3 := Lib.hid (R2.out.keep h1 h3); have B3 := Lib.hid h2; have c03 := R3.out.c0; clear h1 h2 h3)
      have hm : m = if ne ≠ 0 then .error ne else if 2000 < nn then .error 10 else match movesR S nn.toNat [] (ns, ne) with
          | .error e => .error e
          | .ok (ms, q) => if doneR q.1 q.2 ≠ 0 then .error (doneR q.1 q.2) else .ok ms := by
        rw [HM.out]; unfold decodeR; rw [if_neg (by simpa using c1), if_neg (by simpa using c2), ← HNV.out]; rfl
      have HMM := Lib.hid hm
      clear hm
      by_cases c3 : ne = 0
      · by_cases c4 : 2000 < nn
        · have HE := Lib.hid (show m = .error 10 by have := HMM.out; rw [if_neg (by simpa using c3), if_pos c4] at this; exact this)
          go_wp2_with (go_at_call 31; refine (pack_Reader_Err.calls g ns ne _ _ _ w _ R3.out.2.2.2 B3.out (err_f ns ne)).mono ?_; rintro e w4 ⟨rfl, h1, h2, h3⟩; have R4 := Lib.hid (R3.out.keep h1 h3); have B4 := Lib.hid h2; have c04 := R4.out.c0; clear h1 h2 h3)
          go_ret2
          exact DecodeOf.err HE.out B4.out
        · have hE := HMM.out
          rw [if_neg (by simpa using c3), if_neg c4] at hE
          have HE := Lib.hid hE
          clear hE
          have h0n : (0 : Int) ≤ nn := by have := numR_nonneg (S.extract 5 S.size, 0); rw [← HNV.out] at this; exact this
          have hn2 : nn ≤ 2000 := by omega
          go_wp2_with (go_at_call 31; refine (pack_Reader_Err.calls g ns ne _ _ _ w _ R3.out.2.2.2 B3.out (err_f ns ne)).mono ?_; rintro e w4 ⟨rfl, h1, h2, h3⟩; have R4 := Lib.hid (R3.out.keep h1 h3); have B4 := Lib.hid h2; have c04 := R4.out.c0; clear h1 h2 h3)
          obtain ⟨H, hH⟩ : ∃ H, H = w2.heap.size := ⟨_, rfl⟩
          rw [← hH] at R4 c04 ⊢
          clear R2 R3 B2 B3 hH HM HMM
          go_loopw [9, 51] (fun lv iv wr => ∃ (i : Nat) (acc : List MoveS) (xs : List S30) (s : ByteArray) (e : Int), iv = .int .i64 i ∧ (i : Int) ≤ nn ∧ DecAt w wr H g S nn ns ne i acc xs s e lv) (fun _ iv _ => (nn - intOf iv).toNat)
          case atStart => exact ⟨0, [], [], ns, ne, rfl, h0n, rfl, trivial, rfl, Kd.R_nil _ _ _ _ _, R4.out, B4.out⟩
          case round =>
            obtain ⟨i, acc, xs, s, e, rfl, hin, hd⟩ := hrel
            have HD := Lib.hid hd
            clear hd
            by_cases hlt : (i : Int) < nn
            · obtain ⟨k, hk⟩ : ∃ k, nn.toNat - i = k + 1 := ⟨nn.toNat - i - 1, by omega⟩
              have hstep := HD.out.1
              rw [hk, movesR] at hstep
              have hcs := moveR_cases S (s, e)
              rcases hcs with ⟨x, q2, hx⟩ | ⟨er, q2, her, hx⟩
              · rw [hx] at hstep
                have HX := Lib.hid hx
                have HST := Lib.hid hstep
                clear hx hstep
                by_cases hi0 : i = 0
                · go_wp2_with (go_at_call 32; refine (rows_move.calls H g S s e w _ hS HD.out.2.2.2.2.1 HD.out.2.2.2.2.2).mono ?_; rintro e5 w5 h; rw [HX.out] at h; obtain ⟨⟨y, hy, rfl⟩, h1, h2, h3⟩ := h; have HY := Lib.hid hy; have R5 := Lib.hid h1; have B5 := Lib.hid h2; have L5 := Lib.hid (Kd.R_keep HD.out.2.2.2.1 h3 (fun _ hk => hk.1)); clear hy h1 h2 h3)
                  go_region
                  have HIL := Lib.hid (show (xs.length + 1) * 56 ≤ 140737488355328 by have h1 := HD.out.2.1.length; have h2 := HD.out.2.2.1; omega)
                  have HGL := Lib.hid (show g < w5.heap.size ∧ H < w5.heap.size from ⟨R5.out.lt_g, R5.out.lt_h⟩)
                  go_wp2_with (first | ((with_reducible refine gate_builtin (b := .append) (xs := #[.tmp 78, .tmp 80]) rfl ?_); at_builtin; (rw [show ∀ (W : World) (o : Obj), (W.alloc o).drew = W.drew.alloc o from fun _ _ => rfl]; refine Kd.R_append k30 (w0 := w) w.heap.size rfl (.tmp 78) (.tmp 80) 22 30 _ 56 rfl Try.underlying22 info30 rfl (by decide) (by decide) u9 xs (⟨⟨x.c, x.r⟩, x.p, x.ch, x.name, y⟩ : S30) [.int .i64 x.c, .int .i64 x.r, .int .i64 x.p, .int .i64 x.ch, .string x.name, .float .f64 y] (fun k => k ≠ g ∧ k ≠ H) (fun _ => False) rfl ?aX ?aP (fun _ hk => hk.elim) ?aF ?aO ?aB ?aS ?aL ?_; (case aX => show Value.slice (some ⟨w5.heap.size + 1, 0, none⟩) 1 1 = _; simp); (case aP => exact k30_mkM _ _ _ _); (case aF => exact (fun k hk => by have h1 := HGL.out; have h2 : w5.heap.size ≤ k := Nat.le_trans (by simp) hk; omega)); (case aO => exact Kd.R_drew (Kd.R_alloc L5.out _)); (case aB => exact below_drew1 (below_alloc B5.out _)); (case aS => exact Nat.le_trans B5.out.size (by simp)); (case aL => exact HIL.out); intro v116 w6 ho hb hg hat)))
                  have HST2 := Lib.hid (show movesR S nn.toNat [] (ns, ne) = movesR S k (acc ++ [x]) q2 by
                    have h1 := HST.out; rw [show acc = [] from List.length_eq_zero_iff.1 (HD.out.2.2.1.trans hi0)] at h1 ⊢; exact h1)
                  have HN := Lib.hid (DecAt.next (v1 := v116) HD.out.2.1 HD.out.2.2.1 hk HST2.out (⟨rfl, rfl, rfl, rfl, rfl, HY.out⟩ : LikeM x ⟨⟨x.c, x.r⟩, x.p, x.ch, x.name, y⟩) (IsRows.drew (R5.out.alloc _)) (Kd.R_drew (Kd.R_alloc L5.out _)) ho hb hg)
                  clear ho hb hg hat
                  go_wp2
                  go_roundw
                  case rel => exact ⟨i + 1, _, _, _, _, by go_num, by omega, HN.out⟩
                  case measure => simp [intOf]; omega
                · obtain ⟨A, cc, hu9, -, -⟩ := Kd.R_reads HD.out.2.2.2.1
                  subst hu9
                  obtain ⟨I, hI⟩ : ∃ I : Int, I = (i : Int) := ⟨_, rfl⟩
                  obtain ⟨J, hJ⟩ : ∃ J : Int, J = I - 1 := ⟨_, rfl⟩
                  obtain ⟨a, ha1, ha2, ha3⟩ := HD.out.2.1.last (by rw [HD.out.2.2.1]; omega) (J := J) (by rw [HD.out.2.2.1]; omega)
                  have hst := HST.out
                  rw [ha1] at hst
                  replace hst : movesR S nn.toNat [] (ns, ne) = if beforeB a.c a.r x.c x.r then movesR S k (acc ++ [x]) q2 else .error 12 := hst
                  have hxl : xs.length = i := by rw [← HD.out.2.1.length]; exact HD.out.2.2.1
                  rw [← hI] at hin hlt ⊢
                  have hj1 : IntKind.i64.wrap (I - 1) = J := by rw [i64_w, w64 (by omega) (by omega)]; exact hJ.symm
                  have hj2 : (0 : Int) ≤ J := by omega
                  have hj3 : J < (xs.length : Int) := by omega
                  have hj4 : (0 : Int) < I := by omega
                  have hj5 : I ≤ 2000 := by omega
                  have HI := Lib.hid (And.intro hI hxl)
                  have HA := Lib.hid ha2
                  have HA2 := Lib.hid ha3
                  have HS2 := Lib.hid hst
                  clear hI hJ ha1 ha2 ha3 hst HST hxl
                  go_wp2_with (go_at_call 32; refine (rows_move.calls H g S s e w _ hS HD.out.2.2.2.2.1 HD.out.2.2.2.2.2).mono ?_; rintro e5 w5 h; rw [HX.out] at h; obtain ⟨⟨y, hy, rfl⟩, h1, h2, h3⟩ := h; have HY := Lib.hid hy; have R5 := Lib.hid h1; have B5 := Lib.hid h2; have L5 := Lib.hid (Kd.R_keep HD.out.2.2.2.1 h3 (fun _ hk => hk.1)); clear hy h1 h2 h3)
                  obtain ⟨X, hX⟩ : ∃ X, X = w5.alloc (.cells #[.int .i64 x.c, .int .i64 x.r, .int .i64 x.p, .int .i64 x.ch, .string x.name, .float .f64 y] 30) := ⟨_, rfl⟩
                  have LX := Lib.hid (Kd.R_alloc L5.out (.cells #[.int .i64 x.c, .int .i64 x.r, .int .i64 x.p, .int .i64 x.ch, .string x.name, .float .f64 y] 30))
                  have RX := Lib.hid (R5.out.alloc (.cells #[.int .i64 x.c, .int .i64 x.r, .int .i64 x.p, .int .i64 x.ch, .string x.name, .float .f64 y] 30))
                  have BX := Lib.hid (below_alloc B5.out (.cells #[.int .i64 x.c, .int .i64 x.r, .int .i64 x.p, .int .i64 x.ch, .string x.name, .float .f64 y] 30))
                  have MX := Lib.hid (heap_alloc_new w5 (.cells #[.int .i64 x.c, .int .i64 x.r, .int .i64 x.p, .int .i64 x.ch, .string x.name, .float .f64 y] 30))
                  rw [← hX] at LX RX BX MX ⊢
                  obtain ⟨B, hB⟩ : ∃ B, B = w5.heap.size := ⟨_, rfl⟩
                  rw [← hB] at MX ⊢
                  clear hX hB L5 R5 B5
                  obtain ⟨ad, hA, x0, x1, -, -, -, -⟩ := at_T30 (Kd.R_reads' LX.out).2.2 J hj2 hj3
                  subst hA
                  rw [HA.out] at x0
                  rw [HA2.out] at x1
                  obtain ⟨y0, y1, y2, y3, y4, y5⟩ := six_cells MX.out
                  cases hbf : beforeB a.c a.r x.c x.r with
                  | false =>
                    have HBF := Lib.hid (show rank_Before.f a.c a.r x.c x.r = some false by unfold rank_Before.f; rw [hbf])
                    have HF := Lib.hid (show m = .error 12 by have := HE.out; rw [HS2.out, hbf] at this; exact this)
                    clear hbf
                    go_region_held3 (fun w' => w'.cell? (ad.add (J.toNat * 6)) = some (.int .i64 a.c) ∧ w'.cell? ⟨(ad.add (J.toNat * 6)).block, (ad.add (J.toNat * 6)).off + 1, none⟩ = some (.int .i64 a.r) ∧ w'.cell? ⟨B, 0, none⟩ = some (.int .i64 x.c) ∧ w'.cell? ⟨B, 1, none⟩ = some (.int .i64 x.r)) (go_keep) (first | (go_at_call 33; refine (rank_Before.calls a.c a.r x.c x.r false _ HBF.out).mono ?_; rintro e wb ⟨rfl, hb⟩; have HB2 := Lib.hid (show Below X.heap.size X wb from ⟨hb.os, hb.tape, hb.output, hb.size, hb.block⟩); have HC := Lib.hid (fun (p : Addr) (v : Value) (hp : X.cell? p = some v) => (HB2.out.cell (World.block_lt_of_cell? X _ hp)).trans hp); have u0 := HC.out _ _ x0; have u1 := HC.out _ _ x1; have u2 := HC.out _ _ y0; have u3 := HC.out _ _ y1; clear hb))
                    all_goals go_wp2
                    all_goals go_ret2
                    all_goals exact DecodeOf.err HF.out (BX.out.trans (HB2.out.mono BX.out.size))
                  | true =>
                    have HBF := Lib.hid (show rank_Before.f a.c a.r x.c x.r = some true by unfold rank_Before.f; rw [hbf])
                    have HF := Lib.hid (show movesR S nn.toNat [] (ns, ne) = movesR S k (acc ++ [x]) q2 by rw [HS2.out, hbf]; rfl)
                    clear hbf
                    go_region_held3 (fun w' => w'.cell? (ad.add (J.toNat * 6)) = some (.int .i64 a.c) ∧ w'.cell? ⟨(ad.add (J.toNat * 6)).block, (ad.add (J.toNat * 6)).off + 1, none⟩ = some (.int .i64 a.r) ∧ w'.cell? ⟨B, 0, none⟩ = some (.int .i64 x.c) ∧ w'.cell? ⟨B, 1, none⟩ = some (.int .i64 x.r)) (go_keep) (first | (go_at_call 33; refine (rank_Before.calls a.c a.r x.c x.r true _ HBF.out).mono ?_; rintro e wb ⟨rfl, hb⟩; have HB2 := Lib.hid (show Below X.heap.size X wb from ⟨hb.os, hb.tape, hb.output, hb.size, hb.block⟩); have HC := Lib.hid (fun (p : Addr) (v : Value) (hp : X.cell? p = some v) => (HB2.out.cell (World.block_lt_of_cell? X _ hp)).trans hp); have u0 := HC.out _ _ x0; have u1 := HC.out _ _ x1; have u2 := HC.out _ _ y0; have u3 := HC.out _ _ y1; have u4 := HC.out _ _ y2; have u5 := HC.out _ _ y3; have u6 := HC.out _ _ y4; have u7 := HC.out _ _ y5; clear hb))
                    all_goals clear x0 x1 y0 y1 y2 y3 y4 y5 u0 u1 hj1 hj2 hj3 HS2 HBF HC HA HA2
                    have HIL := Lib.hid (show (xs.length + 1) * 56 ≤ 140737488355328 by have := HI.out; omega)
                    have RB := Lib.hid (RX.out.below HB2.out)
                    have LB := Lib.hid (Kd.R_below LX.out HB2.out)
                    have BB := Lib.hid (BX.out.trans (HB2.out.mono BX.out.size))
                    have HGL := Lib.hid (show g < wb.heap.size ∧ H < wb.heap.size from ⟨RB.out.lt_g, RB.out.lt_h⟩)
                    have HAC := Lib.hid (show acc.length = i from HD.out.2.2.1)
                    have HLK := Lib.hid (show LikeL acc xs from HD.out.2.1)
                    clear LX RX BX MX HB2 HD HX c04 R4 B4 HN HNV HV I2
                    go_wp2_with (first | ((with_reducible refine gate_builtin (b := .append) (xs := #[.tmp 78, .tmp 80]) rfl ?_); at_builtin; (refine Kd.R_append k30 (w0 := w) w.heap.size rfl (.tmp 78) (.tmp 80) 22 30 _ 56 rfl Try.underlying22 info30 rfl (by decide) (by decide) (.slice (some ad) xs.length cc) xs (⟨⟨x.c, x.r⟩, x.p, x.ch, x.name, y⟩ : S30) [.int .i64 x.c, .int .i64 x.r, .int .i64 x.p, .int .i64 x.ch, .string x.name, .float .f64 y] (fun k => k ≠ g ∧ k ≠ H) (fun _ => False) rfl rfl ?aP (fun _ hk => hk.elim) ?aF ?aO ?aB ?aS ?aL ?_; (case aP => exact k30_mkM _ _ _ _); (case aF => exact (fun k hk => by have h1 := HGL.out; omega)); (case aO => exact LB.out); (case aB => exact BB.out); (case aS => exact BB.out.size); (case aL => exact HIL.out); intro v116 w6 ho hb hg hat)))
                    have HN := Lib.hid (DecAt.next (v1 := v116) HLK.out HAC.out hk HF.out (⟨rfl, rfl, rfl, rfl, rfl, HY.out⟩ : LikeM x ⟨⟨x.c, x.r⟩, x.p, x.ch, x.name, y⟩) RB.out LB.out ho hb hg)
                    clear ho hb hg hat
                    go_wp2
                    go_roundw
                    case rel => exact ⟨i + 1, _, _, _, _, by rw [HI.out.1]; go_num, by have := HI.out.1; omega, HN.out⟩
                    case measure => simp [intOf]; omega
              · rw [hx] at hstep
                have HF := Lib.hid (show m = .error er by have := HE.out; rw [hstep] at this; exact this)
                have HX := Lib.hid hx
                clear hx hstep
                go_wp2_with (go_at_call 32; refine (rows_move.calls H g S s e w _ hS HD.out.2.2.2.2.1 HD.out.2.2.2.2.2).mono ?_; rintro e5 w5 h; rw [HX.out] at h; obtain ⟨h0, h1, h2, h3⟩ := h; replace h0 : e5 = .returned (.tuple #[.agg #[.int .i64 0, .int .i64 0, .int .i64 0, .int .i64 0, .string ⟨#[]⟩, .float .f64 0], .int .i64 er]) := h0; subst h0; have B5 := Lib.hid h2; clear h1 h2 h3)
                go_ret2
                exact DecodeOf.err HF.out (below_alloc B5.out _)
            · have hend : movesR S nn.toNat [] (ns, ne) = .ok (acc, (s, e)) := by
                rw [HD.out.1, show nn.toNat - i = 0 by omega]; rfl
              have hm5 := HE.out
              rw [hend] at hm5
              replace hm5 : m = if doneR s e ≠ 0 then .error (doneR s e) else .ok acc := hm5
              have HM5 := Lib.hid hm5
              clear hend hm5
              have c0r := HD.out.2.2.2.2.1.c0
              obtain ⟨dn, hdn⟩ : ∃ d, d = doneR s e := ⟨_, rfl⟩
              have HDN := Lib.hid hdn.symm
              clear hdn
              by_cases c6 : dn = 0
              · have HF := Lib.hid (show m = .ok acc by have := HM5.out; rw [if_neg (by rw [HDN.out]; simpa using c6)] at this; exact this)
                go_wp2_with (go_at_call 34; refine (pack_Done.calls g s e w _ HD.out.2.2.2.2.1.2.2.2 HD.out.2.2.2.2.2).mono ?_; rintro e5 w5 ⟨rfl, h1, h2, h3⟩; rw [HDN.out]; have RF := Lib.hid (And.intro h2 h3); clear h1 h2 h3)
                obtain ⟨hq1, hq2⟩ := RF.out
                have RX := Lib.hid (Kd.R_mono (Kd.R_keep HD.out.2.2.2.1 hq2 (fun _ hk => hk.1)) (fun _ _ => trivial))
                go_ret2
                exact DecodeOf.ok HF.out HD.out.2.1 RX.out RF.out.1
              · have HF := Lib.hid (show m = .error dn by have := HM5.out; rw [if_pos (by rw [HDN.out]; exact c6), HDN.out] at this; exact this)
                go_wp2_with (go_at_call 34; refine (pack_Done.calls g s e w _ HD.out.2.2.2.2.1.2.2.2 HD.out.2.2.2.2.2).mono ?_; rintro e5 w5 ⟨rfl, h1, h2, h3⟩; rw [HDN.out]; have RF := Lib.hid (And.intro h2 h3); clear h1 h2 h3)
                go_ret2
                exact DecodeOf.err HF.out RF.out.1
      · have HE := Lib.hid (show m = .error ne by have := HMM.out; rw [if_pos c3] at this; exact this)
        go_wp2_with (go_at_call 31; refine (pack_Reader_Err.calls g ns ne _ _ _ w _ R3.out.2.2.2 B3.out (err_f ns ne)).mono ?_; rintro e w4 ⟨rfl, h1, h2, h3⟩; have R4 := Lib.hid (R3.out.keep h1 h3); have B4 := Lib.hid h2; have c04 := R4.out.c0; clear h1 h2 h3)
        go_ret2
        exact DecodeOf.err HE.out B4.out
    · have HE := Lib.hid (show m = .error 8 by rw [HM.out]; unfold decodeR; rw [if_neg (by simpa using c1), if_pos c2])
      go_wp2_with (go_at_call 17; refine (chunk_Version.calls S _ _ _ HV.out).mono ?_; rintro e w1 ⟨rfl, hb⟩; have B1 := Lib.hid hb.below; clear hb)
      go_ret2
      exact DecodeOf.err HE.out B1.out
  · have HE := Lib.hid (show m = .error ve by rw [HM.out]; unfold decodeR; rw [if_pos c1])
    go_wp2_with (go_at_call 17; refine (chunk_Version.calls S _ _ _ HV.out).mono ?_; rintro e w1 ⟨rfl, hb⟩; have B1 := Lib.hid hb.below; clear hb)
    go_ret2
    exact DecodeOf.err HE.out B1.out
end Go.Proofs.Ytfcndhajcikgiaa.B
namespace Go.Proofs.Ytfcndhajcikgiaa.B
open Go.RowKit Go.Proofs.Sp Go.Proofs.Fl Go.Proofs.YtfcndhajcikgiaaW.PrintWords Go.Proofs.YtfcndhajcikgiaaW.PrintLast Go.Proofs.YtfcndhajcikgiaaW.PrintMore
theorem bt_nv (s : ByteArray) (i : Nat) (h : i < s.size) : bt s (i : Int) = (s[i].toNat : Int) := by
  unfold bt; rw [dif_pos (by simpa using h)]; rfl
def magicL : List UInt8 := [66, 78, 83, 73]
/-- The version of a file; an error. -/
def verS (S : ByteArray) : Int × Int := if S.data.toList.take 4 = magicL then (if S.size < 5 then (0, 2) else (bt S 4, 0)) else (0, 7)
theorem list_beq (a b : List UInt8) : (a == b) = decide (a = b) := by rw [Bool.eq_iff_iff]; simp
theorem ba_toList (s : ByteArray) : s.toList = s.data.toList := Lib.toList_data s
theorem ver_prog (S : ByteArray) : chunk_Version.f S = some (verS S) := by
  unfold chunk_Version.f strings_CutPrefix.f stringslite_CutPrefix.f stringslite_HasPrefix.f verS
  have hr := bt_range S 4
  have hlen := len_size S
  have hz : ((⟨#[66, 78, 83, 73]⟩ : ByteArray).size : Int) = 4 := rfl
  rw [hz]
  by_cases h4 : (S.size : Int) < 4
  · have hn : ¬ S.data.toList.take 4 = magicL := by
      intro hc
      have := congrArg List.length hc
      rw [List.length_take, hlen] at this
      simp [magicL] at this; omega
    rw [if_neg (by omega), if_neg hn]
    rfl
  · have e : (S.extract 0 (4 : Int).toNat).toList = S.data.toList.take 4 := by rw [ba_toList, extract_list, List.drop_zero]; rfl
    rw [if_pos (by omega), if_pos (by decide), if_pos (by omega), e]
    have em : (⟨#[66, 78, 83, 73]⟩ : ByteArray).toList = magicL := by rw [ba_toList]; rfl
    rw [em]
    simp only [Option.bind_some]
    by_cases hm : S.data.toList.take 4 = magicL
    · rw [if_pos hm, if_pos (by rw [hm]; rfl)]
      rw [if_pos (by decide), if_pos (by omega)]
      simp only [Option.bind_some, if_true]
      have e2 : (S.extract (4 : Int).toNat S.size).toList = S.data.toList.drop 4 := by rw [ba_toList, extract_list]; exact List.take_of_length_le (by rw [List.length_drop, hlen]; exact Nat.le_refl _)
      have e3 : (S.extract (4 : Int).toNat S.size).size = S.size - 4 := by rw [ByteArray.size_extract]; show min S.size S.size - 4 = _; omega
      rw [e2, e3]
      by_cases h5 : S.size < 5
      · rw [if_pos h5, if_pos (List.drop_eq_nil_of_le (by omega))]
      · rw [if_neg h5, if_neg (fun hc => by have := congrArg List.length hc; rw [List.length_drop, hlen] at this; simp at this; omega), if_pos (by omega)]
        have hb : bt (S.extract (4 : Int).toNat S.size) 0 = bt S 4 := by
          have h1 := bt_nv (S.extract (4 : Int).toNat S.size) 0 (by omega)
          have h2 := bt_nv S 4 (by omega)
          rw [show ((0 : Nat) : Int) = 0 from rfl] at h1
          rw [show ((4 : Nat) : Int) = 4 from rfl] at h2
          rw [h1, h2]
          congr 2
          exact ByteArray.getElem_extract (h := by rw [ByteArray.size_extract]; show 0 < min S.size S.size - 4; omega)
        rw [hb, show wrap64 (bt S 4) = bt S 4 by unfold wrap64; omega]
    · rw [if_neg hm, if_neg]
      · rfl
      · intro hc; exact hm (by simpa using hc)
theorem verS_one {S : ByteArray} (h : verS S = (1, 0)) : 5 ≤ S.size ∧ S.data.toList.take 5 = headL := by
  unfold verS at h
  split at h
  · rename_i hm
    split at h
    · simp at h
    · rename_i h5
      simp only [Prod.mk.injEq, and_true] at h
      refine ⟨by omega, ?_⟩
      have hl := len_size S
      have h4 : 4 < S.data.toList.length := by omega
      rw [List.take_succ_eq_append_getElem h4, hm]
      have h2 := bt_nv S 4 (by omega)
      rw [show ((4 : Nat) : Int) = 4 from rfl, h] at h2
      have h3 : (S.data.toList[4]'h4) = 1 := by
        have h5 : (S.data.toList[4]'h4) = S[4]'(by omega) := rfl
        rw [h5]; apply UInt8.toNat_inj.1; show _ = 1; omega
      rw [h3]; rfl
  · simp at h
theorem one_verS {S : ByteArray} (h : S.data.toList.take 5 = headL) : verS S = (1, 0) ∧ 5 ≤ S.size := by
  have hl := len_size S
  have h5 : 5 ≤ S.size := by have := congrArg List.length h; rw [List.length_take, hl] at this; simp [headL] at this; omega
  have h4 : 4 < S.data.toList.length := by omega
  have hm : S.data.toList.take 4 = magicL := by
    have := congrArg (List.take 4) h
    rw [List.take_take] at this; exact this
  refine ⟨?_, h5⟩
  unfold verS
  rw [if_pos hm, if_neg (by omega)]
  have h2 := bt_nv S 4 (by omega)
  rw [show ((4 : Nat) : Int) = 4 from rfl] at h2
  have h3 : (S.data.toList[4]'h4) = 1 := by
    rw [List.take_succ_eq_append_getElem h4, hm] at h
    have hc : [S.data.toList[4]'h4] = [1] := List.append_cancel_left h
    injection hc
  have h6 : S[4]'(by omega) = 1 := h3
  rw [h2, h6]; rfl
def decodeX (S : ByteArray) : Except Int (List MoveS) := decodeR S (verS S).1 (verS S).2
theorem decodeX_fwd {S : ByteArray} {ms : List MoveS} {r : List UInt8} (hS : S.size ≤ 140737488355328) (hm : MayS ms) (h : S.data.toList = headL ++ (bodyS ms ++ r)) : decodeX S = if r = [] then .ok ms else .error 5 := by
  obtain ⟨hv, h5⟩ := one_verS (S := S) (by rw [h]; rfl)
  unfold decodeX
  rw [hv]
  exact decodeR_fwd hS h5 hm (by rw [h]; rfl)
theorem decodeX_bwd {S : ByteArray} {ms : List MoveS} (hS : S.size ≤ 140737488355328) (h : decodeX S = .ok ms) : MayS ms ∧ S.data.toList = headL ++ bodyS ms := by
  unfold decodeX at h
  have hv : verS S = (1, 0) := by
    unfold decodeR at h
    split at h
    · cases h
    · rename_i c1
      split at h
      · cases h
      · rename_i c2
        have e1 : (verS S).2 = 0 := Classical.byContradiction fun hc => c1 hc
        have e2 : (verS S).1 = 1 := Classical.byContradiction fun hc => c2 hc
        exact Prod.ext e2 e1
  obtain ⟨h5, ht⟩ := verS_one hv
  rw [hv] at h
  obtain ⟨h1, h2⟩ := decodeR_bwd hS h5 h
  exact ⟨h1, by rw [← h2, ← ht, List.take_append_drop]⟩
theorem movesR_err : ∀ (S : ByteArray) (k : Nat) (acc : List MoveS) (q : ByteArray × Int) (er : Int), movesR S k acc q = .error er → er ≠ 0
  | S, 0, acc, q, er, h => by cases h
  | S, k + 1, acc, q, er, h => by
    rw [movesR] at h
    rcases moveR_cases S q with ⟨x, q2, hx⟩ | ⟨e, q2, he, hx⟩
    · rw [hx] at h
      dsimp only at h
      cases hl : acc.getLast? with
      | none => rw [hl] at h; exact movesR_err _ _ _ _ _ h
      | some y =>
        rw [hl] at h
        dsimp only at h
        split at h
        · exact movesR_err _ _ _ _ _ h
        · cases h; decide
    · rw [hx] at h
      cases h; exact he
theorem decodeX_err {S : ByteArray} {er : Int} (h : decodeX S = .error er) : er ≠ 0 := by
  unfold decodeX decodeR at h
  split at h
  · rename_i c; cases h; exact c
  · split at h
    · cases h; decide
    · dsimp only at h
      split at h
      · rename_i c; cases h; exact c
      · split at h
        · cases h; decide
        · split at h
          · rename_i e he; cases h; exact movesR_err _ _ _ _ _ he
          · split at h
            · rename_i c; cases h; exact c
            · cases h
/-- The moves of a file, none where it is none. -/
def decM (S : ByteArray) : List MoveS := match decodeX S with | .ok ms => ms | .error _ => []
def decE (S : ByteArray) : Int := match decodeX S with | .ok _ => 0 | .error e => e
def DecPost (S : ByteArray) (w : World) (e : Ending) (w' : World) : Prop :=
  ∃ A c xs, e = .returned (.tuple #[.slice A xs.length c, .int .i64 (decE S)]) ∧ Kd.C k30 w' A xs.length xs ∧ xs.length ≤ c ∧ xs.map toS = decM S ∧ Ranks xs ∧ Below w.heap.size w w'
theorem DecPost.of {S : ByteArray} {w w' : World} {e : Ending} (hS : S.size ≤ 140737488355328) (h : DecodeOf w (decodeX S) e w') : DecPost S w e w' := by
  obtain ⟨h, hb⟩ := h
  unfold DecPost decM decE
  cases hd : decodeX S with
  | error er =>
    rw [hd] at h
    obtain ⟨A, c, h1, h2, h3⟩ := Kd.R_reads (Kd.R_nil k30 30 w' w'.heap.size (fun _ => True))
    injection h1 with h4 h5 h6
    subst h4 h6
    exact ⟨none, 0, [], h, h3, Nat.le_refl _, rfl, (fun _ hx => by cases hx), hb⟩
  | ok ms =>
    rw [hd] at h
    obtain ⟨v, xs, rfl, hr, hl⟩ := h
    obtain ⟨A, c, rfl, h2, h3⟩ := Kd.R_reads hr
    obtain ⟨hm, -⟩ := decodeX_bwd hS hd
    obtain ⟨l1, l2⟩ := like_toS hl (fun m hmm => ⟨(hm.2.2 m hmm).2.1, (hm.2.2 m hmm).2.2⟩)
    exact ⟨A, c, xs, rfl, h3, h2, l1, l2, hb⟩
theorem verS_five {S : ByteArray} (h1 : (verS S).2 = 0) (h2 : (verS S).1 = 1) : 5 ≤ S.size := (verS_one (Prod.ext h2 h1)).1
theorem rows_Decode.file (S : ByteArray) (w : World) (hS : S.size ≤ 140737488355328) : Calls Try.prog 13 #[.string S] w (DecPost S w) :=
  (rows_Decode.calls S (verS S).1 (verS S).2 w (by omega) (ver_prog S) verS_five).mono fun _ _ h => DecPost.of hS h
end Go.Proofs.Ytfcndhajcikgiaa.B
namespace Go.Proofs.Ytfcndhajcikgiaa.B
open Go.RowKit Go.Proofs.YtfcndhajcikgiaaW.PrintWords Go.Proofs.YtfcndhajcikgiaaW.PrintLast Go.Proofs.YtfcndhajcikgiaaW.PrintMore
def bonsairef04_in.f (a0 : ByteArray) (a1 : Int) (a2 : Int) (a3 : Int) : Option (Bool) := if a1 < (a0.size : Int) then (if 0 ≤ a1 then (if (wrap64 (bt a0 a1)) ≥ a2 then (some (decide ((wrap64 (bt a0 a1)) ≤ a3))) else (some false)) else (none)) else (some false)
set_option maxHeartbeats 8000000 in
set_option maxRecDepth 100000 in
theorem bonsairef04_in.calls (a0 : ByteArray) (a1 : Int) (a2 : Int) (a3 : Int) (r : Bool) (w : World) (h : bonsairef04_in.f a0 a1 a2 a3 = some r) :
    Calls Try.prog 95 #[.string a0, .int .i64 a1, .int .i64 a2, .int .i64 a3] w fun e w' => e = .returned (.bool r) ∧ Drawn0 w w' := by
  have H : (if a1 < (a0.size : Int) then (if 0 ≤ a1 then (if (wrap64 (bt a0 a1)) ≥ a2 then (some (decide ((wrap64 (bt a0 a1)) ≤ a3))) else (some false)) else (none)) else (some false)) = some r := h
  clear h
  by_cases c5 : a1 < (a0.size : Int)
  · rw [if_pos c5] at H
    have c5b0 : decide (a1 < (a0.size : Int)) = true := decide_eq_true c5
    clear c5
    by_cases c6 : 0 ≤ a1
    · rw [if_pos c6] at H
      have c6b0 : decide (0 ≤ a1) = true := decide_eq_true c6
      clear c6
      by_cases c8 : (wrap64 (bt a0 a1)) ≥ a2
      · rw [if_pos c8] at H
        have c8b0 : decide (a2 ≤ (wrap64 (bt a0 a1))) = true := decide_eq_true c8
        clear c8
        obtain rfl := Option.some.inj H
        have p7 : 0 ≤ (a1 : Int) := of_decide_eq_true (by first | (with_reducible assumption) | assumption)
        have q7 : a1 < (a0.size : Int) := of_decide_eq_true (by first | (with_reducible assumption) | assumption)
        have hx7 := bt_at a0 a1
        replace p7 := eq_true p7
        replace q7 := eq_true q7
        have p9 : 0 ≤ (a1 : Int) := of_decide_eq_true (by first | (with_reducible assumption) | assumption)
        have q9 : a1 < (a0.size : Int) := of_decide_eq_true (by first | (with_reducible assumption) | assumption)
        have hx9 := bt_at a0 a1
        replace p9 := eq_true p9
        replace q9 := eq_true q9
        go_enter Try.func95, Try.ntmps95
        go_wp2
        go_ret
        exact ⟨by first | rfl | (simp; done) | (simp [*]; done), by repeat (first | exact Drawn0.refl _ | apply Drawn0.step)⟩
      · rw [if_neg c8] at H
        have c8b0 : decide (a2 ≤ (wrap64 (bt a0 a1))) = false := decide_eq_false c8
        clear c8
        obtain rfl := Option.some.inj H
        have p7 : 0 ≤ (a1 : Int) := of_decide_eq_true (by first | (with_reducible assumption) | assumption)
        have q7 : a1 < (a0.size : Int) := of_decide_eq_true (by first | (with_reducible assumption) | assumption)
        have hx7 := bt_at a0 a1
        replace p7 := eq_true p7
        replace q7 := eq_true q7
        go_enter Try.func95, Try.ntmps95
        go_wp2
        go_ret
        exact ⟨by first | rfl | (simp; done) | (simp [*]; done), by repeat (first | exact Drawn0.refl _ | apply Drawn0.step)⟩
    · rw [if_neg c6] at H
      exact absurd H (by simp)
  · rw [if_neg c5] at H
    have c5b0 : decide (a1 < (a0.size : Int)) = false := decide_eq_false c5
    clear c5
    obtain rfl := Option.some.inj H
    go_enter Try.func95, Try.ntmps95
    go_wp2
    go_ret
    exact ⟨by first | rfl | (simp; done) | (simp [*]; done), by repeat (first | exact Drawn0.refl _ | apply Drawn0.step)⟩
end Go.Proofs.Ytfcndhajcikgiaa.B
