/- RowsReads: for every input the law returns true, and the input reads behind the call as it read before. (Part 3 of 10.) -/
import Derived.Test.YtfcndhajcikgiaaKReads2
set_option linter.unusedVariables false
set_option linter.unusedSimpArgs false
namespace Go.Proofs.Ytfcndhajcikgiaa.B
open Go.RowKit Go.Proofs.YtfcndhajcikgiaaW.PrintWords Go.Proofs.YtfcndhajcikgiaaW.PrintLast Go.Proofs.YtfcndhajcikgiaaW.PrintMore
mutual
def word_Take.j0 : Nat → ByteArray → Int → Int → Bool → Option (ByteArray × Int × Int)
  | 0, _, _, _, _ => none
  | k + 1, x0, x1, x2, x19 => if x19 = true then (some ((⟨#[]⟩ : ByteArray), 0, 1)) else (if 0 ≤ x1 then (if x1 ≤ (x0.size : Int) then ((pack_New.f (x0.extract (x1 : Int).toNat x0.size)).bind fun bt228 => ((pack_Reader_Num.f bt228.1 bt228.2).bind fun bt231 => ((pack_Reader_Err.f bt231.2.1 bt231.2.2).bind fun bt234 => (if bt234.1 = 0 then (if x2 < 0 then (word_Take.j1 k x0 bt231.1 true bt234.2.1 bt234.2.2) else (word_Take.j1 k x0 bt231.1 (decide (bt231.1 > (IntKind.u64.wrap (x2)))) bt234.2.1 bt234.2.2)) else ((pack_Reader_Err.f bt234.2.1 bt234.2.2).bind fun bt240 => (some ((⟨#[]⟩ : ByteArray), 0, bt240.1))))))) else (none)) else (none))
def word_Take.j1 : Nat → ByteArray → Int → Bool → ByteArray → Int → Option (ByteArray × Int × Int)
  | 0, _, _, _, _, _ => none
  | k + 1, x0, x10, x32, x231000, x231001 => if x32 = true then (some ((⟨#[]⟩ : ByteArray), 0, 10)) else ((pack_Reader_Left.f x231000 x231001).bind fun bt237 => (if x10 > (IntKind.u64.wrap (bt237.1)) then (some ((⟨#[]⟩ : ByteArray), 0, 2)) else ((pack_Reader_Take.f bt237.2.1 bt237.2.2 (wrap64 (x10))).bind fun bt243 => ((word_Valid.f bt243.1).bind fun t246 => (if t246 = true then ((pack_Reader_Left.f bt243.2.1 bt243.2.2).bind fun bt247 => (some (bt243.1, wrap64 ((x0.size : Int) - bt247.1), 0))) else (some ((⟨#[]⟩ : ByteArray), 0, 4)))))))
end
def word_Take.f (k : Nat) (a0 : ByteArray) (a1 : Int) (a2 : Int) : Option (ByteArray × Int × Int) := if a1 < 0 then (word_Take.j0 k a0 a1 a2 true) else (word_Take.j0 k a0 a1 a2 (decide (a1 > (a0.size : Int))))
theorem word_Take.mono_l : ∀ k, (∀ y0 y1 y2 y3, LeO (word_Take.j0 k y0 y1 y2 y3) (word_Take.j0 (k + 1) y0 y1 y2 y3)) ∧ (∀ y0 y1 y2 y3 y4, LeO (word_Take.j1 k y0 y1 y2 y3 y4) (word_Take.j1 (k + 1) y0 y1 y2 y3 y4))
  | 0 => ⟨fun _ _ _ _ r h => by simp [word_Take.j0] at h, fun _ _ _ _ _ r h => by simp [word_Take.j1] at h⟩
  | k + 1 => by
    obtain ⟨ih0, ih1⟩ := word_Take.mono_l k
    refine ⟨?_, ?_⟩
    · intro y0 y1 y2 y3
      unfold word_Take.j0
      repeat' first
      | (with_reducible exact ih0 _ _ _ _)
      | (with_reducible exact ih1 _ _ _ _ _)
      | (with_reducible exact LeO.refl _)
      | (with_reducible exact LeO.none _)
      | (with_reducible refine LeO.ite ?_ ?_)
      | (with_reducible refine LeO.bind ?_ (fun _ => ?_))
      | exact ih0 _ _ _ _
      | exact ih1 _ _ _ _ _
      | exact LeO.none _
      | refine LeO.ite ?_ ?_
      | refine LeO.bind ?_ (fun _ => ?_)
    · intro y0 y1 y2 y3 y4
      unfold word_Take.j1
      repeat' first
      | (with_reducible exact ih0 _ _ _ _)
      | (with_reducible exact ih1 _ _ _ _ _)
      | (with_reducible exact LeO.refl _)
      | (with_reducible exact LeO.none _)
      | (with_reducible refine LeO.ite ?_ ?_)
      | (with_reducible refine LeO.bind ?_ (fun _ => ?_))
      | exact ih0 _ _ _ _
      | exact ih1 _ _ _ _ _
      | exact LeO.none _
      | refine LeO.ite ?_ ?_
      | refine LeO.bind ?_ (fun _ => ?_)
theorem word_Take.mono : ∀ a0 a1 a2 k, LeO (word_Take.f k a0 a1 a2) (word_Take.f (k + 1) a0 a1 a2) := by
  intro a0 a1 a2 k
  obtain ⟨ih0, ih1⟩ := word_Take.mono_l k
  unfold word_Take.f
  repeat' first
      | (with_reducible exact ih0 _ _ _ _)
      | (with_reducible exact ih1 _ _ _ _ _)
      | (with_reducible exact LeO.refl _)
      | (with_reducible exact LeO.none _)
      | (with_reducible refine LeO.ite ?_ ?_)
      | (with_reducible refine LeO.bind ?_ (fun _ => ?_))
      | exact ih0 _ _ _ _
      | exact ih1 _ _ _ _ _
      | exact LeO.none _
      | refine LeO.ite ?_ ?_
      | refine LeO.bind ?_ (fun _ => ?_)
set_option maxHeartbeats 8000000 in
set_option maxRecDepth 100000 in
theorem word_Take.calls (k : Nat) (a0 : ByteArray) (a1 : Int) (a2 : Int) (r1 : ByteArray) (r2 : Int) (r3 : Int) (w : World) (h : word_Take.f k a0 a1 a2 = some (r1, r2, r3)) :
    Calls Try.prog 60 #[.string a0, .int .i64 a1, .int .i64 a2] w fun e w' => e = .returned (.tuple #[.string r1, .int .i64 r2, .int .i64 r3]) ∧ Below w.heap.size w w' := by
  have HB := Aside0.mk (Below.refl w.heap.size w)
  have H : (if a1 < 0 then (word_Take.j0 k a0 a1 a2 true) else (word_Take.j0 k a0 a1 a2 (decide (a1 > (a0.size : Int))))) = some (r1, r2, r3) := h
  clear h
  have HC4 := Aside0.mk H
  clear H
  go_enter Try.func60, Try.ntmps60
  go_upto_region 1 with (fail)
  go_cut [19] (fun v19 wc => ∃ (kq : Nat) (x19_3 : Bool), v19 = .bool x19_3 ∧ Aside0 (word_Take.j0 kq a0 a1 a2 x19_3 = some (r1, r2, r3)) ∧ Aside0 (kq ≤ k) ∧ Aside0 (Below w.heap.size w wc))
  case first =>
    have H := HC4.out
    clear HC4
    by_cases c5 : a1 < 0
    · rw [if_pos c5] at H
      have c5b0 : decide (a1 < 0) = true := decide_eq_true c5
      clear c5
      (first | rw [c5b0] | (simp only [i64_w, i32_w]; rw [c5b0]) | skip)
      have H' := Aside0.mk H
      clear H
      go_wp2
      go_meet
      case rel => exact ⟨_, (true), (by first | rfl | (simp; done) | (simp [*]; done)), H', ⟨by first | omega | exact Nat.le_refl _⟩, ⟨by repeat (first | (with_reducible first | exact HB.out | apply below_alloc | apply pw_below_drewN | apply below_drew1) | exact HB.out)⟩⟩
    · rw [if_neg c5] at H
      have c5b0 : decide (a1 < 0) = false := decide_eq_false c5
      clear c5
      (first | rw [c5b0] | (simp only [i64_w, i32_w]; rw [c5b0]) | skip)
      have H' := Aside0.mk H
      clear H
      go_wp2
      go_meet
      case rel => exact ⟨_, (decide (a1 > (a0.size : Int))), (by first | rfl | (simp; done) | (simp [*]; done)), H', ⟨by first | omega | exact Nat.le_refl _⟩, ⟨by repeat (first | (with_reducible first | exact HB.out | apply below_alloc | apply pw_below_drewN | apply below_drew1) | exact HB.out)⟩⟩
  case rest =>
    clear HC4
    try clear p2
    try clear c5
    try clear c5b0
    obtain ⟨kq, x19_3, rfl, HA, HJ3, HB⟩ := hcut
    cases kq with
    | zero => exact absurd HA.out (by simp [word_Take.j0])
    | succ kj3 =>
      have H := HA.out
      clear HA
      simp only [word_Take.j0] at H
      by_cases c6 : x19_3 = true
      · subst c6
        have H1 : (some ((⟨#[]⟩ : ByteArray), 0, 1)) = some (r1, r2, r3) := by rw [if_pos rfl] at H; exact H
        clear H
        have H := H1
        clear H1
        simp only [Option.some.injEq, Prod.mk.injEq] at H
        obtain ⟨rfl, rfl, rfl⟩ := H
        go_wp2
        go_ret3
        exact ⟨by first | rfl | (simp [errW_none, errW_some] <;> rfl) | (simp [*, errW_none, errW_some] <;> rfl), by repeat (first | (with_reducible first | exact HB.out | apply below_alloc | apply pw_below_drewN | apply below_drew1) | exact HB.out)⟩
      · replace c6 := Bool.eq_false_iff.mpr c6
        subst c6
        have H1 : (if 0 ≤ a1 then (if a1 ≤ (a0.size : Int) then ((pack_New.f (a0.extract (a1 : Int).toNat a0.size)).bind fun bt228 => ((pack_Reader_Num.f bt228.1 bt228.2).bind fun bt231 => ((pack_Reader_Err.f bt231.2.1 bt231.2.2).bind fun bt234 => (if bt234.1 = 0 then (if a2 < 0 then (word_Take.j1 kj3 a0 bt231.1 true bt234.2.1 bt234.2.2) else (word_Take.j1 kj3 a0 bt231.1 (decide (bt231.1 > (IntKind.u64.wrap (a2)))) bt234.2.1 bt234.2.2)) else ((pack_Reader_Err.f bt234.2.1 bt234.2.2).bind fun bt240 => (some ((⟨#[]⟩ : ByteArray), 0, bt240.1))))))) else (none)) else (none)) = some (r1, r2, r3) := by rw [if_neg (show ¬ (false = true) by decide)] at H; exact H
        clear H
        have H := H1
        clear H1
        by_cases c7 : 0 ≤ a1
        · rw [if_pos c7] at H
          have c7b0 := eq_true c7
          have c7b1 : decide (0 ≤ a1) = true := decide_eq_true c7
          clear c7
          by_cases c8 : a1 ≤ (a0.size : Int)
          · rw [if_pos c8] at H
            have c8b0 := eq_true c8
            have c8b1 : decide (a1 ≤ (a0.size : Int)) = true := decide_eq_true c8
            clear c8
            replace H := Option.bind_eq_some_iff.mp H
            obtain ⟨⟨t228, t229⟩, A90, H⟩ := H
            replace H : ((pack_Reader_Num.f t228 t229).bind fun bt231 => ((pack_Reader_Err.f bt231.2.1 bt231.2.2).bind fun bt234 => (if bt234.1 = 0 then (if a2 < 0 then (word_Take.j1 kj3 a0 bt231.1 true bt234.2.1 bt234.2.2) else (word_Take.j1 kj3 a0 bt231.1 (decide (bt231.1 > (IntKind.u64.wrap (a2)))) bt234.2.1 bt234.2.2)) else ((pack_Reader_Err.f bt234.2.1 bt234.2.2).bind fun bt240 => (some ((⟨#[]⟩ : ByteArray), 0, bt240.1)))))) = some (r1, r2, r3) := H
            have A9 := Aside0.mk A90
            clear A90
            replace H := Option.bind_eq_some_iff.mp H
            obtain ⟨⟨t231, t232, t233⟩, A100, H⟩ := H
            replace H : ((pack_Reader_Err.f t232 t233).bind fun bt234 => (if bt234.1 = 0 then (if a2 < 0 then (word_Take.j1 kj3 a0 t231 true bt234.2.1 bt234.2.2) else (word_Take.j1 kj3 a0 t231 (decide (t231 > (IntKind.u64.wrap (a2)))) bt234.2.1 bt234.2.2)) else ((pack_Reader_Err.f bt234.2.1 bt234.2.2).bind fun bt240 => (some ((⟨#[]⟩ : ByteArray), 0, bt240.1))))) = some (r1, r2, r3) := H
            have A10 := Aside0.mk A100
            clear A100
            replace H := Option.bind_eq_some_iff.mp H
            obtain ⟨⟨t234, t235, t236⟩, A110, H⟩ := H
            replace H : (if t234 = 0 then (if a2 < 0 then (word_Take.j1 kj3 a0 t231 true t235 t236) else (word_Take.j1 kj3 a0 t231 (decide (t231 > (IntKind.u64.wrap (a2)))) t235 t236)) else ((pack_Reader_Err.f t235 t236).bind fun bt240 => (some ((⟨#[]⟩ : ByteArray), 0, bt240.1)))) = some (r1, r2, r3) := H
            have A11 := Aside0.mk A110
            clear A110
            by_cases c12 : t234 = 0
            · rw [if_pos c12] at H
              have c12b0 : (t234 == 0) = true := beq_iff_eq.mpr c12
              have c12b1 : (t234 != 0) = false := bne_eq_false_iff_eq.mpr c12
              clear c12
              have HC13 := Aside0.mk H
              clear H
              go_upto_region 7 with (first | ((with_reducible refine gate_callee (f := 29) rfl ?_); refine goesL_ (some 23) rfl rfl Try.func29 (by kernel_rfl) rfl #[.string (a0.extract (a1 : Int).toNat a0.size)] rfl (by (try simp only [List.map_toArray, List.map_cons, List.map_nil]); first | done | rfl | (simp only [List.length_drop, List.length_take]; rfl)) ?_; (with_reducible refine (pack_New.calls (a0.extract (a1 : Int).toNat a0.size) t228 t229 w _ ?side1 A9.out).mono ?_); (case side1 => repeat (first | (with_reducible first | exact HB.out | apply below_alloc | apply pw_below_drewN | apply below_drew1) | exact HB.out)); rintro e w14 ⟨g230, rfl, hi, hb, hb2⟩; refine ⟨_, rfl, ?_⟩; have n0_ := Aside0.mk (hb); have n1_ := Aside0.mk (hi); clear HB; have HB := n0_; have HI230 := n1_; clear n0_ n1_; (try clear hb); (try clear hb2); (try clear hk); (try clear hi)) | ((with_reducible refine gate_callee (f := 30) rfl ?_); refine goesL_ (some 25) rfl rfl Try.func30 (by kernel_rfl) rfl #[.pointer (some ⟨g230, 0, none⟩)] rfl (by (try simp only [List.map_toArray, List.map_cons, List.map_nil]); first | done | rfl | (simp only [List.length_drop, List.length_take]; rfl)) ?_; (with_reducible refine (pack_Reader_Num.calls g230 t228 t229 t231 t232 t233 w _ ?side1 ?side2 A10.out).mono ?_); (case side1 => repeat (first | (with_reducible first | exact HI230.out | apply IsS85.alloc | apply IsS85.drewN | apply IsS85.drew | apply IsS85.set_0 | apply IsS85.set_1) | exact HI230.out)); (case side2 => repeat (first | (with_reducible first | exact HB.out | apply below_alloc | apply pw_below_drewN | apply below_drew1 | refine below_set ?_ (IsS85.ge HI230.out)) | exact HB.out)); rintro e w15 ⟨rfl, hi, hb, hk⟩; refine ⟨_, rfl, ?_⟩; have n0_ := Aside0.mk (hb); have n1_ := Aside0.mk (hi); clear HB; clear HI230; have HB := n0_; have HI230 := n1_; clear n0_ n1_; (try clear hb); (try clear hb2); (try clear hk); (try clear hi)) | ((with_reducible refine gate_callee (f := 31) rfl ?_); refine goesL_ (some 28) rfl rfl Try.func31 (by kernel_rfl) rfl #[.pointer (some ⟨g230, 0, none⟩)] rfl (by (try simp only [List.map_toArray, List.map_cons, List.map_nil]); first | done | rfl | (simp only [List.length_drop, List.length_take]; rfl)) ?_; (with_reducible refine (pack_Reader_Err.calls g230 t232 t233 t234 t235 t236 w _ ?side1 ?side2 A11.out).mono ?_); (case side1 => repeat (first | (with_reducible first | exact HI230.out | apply IsS85.alloc | apply IsS85.drewN | apply IsS85.drew | apply IsS85.set_0 | apply IsS85.set_1) | exact HI230.out)); (case side2 => repeat (first | (with_reducible first | exact HB.out | apply below_alloc | apply pw_below_drewN | apply below_drew1 | refine below_set ?_ (IsS85.ge HI230.out)) | exact HB.out)); rintro e w16 ⟨rfl, hi, hb, hk⟩; refine ⟨_, rfl, ?_⟩; have n0_ := Aside0.mk (hb); have n1_ := Aside0.mk (hi); clear HB; clear HI230; have HB := n0_; have HI230 := n1_; clear n0_ n1_; (try clear hb); (try clear hb2); (try clear hk); (try clear hi)))
              (try simp only [Act.put, List.setIfInBounds_toArray, List.set_cons_zero, List.set_cons_succ])
              go_cut [32] (fun v32 wc => ∃ (kq : Nat) (x32_12 : Bool), v32 = .bool x32_12 ∧ Aside0 (word_Take.j1 kq a0 t231 x32_12 t235 t236 = some (r1, r2, r3)) ∧ Aside0 (kq ≤ kj3) ∧ Aside0 (IsS85 w wc g230 t235 t236) ∧ Aside0 (Below w.heap.size w wc))
              case first =>
                have H := HC13.out
                clear HC13
                by_cases c17 : a2 < 0
                · rw [if_pos c17] at H
                  have c17b0 : decide (a2 < 0) = true := decide_eq_true c17
                  clear c17
                  (first | rw [c17b0] | (simp only [i64_w, i32_w]; rw [c17b0]) | skip)
                  have H' := Aside0.mk H
                  clear H
                  go_wp2
                  go_meet
                  case rel => exact ⟨_, (true), (by first | rfl | (simp; done) | (simp [*]; done)), H', ⟨by have := HJ3.out; first | omega | exact Nat.le_refl _⟩, ⟨by repeat (first | (with_reducible first | exact HI230.out | apply IsS85.alloc | apply IsS85.drewN | apply IsS85.drew | apply IsS85.set_0 | apply IsS85.set_1) | exact HI230.out)⟩, ⟨by repeat (first | (with_reducible first | exact HB.out | apply below_alloc | apply pw_below_drewN | apply below_drew1 | refine below_set ?_ (IsS85.ge HI230.out)) | exact HB.out)⟩⟩
                · rw [if_neg c17] at H
                  have c17b0 : decide (a2 < 0) = false := decide_eq_false c17
                  clear c17
                  (first | rw [c17b0] | (simp only [i64_w, i32_w]; rw [c17b0]) | skip)
                  have H' := Aside0.mk H
                  clear H
                  go_wp2
                  go_meet
                  case rel => exact ⟨_, (decide (t231 > (IntKind.u64.wrap (a2)))), (by first | rfl | (simp; done) | (simp [*]; done)), H', ⟨by have := HJ3.out; first | omega | exact Nat.le_refl _⟩, ⟨by repeat (first | (with_reducible first | exact HI230.out | apply IsS85.alloc | apply IsS85.drewN | apply IsS85.drew | apply IsS85.set_0 | apply IsS85.set_1) | exact HI230.out)⟩, ⟨by repeat (first | (with_reducible first | exact HB.out | apply below_alloc | apply pw_below_drewN | apply below_drew1 | refine below_set ?_ (IsS85.ge HI230.out)) | exact HB.out)⟩⟩
              case rest =>
                clear HC13
                try clear c1
                try clear c2
                try clear p2
                try clear c3
                try clear c5
                try clear c5b0
                try clear c6
                try clear c7
                try clear c7b0
                try clear c7b1
                try clear c8
                try clear c8b0
                try clear c8b1
                try clear c12
                try clear c12b0
                try clear c12b1
                try clear c17
                try clear c17b0
                try clear p2
                obtain ⟨kq, x32_12, rfl, HA, HJ12, HI230, HB⟩ := hcut
                cases kq with
                | zero => exact absurd HA.out (by simp [word_Take.j1])
                | succ kj12 =>
                  have H := HA.out
                  clear HA
                  simp only [word_Take.j1] at H
                  by_cases c18 : x32_12 = true
                  · subst c18
                    have H1 : (some ((⟨#[]⟩ : ByteArray), 0, 10)) = some (r1, r2, r3) := by rw [if_pos rfl] at H; exact H
                    clear H
                    have H := H1
                    clear H1
                    simp only [Option.some.injEq, Prod.mk.injEq] at H
                    obtain ⟨rfl, rfl, rfl⟩ := H
                    go_wp2
                    go_ret3
                    exact ⟨by first | rfl | (simp [errW_none, errW_some] <;> rfl) | (simp [*, errW_none, errW_some] <;> rfl), by repeat (first | (with_reducible first | exact HB.out | apply below_alloc | apply pw_below_drewN | apply below_drew1 | refine below_set ?_ (IsS85.ge HI230.out)) | exact HB.out)⟩
                  · replace c18 := Bool.eq_false_iff.mpr c18
                    subst c18
                    have H1 : ((pack_Reader_Left.f t235 t236).bind fun bt237 => (if t231 > (IntKind.u64.wrap (bt237.1)) then (some ((⟨#[]⟩ : ByteArray), 0, 2)) else ((pack_Reader_Take.f bt237.2.1 bt237.2.2 (wrap64 (t231))).bind fun bt243 => ((word_Valid.f bt243.1).bind fun t246 => (if t246 = true then ((pack_Reader_Left.f bt243.2.1 bt243.2.2).bind fun bt247 => (some (bt243.1, wrap64 ((a0.size : Int) - bt247.1), 0))) else (some ((⟨#[]⟩ : ByteArray), 0, 4))))))) = some (r1, r2, r3) := by rw [if_neg (show ¬ (false = true) by decide)] at H; exact H
                    clear H
                    have H := H1
                    clear H1
                    replace H := Option.bind_eq_some_iff.mp H
                    obtain ⟨⟨t237, t238, t239⟩, A190, H⟩ := H
                    replace H : (if t231 > (IntKind.u64.wrap (t237)) then (some ((⟨#[]⟩ : ByteArray), 0, 2)) else ((pack_Reader_Take.f t238 t239 (wrap64 (t231))).bind fun bt243 => ((word_Valid.f bt243.1).bind fun t246 => (if t246 = true then ((pack_Reader_Left.f bt243.2.1 bt243.2.2).bind fun bt247 => (some (bt243.1, wrap64 ((a0.size : Int) - bt247.1), 0))) else (some ((⟨#[]⟩ : ByteArray), 0, 4)))))) = some (r1, r2, r3) := H
                    have A19 := Aside0.mk A190
                    clear A190
                    by_cases c20 : t231 > (IntKind.u64.wrap (t237))
                    · rw [if_pos c20] at H
                      have c20b0 : decide ((IntKind.u64.wrap (t237)) < t231) = true := decide_eq_true c20
                      clear c20
                      simp only [Option.some.injEq, Prod.mk.injEq] at H
                      obtain ⟨rfl, rfl, rfl⟩ := H
                      go_wp2_with (first | ((with_reducible refine gate_callee (f := 69) rfl ?_); refine goesL_ (some 44) rfl rfl Try.func69 (by kernel_rfl) rfl #[.pointer (some ⟨g230, 0, none⟩)] rfl (by (try simp only [List.map_toArray, List.map_cons, List.map_nil]); first | done | rfl | (simp only [List.length_drop, List.length_take]; rfl)) ?_; (with_reducible refine (pack_Reader_Left.calls g230 t235 t236 t237 t238 t239 w _ ?side1 ?side2 A19.out).mono ?_); (case side1 => repeat (first | (with_reducible first | exact HI230.out | apply IsS85.alloc | apply IsS85.drewN | apply IsS85.drew | apply IsS85.set_0 | apply IsS85.set_1) | exact HI230.out)); (case side2 => repeat (first | (with_reducible first | exact HB.out | apply below_alloc | apply pw_below_drewN | apply below_drew1 | refine below_set ?_ (IsS85.ge HI230.out)) | exact HB.out)); rintro e w21 ⟨rfl, hi, hb, hk⟩; refine ⟨_, rfl, ?_⟩; have n0_ := Aside0.mk (hb); have n1_ := Aside0.mk (hi); clear HB; clear HI230; have HB := n0_; have HI230 := n1_; clear n0_ n1_; (try clear hb); (try clear hb2); (try clear hk); (try clear hi)))
                      go_ret3
                      exact ⟨by first | rfl | (simp [errW_none, errW_some] <;> rfl) | (simp [*, errW_none, errW_some] <;> rfl), by repeat (first | (with_reducible first | exact HB.out | apply below_alloc | apply pw_below_drewN | apply below_drew1 | refine below_set ?_ (IsS85.ge HI230.out)) | exact HB.out)⟩
                    · rw [if_neg c20] at H
                      have c20b0 : decide ((IntKind.u64.wrap (t237)) < t231) = false := decide_eq_false c20
                      clear c20
                      replace H := Option.bind_eq_some_iff.mp H
                      obtain ⟨⟨t243, t244, t245⟩, A220, H⟩ := H
                      replace H : ((word_Valid.f t243).bind fun t246 => (if t246 = true then ((pack_Reader_Left.f t244 t245).bind fun bt247 => (some (t243, wrap64 ((a0.size : Int) - bt247.1), 0))) else (some ((⟨#[]⟩ : ByteArray), 0, 4)))) = some (r1, r2, r3) := H
                      have A22 := Aside0.mk A220
                      clear A220
                      replace H := Option.bind_eq_some_iff.mp H
                      obtain ⟨t246, A230, H⟩ := H
                      replace H : (if t246 = true then ((pack_Reader_Left.f t244 t245).bind fun bt247 => (some (t243, wrap64 ((a0.size : Int) - bt247.1), 0))) else (some ((⟨#[]⟩ : ByteArray), 0, 4))) = some (r1, r2, r3) := H
                      have A23 := Aside0.mk A230
                      clear A230
                      by_cases c24 : t246 = true
                      · subst c24
                        have H1 : ((pack_Reader_Left.f t244 t245).bind fun bt247 => (some (t243, wrap64 ((a0.size : Int) - bt247.1), 0))) = some (r1, r2, r3) := by rw [if_pos rfl] at H; exact H
                        clear H
                        have H := H1
                        clear H1
                        replace H := Option.bind_eq_some_iff.mp H
                        obtain ⟨⟨t247, t248, t249⟩, A250, H⟩ := H
                        replace H : (some (t243, wrap64 ((a0.size : Int) - t247), 0)) = some (r1, r2, r3) := H
                        have A25 := Aside0.mk A250
                        clear A250
                        simp only [Option.some.injEq, Prod.mk.injEq] at H
                        obtain ⟨rfl, rfl, rfl⟩ := H
                        go_wp2_with (first | ((with_reducible refine gate_callee (f := 69) rfl ?_); refine goesL_ (some 44) rfl rfl Try.func69 (by kernel_rfl) rfl #[.pointer (some ⟨g230, 0, none⟩)] rfl (by (try simp only [List.map_toArray, List.map_cons, List.map_nil]); first | done | rfl | (simp only [List.length_drop, List.length_take]; rfl)) ?_; (with_reducible refine (pack_Reader_Left.calls g230 t235 t236 t237 t238 t239 w _ ?side1 ?side2 A19.out).mono ?_); (case side1 => repeat (first | (with_reducible first | exact HI230.out | apply IsS85.alloc | apply IsS85.drewN | apply IsS85.drew | apply IsS85.set_0 | apply IsS85.set_1) | exact HI230.out)); (case side2 => repeat (first | (with_reducible first | exact HB.out | apply below_alloc | apply pw_below_drewN | apply below_drew1 | refine below_set ?_ (IsS85.ge HI230.out)) | exact HB.out)); rintro e w26 ⟨rfl, hi, hb, hk⟩; refine ⟨_, rfl, ?_⟩; have n0_ := Aside0.mk (hb); have n1_ := Aside0.mk (hi); clear HB; clear HI230; have HB := n0_; have HI230 := n1_; clear n0_ n1_; (try clear hb); (try clear hb2); (try clear hk); (try clear hi)) | ((with_reducible refine gate_callee (f := 61) rfl ?_); refine goesL_ (some 50) rfl rfl Try.func61 (by kernel_rfl) rfl #[.pointer (some ⟨g230, 0, none⟩), .int .i64 (wrap64 (t231))] rfl (by (try simp only [List.map_toArray, List.map_cons, List.map_nil]); first | done | rfl | (simp only [List.length_drop, List.length_take]; rfl)) ?_; (with_reducible refine (pack_Reader_Take.calls g230 t238 t239 (wrap64 (t231)) t243 t244 t245 w _ ?side1 ?side2 A22.out).mono ?_); (case side1 => repeat (first | (with_reducible first | exact HI230.out | apply IsS85.alloc | apply IsS85.drewN | apply IsS85.drew | apply IsS85.set_0 | apply IsS85.set_1) | exact HI230.out)); (case side2 => repeat (first | (with_reducible first | exact HB.out | apply below_alloc | apply pw_below_drewN | apply below_drew1 | refine below_set ?_ (IsS85.ge HI230.out)) | exact HB.out)); rintro e w27 ⟨rfl, hi, hb, hk⟩; refine ⟨_, rfl, ?_⟩; have n0_ := Aside0.mk (hb); have n1_ := Aside0.mk (hi); clear HB; clear HI230; have HB := n0_; have HI230 := n1_; clear n0_ n1_; (try clear hb); (try clear hb2); (try clear hk); (try clear hi)) | ((with_reducible refine gate_callee (f := 83) rfl ?_); refine goesL_ (some 52) rfl rfl Try.func83 (by kernel_rfl) rfl #[.string t243] rfl (by (try simp only [List.map_toArray, List.map_cons, List.map_nil]); first | done | rfl | (simp only [List.length_drop, List.length_take]; rfl)) ?_; (with_reducible refine (word_Valid.calls t243 true _ A23.out).mono ?_); rintro e w28 ⟨rfl, hb⟩; refine ⟨_, rfl, ?_⟩; have n0_ := Aside0.mk (IsS85.below (by repeat (first | (with_reducible first | exact HI230.out | apply IsS85.alloc | apply IsS85.drewN | apply IsS85.drew | apply IsS85.set_0 | apply IsS85.set_1) | exact HI230.out)) hb); have n1_ := Aside0.mk (below_step (by repeat (first | (with_reducible first | exact HB.out | apply below_alloc | apply pw_below_drewN | apply below_drew1 | refine below_set ?_ (IsS85.ge HI230.out)) | exact HB.out)) hb); clear HI230; clear HB; have HI230 := n0_; have HB := n1_; clear n0_ n1_; (try clear hb); (try clear hb2); (try clear hk); (try clear hi)) | ((with_reducible refine gate_callee (f := 69) rfl ?_); refine goesL_ (some 58) rfl rfl Try.func69 (by kernel_rfl) rfl #[.pointer (some ⟨g230, 0, none⟩)] rfl (by (try simp only [List.map_toArray, List.map_cons, List.map_nil]); first | done | rfl | (simp only [List.length_drop, List.length_take]; rfl)) ?_; (with_reducible refine (pack_Reader_Left.calls g230 t244 t245 t247 t248 t249 w _ ?side1 ?side2 A25.out).mono ?_); (case side1 => repeat (first | (with_reducible first | exact HI230.out | apply IsS85.alloc | apply IsS85.drewN | apply IsS85.drew | apply IsS85.set_0 | apply IsS85.set_1) | exact HI230.out)); (case side2 => repeat (first | (with_reducible first | exact HB.out | apply below_alloc | apply pw_below_drewN | apply below_drew1 | refine below_set ?_ (IsS85.ge HI230.out)) | exact HB.out)); rintro e w29 ⟨rfl, hi, hb, hk⟩; refine ⟨_, rfl, ?_⟩; have n0_ := Aside0.mk (hb); have n1_ := Aside0.mk (hi); clear HB; clear HI230; have HB := n0_; have HI230 := n1_; clear n0_ n1_; (try clear hb); (try clear hb2); (try clear hk); (try clear hi)))
                        go_ret3
                        exact ⟨by first | rfl | (simp [errW_none, errW_some] <;> rfl) | (simp [*, errW_none, errW_some] <;> rfl), by repeat (first | (with_reducible first | exact HB.out | apply below_alloc | apply pw_below_drewN | apply below_drew1 | refine below_set ?_ (IsS85.ge HI230.out)) | exact HB.out)⟩
                      · replace c24 := Bool.eq_false_iff.mpr c24
                        subst c24
                        have H1 : (some ((⟨#[]⟩ : ByteArray), 0, 4)) = some (r1, r2, r3) := by rw [if_neg (show ¬ (false = true) by decide)] at H; exact H
                        clear H
                        have H := H1
                        clear H1
                        simp only [Option.some.injEq, Prod.mk.injEq] at H
                        obtain ⟨rfl, rfl, rfl⟩ := H
                        go_wp2_with (first | ((with_reducible refine gate_callee (f := 69) rfl ?_); refine goesL_ (some 44) rfl rfl Try.func69 (by kernel_rfl) rfl #[.pointer (some ⟨g230, 0, none⟩)] rfl (by (try simp only [List.map_toArray, List.map_cons, List.map_nil]); first | done | rfl | (simp only [List.length_drop, List.length_take]; rfl)) ?_; (with_reducible refine (pack_Reader_Left.calls g230 t235 t236 t237 t238 t239 w _ ?side1 ?side2 A19.out).mono ?_); (case side1 => repeat (first | (with_reducible first | exact HI230.out | apply IsS85.alloc | apply IsS85.drewN | apply IsS85.drew | apply IsS85.set_0 | apply IsS85.set_1) | exact HI230.out)); (case side2 => repeat (first | (with_reducible first | exact HB.out | apply below_alloc | apply pw_below_drewN | apply below_drew1 | refine below_set ?_ (IsS85.ge HI230.out)) | exact HB.out)); rintro e w30 ⟨rfl, hi, hb, hk⟩; refine ⟨_, rfl, ?_⟩; have n0_ := Aside0.mk (hb); have n1_ := Aside0.mk (hi); clear HB; clear HI230; have HB := n0_; have HI230 := n1_; clear n0_ n1_; (try clear hb); (try clear hb2); (try clear hk); (try clear hi)) | ((with_reducible refine gate_callee (f := 61) rfl ?_); refine goesL_ (some 50) rfl rfl Try.func61 (by kernel_rfl) rfl #[.pointer (some ⟨g230, 0, none⟩), .int .i64 (wrap64 (t231))] rfl (by (try simp only [List.map_toArray, List.map_cons, List.map_nil]); first | done | rfl | (simp only [List.length_drop, List.length_take]; rfl)) ?_; (with_reducible refine (pack_Reader_Take.calls g230 t238 t239 (wrap64 (t231)) t243 t244 t245 w _ ?side1 ?side2 A22.out).mono ?_); (case side1 => repeat (first | (with_reducible first | exact HI230.out | apply IsS85.alloc | apply IsS85.drewN | apply IsS85.drew | apply IsS85.set_0 | apply IsS85.set_1) | exact HI230.out)); (case side2 => repeat (first | (with_reducible first | exact HB.out | apply below_alloc | apply pw_below_drewN | apply below_drew1 | refine below_set ?_ (IsS85.ge HI230.out)) | exact HB.out)); rintro e w31 ⟨rfl, hi, hb, hk⟩; refine ⟨_, rfl, ?_⟩; have n0_ := Aside0.mk (hb); have n1_ := Aside0.mk (hi); clear HB; clear HI230; have HB := n0_; have HI230 := n1_; clear n0_ n1_; (try clear hb); (try clear hb2); (try clear hk); (try clear hi)) | ((with_reducible refine gate_callee (f := 83) rfl ?_); refine goesL_ (some 52) rfl rfl Try.func83 (by kernel_rfl) rfl #[.string t243] rfl (by (try simp only [List.map_toArray, List.map_cons, List.map_nil]); first | done | rfl | (simp only [List.length_drop, List.length_take]; rfl)) ?_; (with_reducible refine (word_Valid.calls t243 false _ A23.out).mono ?_); rintro e w32 ⟨rfl, hb⟩; refine ⟨_, rfl, ?_⟩; have n0_ := Aside0.mk (IsS85.below (by repeat (first | (with_reducible first | exact HI230.out | apply IsS85.alloc | apply IsS85.drewN | apply IsS85.drew | apply IsS85.set_0 | apply IsS85.set_1) | exact HI230.out)) hb); have n1_ := Aside0.mk (below_step (by repeat (first | (with_reducible first | exact HB.out | apply below_alloc | apply pw_below_drewN | apply below_drew1 | refine below_set ?_ (IsS85.ge HI230.out)) | exact HB.out)) hb); clear HI230; clear HB; have HI230 := n0_; have HB := n1_; clear n0_ n1_; (try clear hb); (try clear hb2); (try clear hk); (try clear hi)))
                        go_ret3
                        exact ⟨by first | rfl | (simp [errW_none, errW_some] <;> rfl) | (simp [*, errW_none, errW_some] <;> rfl), by repeat (first | (with_reducible first | exact HB.out | apply below_alloc | apply pw_below_drewN | apply below_drew1 | refine below_set ?_ (IsS85.ge HI230.out)) | exact HB.out)⟩
            · rw [if_neg c12] at H
              have c12b0 : (t234 == 0) = false := beq_eq_false_iff_ne.mpr c12
              have c12b1 : (t234 != 0) = true := bne_iff_ne.mpr c12
              replace H := Option.bind_eq_some_iff.mp H
              obtain ⟨⟨t240, t241, t242⟩, A330, H⟩ := H
              replace H : (some ((⟨#[]⟩ : ByteArray), 0, t240)) = some (r1, r2, r3) := H
              have A33 := Aside0.mk A330
              clear A330
              simp only [Option.some.injEq, Prod.mk.injEq] at H
              obtain ⟨rfl, rfl, rfl⟩ := H
              go_wp2_with (first | ((with_reducible refine gate_callee (f := 29) rfl ?_); refine goesL_ (some 23) rfl rfl Try.func29 (by kernel_rfl) rfl #[.string (a0.extract (a1 : Int).toNat a0.size)] rfl (by (try simp only [List.map_toArray, List.map_cons, List.map_nil]); first | done | rfl | (simp only [List.length_drop, List.length_take]; rfl)) ?_; (with_reducible refine (pack_New.calls (a0.extract (a1 : Int).toNat a0.size) t228 t229 w _ ?side1 A9.out).mono ?_); (case side1 => repeat (first | (with_reducible first | exact HB.out | apply below_alloc | apply pw_below_drewN | apply below_drew1) | exact HB.out)); rintro e w34 ⟨g230, rfl, hi, hb, hb2⟩; refine ⟨_, rfl, ?_⟩; have n0_ := Aside0.mk (hb); have n1_ := Aside0.mk (hi); clear HB; have HB := n0_; have HI230 := n1_; clear n0_ n1_; (try clear hb); (try clear hb2); (try clear hk); (try clear hi)) | ((with_reducible refine gate_callee (f := 30) rfl ?_); refine goesL_ (some 25) rfl rfl Try.func30 (by kernel_rfl) rfl #[.pointer (some ⟨g230, 0, none⟩)] rfl (by (try simp only [List.map_toArray, List.map_cons, List.map_nil]); first | done | rfl | (simp only [List.length_drop, List.length_take]; rfl)) ?_; (with_reducible refine (pack_Reader_Num.calls g230 t228 t229 t231 t232 t233 w _ ?side1 ?side2 A10.out).mono ?_); (case side1 => repeat (first | (with_reducible first | exact HI230.out | apply IsS85.alloc | apply IsS85.drewN | apply IsS85.drew | apply IsS85.set_0 | apply IsS85.set_1) | exact HI230.out)); (case side2 => repeat (first | (with_reducible first | exact HB.out | apply below_alloc | apply pw_below_drewN | apply below_drew1 | refine below_set ?_ (IsS85.ge HI230.out)) | exact HB.out)); rintro e w35 ⟨rfl, hi, hb, hk⟩; refine ⟨_, rfl, ?_⟩; have n0_ := Aside0.mk (hb); have n1_ := Aside0.mk (hi); clear HB; clear HI230; have HB := n0_; have HI230 := n1_; clear n0_ n1_; (try clear hb); (try clear hb2); (try clear hk); (try clear hi)) | ((with_reducible refine gate_callee (f := 31) rfl ?_); refine goesL_ (some 28) rfl rfl Try.func31 (by kernel_rfl) rfl #[.pointer (some ⟨g230, 0, none⟩)] rfl (by (try simp only [List.map_toArray, List.map_cons, List.map_nil]); first | done | rfl | (simp only [List.length_drop, List.length_take]; rfl)) ?_; (with_reducible refine (pack_Reader_Err.calls g230 t232 t233 t234 t235 t236 w _ ?side1 ?side2 A11.out).mono ?_); (case side1 => repeat (first | (with_reducible first | exact HI230.out | apply IsS85.alloc | apply IsS85.drewN | apply IsS85.drew | apply IsS85.set_0 | apply IsS85.set_1) | exact HI230.out)); (case side2 => repeat (first | (with_reducible first | exact HB.out | apply below_alloc | apply pw_below_drewN | apply below_drew1 | refine below_set ?_ (IsS85.ge HI230.out)) | exact HB.out)); rintro e w36 ⟨rfl, hi, hb, hk⟩; refine ⟨_, rfl, ?_⟩; have n0_ := Aside0.mk (hb); have n1_ := Aside0.mk (hi); clear HB; clear HI230; have HB := n0_; have HI230 := n1_; clear n0_ n1_; (try clear hb); (try clear hb2); (try clear hk); (try clear hi)) | ((with_reducible refine gate_callee (f := 31) rfl ?_); refine goesL_ (some 31) rfl rfl Try.func31 (by kernel_rfl) rfl #[.pointer (some ⟨g230, 0, none⟩)] rfl (by (try simp only [List.map_toArray, List.map_cons, List.map_nil]); first | done | rfl | (simp only [List.length_drop, List.length_take]; rfl)) ?_; (with_reducible refine (pack_Reader_Err.calls g230 t235 t236 t240 t241 t242 w _ ?side1 ?side2 A33.out).mono ?_); (case side1 => repeat (first | (with_reducible first | exact HI230.out | apply IsS85.alloc | apply IsS85.drewN | apply IsS85.drew | apply IsS85.set_0 | apply IsS85.set_1) | exact HI230.out)); (case side2 => repeat (first | (with_reducible first | exact HB.out | apply below_alloc | apply pw_below_drewN | apply below_drew1 | refine below_set ?_ (IsS85.ge HI230.out)) | exact HB.out)); rintro e w37 ⟨rfl, hi, hb, hk⟩; refine ⟨_, rfl, ?_⟩; have n0_ := Aside0.mk (hb); have n1_ := Aside0.mk (hi); clear HB; clear HI230; have HB := n0_; have HI230 := n1_; clear n0_ n1_; (try clear hb); (try clear hb2); (try clear hk); (try clear hi)))
              go_ret3
              exact ⟨by first | rfl | (simp [errW_none, errW_some] <;> rfl) | (simp [*, errW_none, errW_some] <;> rfl), by repeat (first | (with_reducible first | exact HB.out | apply below_alloc | apply pw_below_drewN | apply below_drew1 | refine below_set ?_ (IsS85.ge HI230.out)) | exact HB.out)⟩
          · rw [if_neg c8] at H
            exact absurd H (by simp)
        · rw [if_neg c7] at H
          exact absurd H (by simp)
end Go.Proofs.Ytfcndhajcikgiaa.B
namespace Go.Proofs.Ytfcndhajcikgiaa.B
open Go.RowKit Go.Proofs.YtfcndhajcikgiaaW.PrintWords Go.Proofs.YtfcndhajcikgiaaW.PrintLast Go.Proofs.YtfcndhajcikgiaaW.PrintMore
def bits_Canon.f (a0 : Int) : Option (Bool) := if (Go.bits .and .u64 (a0 / 4503599627370496) 2047) = 2047 then (if (Go.bits .and .u64 a0 4503599627370495) = 0 then (some true) else (some (a0 == 9221120237041090560))) else (some true)
set_option maxHeartbeats 8000000 in
set_option maxRecDepth 100000 in
theorem bits_Canon.calls (a0 : Int) (r : Bool) (w : World) (h : bits_Canon.f a0 = some r) :
    Calls Try.prog 64 #[.int .u64 a0] w fun e w' => e = .returned (.bool r) ∧ Drawn0 w w' := by
  have H : (if (Go.bits .and .u64 (a0 / 4503599627370496) 2047) = 2047 then (if (Go.bits .and .u64 a0 4503599627370495) = 0 then (some true) else (some (a0 == 9221120237041090560))) else (some true)) = some r := h
  clear h
  by_cases c2 : (Go.bits .and .u64 (a0 / 4503599627370496) 2047) = 2047
  · rw [if_pos c2] at H
    have c2b0 : ((Go.bits .and .u64 (a0 / 4503599627370496) 2047) == 2047) = true := beq_iff_eq.mpr c2
    have c2b1 : ((Go.bits .and .u64 (a0 / 4503599627370496) 2047) != 2047) = false := bne_eq_false_iff_eq.mpr c2
    clear c2
    by_cases c3 : (Go.bits .and .u64 a0 4503599627370495) = 0
    · rw [if_pos c3] at H
      have c3b0 : ((Go.bits .and .u64 a0 4503599627370495) == 0) = true := beq_iff_eq.mpr c3
      have c3b1 : ((Go.bits .and .u64 a0 4503599627370495) != 0) = false := bne_eq_false_iff_eq.mpr c3
      clear c3
      obtain rfl := Option.some.inj H
      go_enter Try.func64, Try.ntmps64
      go_wp2
      go_ret
      exact ⟨by first | rfl | (simp; done) | (simp [*]; done), by repeat (first | exact Drawn0.refl _ | apply Drawn0.step)⟩
    · rw [if_neg c3] at H
      have c3b0 : ((Go.bits .and .u64 a0 4503599627370495) == 0) = false := beq_eq_false_iff_ne.mpr c3
      have c3b1 : ((Go.bits .and .u64 a0 4503599627370495) != 0) = true := bne_iff_ne.mpr c3
      obtain rfl := Option.some.inj H
      go_enter Try.func64, Try.ntmps64
      go_wp2
      go_ret
      exact ⟨by first | rfl | (simp; done) | (simp [*]; done), by repeat (first | exact Drawn0.refl _ | apply Drawn0.step)⟩
  · rw [if_neg c2] at H
    have c2b0 : ((Go.bits .and .u64 (a0 / 4503599627370496) 2047) == 2047) = false := beq_eq_false_iff_ne.mpr c2
    have c2b1 : ((Go.bits .and .u64 (a0 / 4503599627370496) 2047) != 2047) = true := bne_iff_ne.mpr c2
    obtain rfl := Option.some.inj H
    go_enter Try.func64, Try.ntmps64
    go_wp2
    go_ret
    exact ⟨by first | rfl | (simp; done) | (simp [*]; done), by repeat (first | exact Drawn0.refl _ | apply Drawn0.step)⟩
end Go.Proofs.Ytfcndhajcikgiaa.B
namespace Go.Proofs.Ytfcndhajcikgiaa.B
open Go.RowKit Go.Proofs.YtfcndhajcikgiaaW.PrintWords Go.Proofs.YtfcndhajcikgiaaW.PrintLast Go.Proofs.YtfcndhajcikgiaaW.PrintMore
def tree_One.f (a0_0 : Int) (a0_1 : Int) (a0_2 : ByteArray) (a0_3 : Nat) : Option (Bool) := if a0_0 ≥ 1 then (if a0_0 ≤ 2147483647 then (if a0_1 ≥ 0 then (if a0_1 ≤ 2147483647 then (if (a0_2.size : Int) ≤ 64 then ((word_Valid.f a0_2).bind fun t218 => (some t218)) else (some false)) else (some false)) else (some false)) else (some false)) else (some false)
set_option maxHeartbeats 8000000 in
set_option maxRecDepth 100000 in
theorem tree_One.calls (a0_0 : Int) (a0_1 : Int) (a0_2 : ByteArray) (a0_3 : Nat) (r : Bool) (w : World) (h : tree_One.f a0_0 a0_1 a0_2 a0_3 = some r) :
    Calls Try.prog 80 #[.agg #[.int .i64 a0_0, .int .i64 a0_1, .string a0_2, .float .f64 a0_3]] w fun e w' => e = .returned (.bool r) ∧ Below w.heap.size w w' := by
  have hu96 := Try.underlying96
  have HB := Aside0.mk (Below.refl w.heap.size w)
  have H : (if a0_0 ≥ 1 then (if a0_0 ≤ 2147483647 then (if a0_1 ≥ 0 then (if a0_1 ≤ 2147483647 then (if (a0_2.size : Int) ≤ 64 then ((word_Valid.f a0_2).bind fun t218 => (some t218)) else (some false)) else (some false)) else (some false)) else (some false)) else (some false)) = some r := h
  clear h
  by_cases c2 : a0_0 ≥ 1
  · rw [if_pos c2] at H
    have c2b0 : decide (1 ≤ a0_0) = true := decide_eq_true c2
    clear c2
    by_cases c3 : a0_0 ≤ 2147483647
    · rw [if_pos c3] at H
      have c3b0 : decide (a0_0 ≤ 2147483647) = true := decide_eq_true c3
      clear c3
      by_cases c4 : a0_1 ≥ 0
      · rw [if_pos c4] at H
        have c4b0 : decide (0 ≤ a0_1) = true := decide_eq_true c4
        clear c4
        by_cases c5 : a0_1 ≤ 2147483647
        · rw [if_pos c5] at H
          have c5b0 : decide (a0_1 ≤ 2147483647) = true := decide_eq_true c5
          clear c5
          by_cases c6 : (a0_2.size : Int) ≤ 64
          · rw [if_pos c6] at H
            have c6b0 : decide ((a0_2.size : Int) ≤ 64) = true := decide_eq_true c6
            have c6b1 : decide (a0_2.size ≤ 64) = true := decide_eq_true (by omega)
            clear c6
            replace H := Option.bind_eq_some_iff.mp H
            obtain ⟨t218, A70, H⟩ := H
            replace H : (some t218) = some r := H
            have A7 := Aside0.mk A70
            clear A70
            obtain rfl := Option.some.inj H
            go_enter Try.func80, Try.ntmps80
            go_wp2_with (first | ((with_reducible refine gate_dst (N := 1) rfl ?_); (try (refine gate_guard (by rfl) ?_; dsimp only)); refine box_event ?hg (N := 1) ?hd (cs := #[.int .i64 a0_0, .int .i64 a0_1, .string a0_2, .float .f64 a0_3]) (t := 96) ?hr ?_; (case hd => rfl); (case hg => rfl); (case hr => first | (go_simp; done) | (go_simp; rfl)); intro gb217 hg w8 hbox hb; have n0_ := Aside0.mk (below_step (by repeat (first | (with_reducible first | exact HB.out | apply below_alloc | apply pw_below_drewN | apply below_drew1) | exact HB.out)) hb); have n1_ := Aside0.mk (hbox); have n2_ := Aside0.mk ((by rw [hg]; exact (below_size (by repeat (first | (with_reducible first | exact HB.out | apply below_alloc | apply pw_below_drewN | apply below_drew1) | exact HB.out))) : w.heap.size ≤ gb217)); have n3_ := Aside0.mk ((by rw [hg]; exact (below_size (by repeat (first | (with_reducible first | exact HB.out | apply below_alloc | apply pw_below_drewN | apply below_drew1) | exact HB.out))) : w.heap.size ≤ gb217)); clear HB; have HB := n0_; have BK217 := n1_; have GW217 := n2_; have GE217 := n3_; clear n0_ n1_ n2_ n3_; clear hb hbox hg; have hcz9_0 : w8.cell? ⟨gb217, 0, none⟩ = some (.int .i64 a0_0) := (blk_cell BK217.out 0).trans rfl; have hcz9_1 : w8.cell? ⟨gb217, 1, none⟩ = some (.int .i64 a0_1) := (blk_cell BK217.out 1).trans rfl; have hcz9_2 : w8.cell? ⟨gb217, 2, none⟩ = some (.string a0_2) := (blk_cell BK217.out 2).trans rfl; have hcz9_3 : w8.cell? ⟨gb217, 3, none⟩ = some (.float .f64 a0_3) := (blk_cell BK217.out 3).trans rfl; have hfz9_0 := blk_frozen BK217.out 0; have hfz9_1 := blk_frozen BK217.out 1; have hfz9_2 := blk_frozen BK217.out 2; have hfz9_3 := blk_frozen BK217.out 3) | (go_at_call 83; (with_reducible refine (word_Valid.calls a0_2 t218 _ A7.out).mono ?_); rintro e w10 ⟨rfl, hb⟩; have n0_ := Aside0.mk (blk_below (g := gb217) (o := .cells #[.int .i64 a0_0, .int .i64 a0_1, .string a0_2, .float .f64 a0_3] 96 (0, 0)) (by (with_reducible repeat (first | refine blk_drewN ?_ _ | refine blk_drew ?_ | refine blk_alloc ?_ _)); exact BK217.out) hb); have n1_ := Aside0.mk (below_step (by repeat (first | (with_reducible first | exact HB.out | apply below_alloc | apply pw_below_drewN | apply below_drew1 | refine below_set ?_ GE217.out) | exact HB.out)) hb); clear BK217; clear HB; have BK217 := n0_; have HB := n1_; clear n0_ n1_; (try clear hb); (try clear hb2); (try clear hk); (try clear hi)))
            go_ret
            exact ⟨by first | rfl | (simp [errW_none, errW_some] <;> rfl) | (simp [*, errW_none, errW_some] <;> rfl), by repeat (first | (with_reducible first | exact HB.out | apply below_alloc | apply pw_below_drewN | apply below_drew1 | refine below_set ?_ GE217.out) | exact HB.out)⟩
          · rw [if_neg c6] at H
            have c6b0 : decide ((a0_2.size : Int) ≤ 64) = false := decide_eq_false c6
            have c6b1 : decide (a0_2.size ≤ 64) = false := decide_eq_false (by omega)
            clear c6
            obtain rfl := Option.some.inj H
            go_enter Try.func80, Try.ntmps80
            go_wp2_with (first | ((with_reducible refine gate_dst (N := 1) rfl ?_); (try (refine gate_guard (by rfl) ?_; dsimp only)); refine box_event ?hg (N := 1) ?hd (cs := #[.int .i64 a0_0, .int .i64 a0_1, .string a0_2, .float .f64 a0_3]) (t := 96) ?hr ?_; (case hd => rfl); (case hg => rfl); (case hr => first | (go_simp; done) | (go_simp; rfl)); intro gb217 hg w11 hbox hb; have n0_ := Aside0.mk (below_step (by repeat (first | (with_reducible first | exact HB.out | apply below_alloc | apply pw_below_drewN | apply below_drew1) | exact HB.out)) hb); have n1_ := Aside0.mk (hbox); have n2_ := Aside0.mk ((by rw [hg]; exact (below_size (by repeat (first | (with_reducible first | exact HB.out | apply below_alloc | apply pw_below_drewN | apply below_drew1) | exact HB.out))) : w.heap.size ≤ gb217)); have n3_ := Aside0.mk ((by rw [hg]; exact (below_size (by repeat (first | (with_reducible first | exact HB.out | apply below_alloc | apply pw_below_drewN | apply below_drew1) | exact HB.out))) : w.heap.size ≤ gb217)); clear HB; have HB := n0_; have BK217 := n1_; have GW217 := n2_; have GE217 := n3_; clear n0_ n1_ n2_ n3_; clear hb hbox hg; have hcz12_0 : w11.cell? ⟨gb217, 0, none⟩ = some (.int .i64 a0_0) := (blk_cell BK217.out 0).trans rfl; have hcz12_1 : w11.cell? ⟨gb217, 1, none⟩ = some (.int .i64 a0_1) := (blk_cell BK217.out 1).trans rfl; have hcz12_2 : w11.cell? ⟨gb217, 2, none⟩ = some (.string a0_2) := (blk_cell BK217.out 2).trans rfl; have hcz12_3 : w11.cell? ⟨gb217, 3, none⟩ = some (.float .f64 a0_3) := (blk_cell BK217.out 3).trans rfl; have hfz12_0 := blk_frozen BK217.out 0; have hfz12_1 := blk_frozen BK217.out 1; have hfz12_2 := blk_frozen BK217.out 2; have hfz12_3 := blk_frozen BK217.out 3))
            go_ret
            exact ⟨by first | rfl | (simp [errW_none, errW_some] <;> rfl) | (simp [*, errW_none, errW_some] <;> rfl), by repeat (first | (with_reducible first | exact HB.out | apply below_alloc | apply pw_below_drewN | apply below_drew1 | refine below_set ?_ GE217.out) | exact HB.out)⟩
        · rw [if_neg c5] at H
          have c5b0 : decide (a0_1 ≤ 2147483647) = false := decide_eq_false c5
          clear c5
          obtain rfl := Option.some.inj H
          go_enter Try.func80, Try.ntmps80
          go_wp2_with (first | ((with_reducible refine gate_dst (N := 1) rfl ?_); (try (refine gate_guard (by rfl) ?_; dsimp only)); refine box_event ?hg (N := 1) ?hd (cs := #[.int .i64 a0_0, .int .i64 a0_1, .string a0_2, .float .f64 a0_3]) (t := 96) ?hr ?_; (case hd => rfl); (case hg => rfl); (case hr => first | (go_simp; done) | (go_simp; rfl)); intro gb217 hg w13 hbox hb; have n0_ := Aside0.mk (below_step (by repeat (first | (with_reducible first | exact HB.out | apply below_alloc | apply pw_below_drewN | apply below_drew1) | exact HB.out)) hb); have n1_ := Aside0.mk (hbox); have n2_ := Aside0.mk ((by rw [hg]; exact (below_size (by repeat (first | (with_reducible first | exact HB.out | apply below_alloc | apply pw_below_drewN | apply below_drew1) | exact HB.out))) : w.heap.size ≤ gb217)); have n3_ := Aside0.mk ((by rw [hg]; exact (below_size (by repeat (first | (with_reducible first | exact HB.out | apply below_alloc | apply pw_below_drewN | apply below_drew1) | exact HB.out))) : w.heap.size ≤ gb217)); clear HB; have HB := n0_; have BK217 := n1_; have GW217 := n2_; have GE217 := n3_; clear n0_ n1_ n2_ n3_; clear hb hbox hg; have hcz14_0 : w13.cell? ⟨gb217, 0, none⟩ = some (.int .i64 a0_0) := (blk_cell BK217.out 0).trans rfl; have hcz14_1 : w13.cell? ⟨gb217, 1, none⟩ = some (.int .i64 a0_1) := (blk_cell BK217.out 1).trans rfl; have hcz14_2 : w13.cell? ⟨gb217, 2, none⟩ = some (.string a0_2) := (blk_cell BK217.out 2).trans rfl; have hcz14_3 : w13.cell? ⟨gb217, 3, none⟩ = some (.float .f64 a0_3) := (blk_cell BK217.out 3).trans rfl; have hfz14_0 := blk_frozen BK217.out 0; have hfz14_1 := blk_frozen BK217.out 1; have hfz14_2 := blk_frozen BK217.out 2; have hfz14_3 := blk_frozen BK217.out 3))
          go_ret
          exact ⟨by first | rfl | (simp [errW_none, errW_some] <;> rfl) | (simp [*, errW_none, errW_some] <;> rfl), by repeat (first | (with_reducible first | exact HB.out | apply below_alloc | apply pw_below_drewN | apply below_drew1 | refine below_set ?_ GE217.out) | exact HB.out)⟩
      · rw [if_neg c4] at H
        have c4b0 : decide (0 ≤ a0_1) = false := decide_eq_false c4
        clear c4
        obtain rfl := Option.some.inj H
        go_enter Try.func80, Try.ntmps80
        go_wp2_with (first | ((with_reducible refine gate_dst (N := 1) rfl ?_); (try (refine gate_guard (by rfl) ?_; dsimp only)); refine box_event ?hg (N := 1) ?hd (cs := #[.int .i64 a0_0, .int .i64 a0_1, .string a0_2, .float .f64 a0_3]) (t := 96) ?hr ?_; (case hd => rfl); (case hg => rfl); (case hr => first | (go_simp; done) | (go_simp; rfl)); intro gb217 hg w15 hbox hb; have n0_ := Aside0.mk (below_step (by repeat (first | (with_reducible first | exact HB.out | apply below_alloc | apply pw_below_drewN | apply below_drew1) | exact HB.out)) hb); have n1_ := Aside0.mk (hbox); have n2_ := Aside0.mk ((by rw [hg]; exact (below_size (by repeat (first | (with_reducible first | exact HB.out | apply below_alloc | apply pw_below_drewN | apply below_drew1) | exact HB.out))) : w.heap.size ≤ gb217)); have n3_ := Aside0.mk ((by rw [hg]; exact (below_size (by repeat (first | (with_reducible first | exact HB.out | apply below_alloc | apply pw_below_drewN | apply below_drew1) | exact HB.out))) : w.heap.size ≤ gb217)); clear HB; have HB := n0_; have BK217 := n1_; have GW217 := n2_; have GE217 := n3_; clear n0_ n1_ n2_ n3_; clear hb hbox hg; have hcz16_0 : w15.cell? ⟨gb217, 0, none⟩ = some (.int .i64 a0_0) := (blk_cell BK217.out 0).trans rfl; have hcz16_1 : w15.cell? ⟨gb217, 1, none⟩ = some (.int .i64 a0_1) := (blk_cell BK217.out 1).trans rfl; have hcz16_2 : w15.cell? ⟨gb217, 2, none⟩ = some (.string a0_2) := (blk_cell BK217.out 2).trans rfl; have hcz16_3 : w15.cell? ⟨gb217, 3, none⟩ = some (.float .f64 a0_3) := (blk_cell BK217.out 3).trans rfl; have hfz16_0 := blk_frozen BK217.out 0; have hfz16_1 := blk_frozen BK217.out 1; have hfz16_2 := blk_frozen BK217.out 2; have hfz16_3 := blk_frozen BK217.out 3))
        go_ret
        exact ⟨by first | rfl | (simp [errW_none, errW_some] <;> rfl) | (simp [*, errW_none, errW_some] <;> rfl), by repeat (first | (with_reducible first | exact HB.out | apply below_alloc | apply pw_below_drewN | apply below_drew1 | refine below_set ?_ GE217.out) | exact HB.out)⟩
    · rw [if_neg c3] at H
      have c3b0 : decide (a0_0 ≤ 2147483647) = false := decide_eq_false c3
      clear c3
      obtain rfl := Option.some.inj H
      go_enter Try.func80, Try.ntmps80
      go_wp2_with (first | ((with_reducible refine gate_dst (N := 1) rfl ?_); (try (refine gate_guard (by rfl) ?_; dsimp only)); refine box_event ?hg (N := 1) ?hd (cs := #[.int .i64 a0_0, .int .i64 a0_1, .string a0_2, .float .f64 a0_3]) (t := 96) ?hr ?_; (case hd => rfl); (case hg => rfl); (case hr => first | (go_simp; done) | (go_simp; rfl)); intro gb217 hg w17 hbox hb; have n0_ := Aside0.mk (below_step (by repeat (first | (with_reducible first | exact HB.out | apply below_alloc | apply pw_below_drewN | apply below_drew1) | exact HB.out)) hb); have n1_ := Aside0.mk (hbox); have n2_ := Aside0.mk ((by rw [hg]; exact (below_size (by repeat (first | (with_reducible first | exact HB.out | apply below_alloc | apply pw_below_drewN | apply below_drew1) | exact HB.out))) : w.heap.size ≤ gb217)); have n3_ := Aside0.mk ((by rw [hg]; exact (below_size (by repeat (first | (with_reducible first | exact HB.out | apply below_alloc | apply pw_below_drewN | apply below_drew1) | exact HB.out))) : w.heap.size ≤ gb217)); clear HB; have HB := n0_; have BK217 := n1_; have GW217 := n2_; have GE217 := n3_; clear n0_ n1_ n2_ n3_; clear hb hbox hg; have hcz18_0 : w17.cell? ⟨gb217, 0, none⟩ = some (.int .i64 a0_0) := (blk_cell BK217.out 0).trans rfl; have hcz18_1 : w17.cell? ⟨gb217, 1, none⟩ = some (.int .i64 a0_1) := (blk_cell BK217.out 1).trans rfl; have hcz18_2 : w17.cell? ⟨gb217, 2, none⟩ = some (.string a0_2) := (blk_cell BK217.out 2).trans rfl; have hcz18_3 : w17.cell? ⟨gb217, 3, none⟩ = some (.float .f64 a0_3) := (blk_cell BK217.out 3).trans rfl; have hfz18_0 := blk_frozen BK217.out 0; have hfz18_1 := blk_frozen BK217.out 1; have hfz18_2 := blk_frozen BK217.out 2; have hfz18_3 := blk_frozen BK217.out 3))
      go_ret
      exact ⟨by first | rfl | (simp [errW_none, errW_some] <;> rfl) | (simp [*, errW_none, errW_some] <;> rfl), by repeat (first | (with_reducible first | exact HB.out | apply below_alloc | apply pw_below_drewN | apply below_drew1 | refine below_set ?_ GE217.out) | exact HB.out)⟩
  · rw [if_neg c2] at H
    have c2b0 : decide (1 ≤ a0_0) = false := decide_eq_false c2
    clear c2
    obtain rfl := Option.some.inj H
    go_enter Try.func80, Try.ntmps80
    go_wp2_with (first | ((with_reducible refine gate_dst (N := 1) rfl ?_); (try (refine gate_guard (by rfl) ?_; dsimp only)); refine box_event ?hg (N := 1) ?hd (cs := #[.int .i64 a0_0, .int .i64 a0_1, .string a0_2, .float .f64 a0_3]) (t := 96) ?hr ?_; (case hd => rfl); (case hg => rfl); (case hr => first | (go_simp; done) | (go_simp; rfl)); intro gb217 hg w19 hbox hb; have n0_ := Aside0.mk (below_step (by repeat (first | (with_reducible first | exact HB.out | apply below_alloc | apply pw_below_drewN | apply below_drew1) | exact HB.out)) hb); have n1_ := Aside0.mk (hbox); have n2_ := Aside0.mk ((by rw [hg]; exact (below_size (by repeat (first | (with_reducible first | exact HB.out | apply below_alloc | apply pw_below_drewN | apply below_drew1) | exact HB.out))) : w.heap.size ≤ gb217)); have n3_ := Aside0.mk ((by rw [hg]; exact (below_size (by repeat (first | (with_reducible first | exact HB.out | apply below_alloc | apply pw_below_drewN | apply below_drew1) | exact HB.out))) : w.heap.size ≤ gb217)); clear HB; have HB := n0_; have BK217 := n1_; have GW217 := n2_; have GE217 := n3_; clear n0_ n1_ n2_ n3_; clear hb hbox hg; have hcz20_0 : w19.cell? ⟨gb217, 0, none⟩ = some (.int .i64 a0_0) := (blk_cell BK217.out 0).trans rfl; have hcz20_1 : w19.cell? ⟨gb217, 1, none⟩ = some (.int .i64 a0_1) := (blk_cell BK217.out 1).trans rfl; have hcz20_2 : w19.cell? ⟨gb217, 2, none⟩ = some (.string a0_2) := (blk_cell BK217.out 2).trans rfl; have hcz20_3 : w19.cell? ⟨gb217, 3, none⟩ = some (.float .f64 a0_3) := (blk_cell BK217.out 3).trans rfl; have hfz20_0 := blk_frozen BK217.out 0; have hfz20_1 := blk_frozen BK217.out 1; have hfz20_2 := blk_frozen BK217.out 2; have hfz20_3 := blk_frozen BK217.out 3))
    go_ret
    exact ⟨by first | rfl | (simp [errW_none, errW_some] <;> rfl) | (simp [*, errW_none, errW_some] <;> rfl), by repeat (first | (with_reducible first | exact HB.out | apply below_alloc | apply pw_below_drewN | apply below_drew1 | refine below_set ?_ GE217.out) | exact HB.out)⟩
end Go.Proofs.Ytfcndhajcikgiaa.B
namespace Go.Proofs.Ytfcndhajcikgiaa.B
open Go.RowKit Go.Proofs.YtfcndhajcikgiaaW.PrintWords Go.Proofs.YtfcndhajcikgiaaW.PrintLast Go.Proofs.YtfcndhajcikgiaaW.PrintMore
def moves_Row.f (a0_0 : Int) (a0_1 : Int) (a0_2 : Int) (a0_3 : Int) (a0_4 : ByteArray) (a0_5 : Nat) : Option (Int × Int × ByteArray × Nat) := some (a0_3, a0_2, a0_4, a0_5)
set_option maxHeartbeats 8000000 in
set_option maxRecDepth 100000 in
theorem moves_Row.calls (a0_0 : Int) (a0_1 : Int) (a0_2 : Int) (a0_3 : Int) (a0_4 : ByteArray) (a0_5 : Nat) (r1 : Int) (r2 : Int) (r3 : ByteArray) (r4 : Nat) (w : World) (h : moves_Row.f a0_0 a0_1 a0_2 a0_3 a0_4 a0_5 = some (r1, r2, r3, r4)) :
    Calls Try.prog 81 #[.agg #[.int .i64 a0_0, .int .i64 a0_1, .int .i64 a0_2, .int .i64 a0_3, .string a0_4, .float .f64 a0_5]] w fun e w' => e = .returned (.agg #[.int .i64 r1, .int .i64 r2, .string r3, .float .f64 r4]) ∧ Below w.heap.size w w' := by
  have hu30 := Try.underlying30
  have hu96 := Try.underlying96
  have HB := Aside0.mk (Below.refl w.heap.size w)
  have H : (some (a0_3, a0_2, a0_4, a0_5)) = some (r1, r2, r3, r4) := h
  clear h
  simp only [Option.some.injEq, Prod.mk.injEq] at H
  obtain ⟨rfl, rfl, rfl, rfl⟩ := H
  go_enter Try.func81, Try.ntmps81
  go_wp2_with (first | ((with_reducible refine gate_dst (N := 1) rfl ?_); refine box_event ?hg (N := 1) ?hd (cs := #[.int .i64 a0_0, .int .i64 a0_1, .int .i64 a0_2, .int .i64 a0_3, .string a0_4, .float .f64 a0_5]) (t := 30) ?hr ?_; (case hd => rfl); (case hg => rfl); (case hr => first | (go_simp; done) | (go_simp; rfl)); intro gb219 hg w2 hbox hb; have n0_ := Aside0.mk (below_step (by repeat (first | (with_reducible first | exact HB.out | apply below_alloc | apply pw_below_drewN | apply below_drew1) | exact HB.out)) hb); have n1_ := Aside0.mk (hbox); have n2_ := Aside0.mk ((by rw [hg]; exact (below_size (by repeat (first | (with_reducible first | exact HB.out | apply below_alloc | apply pw_below_drewN | apply below_drew1) | exact HB.out))) : w.heap.size ≤ gb219)); have n3_ := Aside0.mk ((by rw [hg]; exact (below_size (by repeat (first | (with_reducible first | exact HB.out | apply below_alloc | apply pw_below_drewN | apply below_drew1) | exact HB.out))) : w.heap.size ≤ gb219)); clear HB; have HB := n0_; have BK219 := n1_; have GW219 := n2_; have GE219 := n3_; clear n0_ n1_ n2_ n3_; clear hb hbox hg) | ((with_reducible refine gate_dst (N := 2) rfl ?_); refine box_event ?hg (N := 2) ?hd (cs := #[.int .i64 0, .int .i64 0, .string (⟨#[]⟩ : ByteArray), .float .f64 (0 : Nat)]) (t := 96) ?hr ?_; (case hd => rfl); (case hg => rfl); (case hr => first | (go_simp; done) | (go_simp; rfl)); intro gb220 hg w3 hbox hb; have n0_ := Aside0.mk (blk_below (g := gb219) (o := .cells #[.int .i64 a0_0, .int .i64 a0_1, .int .i64 a0_2, .int .i64 a0_3, .string a0_4, .float .f64 a0_5] 30 (0, 0)) (by (with_reducible repeat (first | refine blk_drewN ?_ _ | refine blk_drew ?_ | refine blk_alloc ?_ _)); exact BK219.out) hb); have n1_ := Aside0.mk (below_step (by repeat (first | (with_reducible first | exact HB.out | apply below_alloc | apply pw_below_drewN | apply below_drew1 | refine below_set ?_ GE219.out) | exact HB.out)) hb); have n2_ := Aside0.mk (hbox); have n3_ := Aside0.mk ((by rw [hg]; exact (below_size (by repeat (first | (with_reducible first | exact HB.out | apply below_alloc | apply pw_below_drewN | apply below_drew1 | refine below_set ?_ GE219.out) | exact HB.out))) : w.heap.size ≤ gb220)); have n4_ := Aside0.mk ((by rw [hg]; exact (below_size (by repeat (first | (with_reducible first | exact HB.out | apply below_alloc | apply pw_below_drewN | apply below_drew1 | refine below_set ?_ GE219.out) | exact HB.out))) : w.heap.size ≤ gb220)); have n5_ := Aside0.mk ((by rw [hg]; exact Nat.ne_of_lt (blk_lt (g := gb219) (o := .cells #[.int .i64 a0_0, .int .i64 a0_1, .int .i64 a0_2, .int .i64 a0_3, .string a0_4, .float .f64 a0_5] 30 (0, 0)) (by (with_reducible repeat (first | refine blk_drewN ?_ _ | refine blk_drew ?_ | refine blk_alloc ?_ _)); exact BK219.out)) : gb219 ≠ gb220)); have n6_ := Aside0.mk ((by rw [hg]; exact Nat.ne_of_gt (blk_lt (g := gb219) (o := .cells #[.int .i64 a0_0, .int .i64 a0_1, .int .i64 a0_2, .int .i64 a0_3, .string a0_4, .float .f64 a0_5] 30 (0, 0)) (by (with_reducible repeat (first | refine blk_drewN ?_ _ | refine blk_drew ?_ | refine blk_alloc ?_ _)); exact BK219.out)) : gb220 ≠ gb219)); clear BK219; clear HB; have BK219 := n0_; have HB := n1_; have BK220 := n2_; have GW220 := n3_; have GE220 := n4_; have NB219_220 := n5_; have NB220_219 := n6_; clear n0_ n1_ n2_ n3_ n4_ n5_ n6_; clear hb hbox hg; have hnb4 := NB219_220.out; have hnc4 := NB220_219.out; have hcz5_0 : w3.cell? ⟨gb219, 0, none⟩ = some (.int .i64 a0_0) := (blk_cell BK219.out 0).trans rfl; have hcz5_1 : w3.cell? ⟨gb219, 1, none⟩ = some (.int .i64 a0_1) := (blk_cell BK219.out 1).trans rfl; have hcz5_2 : w3.cell? ⟨gb219, 2, none⟩ = some (.int .i64 a0_2) := (blk_cell BK219.out 2).trans rfl; have hcz5_3 : w3.cell? ⟨gb219, 3, none⟩ = some (.int .i64 a0_3) := (blk_cell BK219.out 3).trans rfl; have hcz5_4 : w3.cell? ⟨gb219, 4, none⟩ = some (.string a0_4) := (blk_cell BK219.out 4).trans rfl; have hcz5_5 : w3.cell? ⟨gb219, 5, none⟩ = some (.float .f64 a0_5) := (blk_cell BK219.out 5).trans rfl; have hfz5_0 := blk_frozen BK219.out 0; have hfz5_1 := blk_frozen BK219.out 1; have hfz5_2 := blk_frozen BK219.out 2; have hfz5_3 := blk_frozen BK219.out 3; have hfz5_4 := blk_frozen BK219.out 4; have hfz5_5 := blk_frozen BK219.out 5; have hcz6_0 : w3.cell? ⟨gb220, 0, none⟩ = some (.int .i64 0) := (blk_cell BK220.out 0).trans rfl; have hcz6_1 : w3.cell? ⟨gb220, 1, none⟩ = some (.int .i64 0) := (blk_cell BK220.out 1).trans rfl; have hcz6_2 : w3.cell? ⟨gb220, 2, none⟩ = some (.string (⟨#[]⟩ : ByteArray)) := (blk_cell BK220.out 2).trans rfl; have hcz6_3 : w3.cell? ⟨gb220, 3, none⟩ = some (.float .f64 (0 : Nat)) := (blk_cell BK220.out 3).trans rfl; have hfz6_0 := blk_frozen BK220.out 0; have hfz6_1 := blk_frozen BK220.out 1; have hfz6_2 := blk_frozen BK220.out 2; have hfz6_3 := blk_frozen BK220.out 3))
  refine bodyPost_ret (results_cell_row rfl _ _ gb220 96 #[.int .i64 a0_3, .int .i64 a0_2, .string a0_4, .float .f64 a0_5] (0, 0) _ rfl (by (with_reducible repeat (first | refine blk_drewN ?_ _ | refine blk_drew ?_ | refine blk_alloc ?_ _)); refine blk_put (cs := #[.int .i64 a0_3, .int .i64 a0_2, .string a0_4, .float .f64 (0 : Nat)]) ?_ 3 _ rfl; (with_reducible repeat (first | refine blk_drewN ?_ _ | refine blk_drew ?_ | refine blk_alloc ?_ _)); refine blk_put (cs := #[.int .i64 a0_3, .int .i64 a0_2, .string (⟨#[]⟩ : ByteArray), .float .f64 (0 : Nat)]) ?_ 2 _ rfl; (with_reducible repeat (first | refine blk_drewN ?_ _ | refine blk_drew ?_ | refine blk_alloc ?_ _)); refine blk_put (cs := #[.int .i64 a0_3, .int .i64 0, .string (⟨#[]⟩ : ByteArray), .float .f64 (0 : Nat)]) ?_ 1 _ rfl; (with_reducible repeat (first | refine blk_drewN ?_ _ | refine blk_drew ?_ | refine blk_alloc ?_ _)); refine blk_put (cs := #[.int .i64 0, .int .i64 0, .string (⟨#[]⟩ : ByteArray), .float .f64 (0 : Nat)]) ?_ 0 _ rfl; (with_reducible repeat (first | refine blk_drewN ?_ _ | refine blk_drew ?_ | refine blk_alloc ?_ _)); exact BK220.out) Try.underlying96 rfl (by kernel_rfl)) rfl ?_
  exact ⟨by first | rfl | (simp [errW_none, errW_some] <;> rfl) | (simp [*, errW_none, errW_some] <;> rfl), by repeat (first | (with_reducible first | exact HB.out | apply below_alloc | apply pw_below_drewN | apply below_drew1 | refine below_set ?_ GE219.out | refine below_set ?_ GE220.out) | exact HB.out)⟩
end Go.Proofs.Ytfcndhajcikgiaa.B
namespace Go.Proofs.Ytfcndhajcikgiaa.B
open Go.RowKit Go.Proofs.YtfcndhajcikgiaaW.PrintWords Go.Proofs.YtfcndhajcikgiaaW.PrintLast Go.Proofs.YtfcndhajcikgiaaW.PrintMore
def moves_One.f (a0_0 : Int) (a0_1 : Int) (a0_2 : Int) (a0_3 : Int) (a0_4 : ByteArray) (a0_5 : Nat) : Option (Bool) := if a0_0 ≥ 1 then (if a0_0 ≤ 4611686018427387903 then (if a0_1 ≥ 1 then (if a0_1 ≤ 255 then ((moves_Row.f a0_0 a0_1 a0_2 a0_3 a0_4 a0_5).bind fun bt223 => ((tree_One.f bt223.1 bt223.2.1 bt223.2.2.1 bt223.2.2.2).bind fun t227 => (some t227))) else (some false)) else (some false)) else (some false)) else (some false)
set_option maxHeartbeats 8000000 in
set_option maxRecDepth 100000 in
theorem moves_One.calls (a0_0 : Int) (a0_1 : Int) (a0_2 : Int) (a0_3 : Int) (a0_4 : ByteArray) (a0_5 : Nat) (r : Bool) (w : World) (h : moves_One.f a0_0 a0_1 a0_2 a0_3 a0_4 a0_5 = some r) :
    Calls Try.prog 54 #[.agg #[.int .i64 a0_0, .int .i64 a0_1, .int .i64 a0_2, .int .i64 a0_3, .string a0_4, .float .f64 a0_5]] w fun e w' => e = .returned (.bool r) ∧ Below w.heap.size w w' := by
  have hu30 := Try.underlying30
  have hu27 := Try.underlying27
  have HB := Aside0.mk (Below.refl w.heap.size w)
  have H : (if a0_0 ≥ 1 then (if a0_0 ≤ 4611686018427387903 then (if a0_1 ≥ 1 then (if a0_1 ≤ 255 then ((moves_Row.f a0_0 a0_1 a0_2 a0_3 a0_4 a0_5).bind fun bt223 => ((tree_One.f bt223.1 bt223.2.1 bt223.2.2.1 bt223.2.2.2).bind fun t227 => (some t227))) else (some false)) else (some false)) else (some false)) else (some false)) = some r := h
  clear h
  by_cases c2 : a0_0 ≥ 1
  · rw [if_pos c2] at H
    have c2b0 : decide (1 ≤ a0_0) = true := decide_eq_true c2
    clear c2
    by_cases c3 : a0_0 ≤ 4611686018427387903
    · rw [if_pos c3] at H
      have c3b0 : decide (a0_0 ≤ 4611686018427387903) = true := decide_eq_true c3
      clear c3
      by_cases c4 : a0_1 ≥ 1
      · rw [if_pos c4] at H
        have c4b0 : decide (1 ≤ a0_1) = true := decide_eq_true c4
        clear c4
        by_cases c5 : a0_1 ≤ 255
        · rw [if_pos c5] at H
          have c5b0 : decide (a0_1 ≤ 255) = true := decide_eq_true c5
          clear c5
          replace H := Option.bind_eq_some_iff.mp H
          obtain ⟨⟨t223, t224, t225, t226⟩, A60, H⟩ := H
          replace H : ((tree_One.f t223 t224 t225 t226).bind fun t227 => (some t227)) = some r := H
          have A6 := Aside0.mk A60
          clear A60
          replace H := Option.bind_eq_some_iff.mp H
          obtain ⟨t227, A70, H⟩ := H
          replace H : (some t227) = some r := H
          have A7 := Aside0.mk A70
          clear A70
          obtain rfl := Option.some.inj H
          go_enter Try.func54, Try.ntmps54
          go_wp2_with (first | ((with_reducible refine gate_dst (N := 1) rfl ?_); refine box_event ?hg (N := 1) ?hd (cs := #[.int .i64 a0_0, .int .i64 a0_1, .int .i64 a0_2, .int .i64 a0_3, .string a0_4, .float .f64 a0_5]) (t := 30) ?hr ?_; (case hd => rfl); (case hg => rfl); (case hr => first | (go_simp; done) | (go_simp; rfl)); intro gb221 hg w8 hbox hb; have n0_ := Aside0.mk (below_step (by repeat (first | (with_reducible first | exact HB.out | apply below_alloc | apply pw_below_drewN | apply below_drew1) | exact HB.out)) hb); have n1_ := Aside0.mk (hbox); have n2_ := Aside0.mk ((by rw [hg]; exact (below_size (by repeat (first | (with_reducible first | exact HB.out | apply below_alloc | apply pw_below_drewN | apply below_drew1) | exact HB.out))) : w.heap.size ≤ gb221)); have n3_ := Aside0.mk ((by rw [hg]; exact (below_size (by repeat (first | (with_reducible first | exact HB.out | apply below_alloc | apply pw_below_drewN | apply below_drew1) | exact HB.out))) : w.heap.size ≤ gb221)); clear HB; have HB := n0_; have BK221 := n1_; have GW221 := n2_; have GE221 := n3_; clear n0_ n1_ n2_ n3_; clear hb hbox hg; have hcz9_0 : w8.cell? ⟨gb221, 0, none⟩ = some (.int .i64 a0_0) := (blk_cell BK221.out 0).trans rfl; have hcz9_1 : w8.cell? ⟨gb221, 1, none⟩ = some (.int .i64 a0_1) := (blk_cell BK221.out 1).trans rfl; have hcz9_2 : w8.cell? ⟨gb221, 2, none⟩ = some (.int .i64 a0_2) := (blk_cell BK221.out 2).trans rfl; have hcz9_3 : w8.cell? ⟨gb221, 3, none⟩ = some (.int .i64 a0_3) := (blk_cell BK221.out 3).trans rfl; have hcz9_4 : w8.cell? ⟨gb221, 4, none⟩ = some (.string a0_4) := (blk_cell BK221.out 4).trans rfl; have hcz9_5 : w8.cell? ⟨gb221, 5, none⟩ = some (.float .f64 a0_5) := (blk_cell BK221.out 5).trans rfl; have hfz9_0 := blk_frozen BK221.out 0; have hfz9_1 := blk_frozen BK221.out 1; have hfz9_2 := blk_frozen BK221.out 2; have hfz9_3 := blk_frozen BK221.out 3; have hfz9_4 := blk_frozen BK221.out 4; have hfz9_5 := blk_frozen BK221.out 5) | ((with_reducible refine gate_dst (N := 3) rfl ?_); refine box_event ?hg (N := 3) ?hd (cs := #[.int .i64 0, .int .i64 0]) (t := 27) ?hr ?_; (case hd => rfl); (case hg => rfl); (case hr => first | (go_simp; done) | (go_simp; rfl)); intro gb222 hg w10 hbox hb; have n0_ := Aside0.mk (blk_below (g := gb221) (o := .cells #[.int .i64 a0_0, .int .i64 a0_1, .int .i64 a0_2, .int .i64 a0_3, .string a0_4, .float .f64 a0_5] 30 (0, 0)) (by (with_reducible repeat (first | refine blk_drewN ?_ _ | refine blk_drew ?_ | refine blk_alloc ?_ _)); exact BK221.out) hb); have n1_ := Aside0.mk (below_step (by repeat (first | (with_reducible first | exact HB.out | apply below_alloc | apply pw_below_drewN | apply below_drew1 | refine below_set ?_ GE221.out) | exact HB.out)) hb); have n2_ := Aside0.mk (hbox); have n3_ := Aside0.mk ((by rw [hg]; exact (below_size (by repeat (first | (with_reducible first | exact HB.out | apply below_alloc | apply pw_below_drewN | apply below_drew1 | refine below_set ?_ GE221.out) | exact HB.out))) : w.heap.size ≤ gb222)); have n4_ := Aside0.mk ((by rw [hg]; exact (below_size (by repeat (first | (with_reducible first | exact HB.out | apply below_alloc | apply pw_below_drewN | apply below_drew1 | refine below_set ?_ GE221.out) | exact HB.out))) : w.heap.size ≤ gb222)); have n5_ := Aside0.mk ((by rw [hg]; exact Nat.ne_of_lt (blk_lt (g := gb221) (o := .cells #[.int .i64 a0_0, .int .i64 a0_1, .int .i64 a0_2, .int .i64 a0_3, .string a0_4, .float .f64 a0_5] 30 (0, 0)) (by (with_reducible repeat (first | refine blk_drewN ?_ _ | refine blk_drew ?_ | refine blk_alloc ?_ _)); exact BK221.out)) : gb221 ≠ gb222)); have n6_ := Aside0.mk ((by rw [hg]; exact Nat.ne_of_gt (blk_lt (g := gb221) (o := .cells #[.int .i64 a0_0, .int .i64 a0_1, .int .i64 a0_2, .int .i64 a0_3, .string a0_4, .float .f64 a0_5] 30 (0, 0)) (by (with_reducible repeat (first | refine blk_drewN ?_ _ | refine blk_drew ?_ | refine blk_alloc ?_ _)); exact BK221.out)) : gb222 ≠ gb221)); clear BK221; clear HB; have BK221 := n0_; have HB := n1_; have BK222 := n2_; have GW222 := n3_; have GE222 := n4_; have NB221_222 := n5_; have NB222_221 := n6_; clear n0_ n1_ n2_ n3_ n4_ n5_ n6_; clear hb hbox hg; have hnb11 := NB222_221.out; have hnc11 := NB221_222.out; have hcz12_0 : w10.cell? ⟨gb222, 0, none⟩ = some (.int .i64 0) := (blk_cell BK222.out 0).trans rfl; have hcz12_1 : w10.cell? ⟨gb222, 1, none⟩ = some (.int .i64 0) := (blk_cell BK222.out 1).trans rfl; have hfz12_0 := blk_frozen BK222.out 0; have hfz12_1 := blk_frozen BK222.out 1; have hcz13_0 : w10.cell? ⟨gb221, 0, none⟩ = some (.int .i64 a0_0) := (blk_cell BK221.out 0).trans rfl; have hcz13_1 : w10.cell? ⟨gb221, 1, none⟩ = some (.int .i64 a0_1) := (blk_cell BK221.out 1).trans rfl; have hcz13_2 : w10.cell? ⟨gb221, 2, none⟩ = some (.int .i64 a0_2) := (blk_cell BK221.out 2).trans rfl; have hcz13_3 : w10.cell? ⟨gb221, 3, none⟩ = some (.int .i64 a0_3) := (blk_cell BK221.out 3).trans rfl; have hcz13_4 : w10.cell? ⟨gb221, 4, none⟩ = some (.string a0_4) := (blk_cell BK221.out 4).trans rfl; have hcz13_5 : w10.cell? ⟨gb221, 5, none⟩ = some (.float .f64 a0_5) := (blk_cell BK221.out 5).trans rfl; have hfz13_0 := blk_frozen BK221.out 0; have hfz13_1 := blk_frozen BK221.out 1; have hfz13_2 := blk_frozen BK221.out 2; have hfz13_3 := blk_frozen BK221.out 3; have hfz13_4 := blk_frozen BK221.out 4; have hfz13_5 := blk_frozen BK221.out 5) | (go_at_call 81; (with_reducible refine (moves_Row.calls a0_0 a0_1 a0_2 a0_3 a0_4 a0_5 t223 t224 t225 t226 _ A6.out).mono ?_); rintro e w14 ⟨rfl, hb⟩; have n0_ := Aside0.mk (blk_below (g := gb221) (o := .cells #[.int .i64 a0_0, .int .i64 a0_1, .int .i64 a0_2, .int .i64 a0_3, .string a0_4, .float .f64 a0_5] 30 (0, 0)) (by (with_reducible repeat (first | refine blk_drewN ?_ _ | refine blk_drew ?_ | refine blk_alloc ?_ _)); refine blk_far ?_ NB221_222.out _; (with_reducible repeat (first | refine blk_drewN ?_ _ | refine blk_drew ?_ | refine blk_alloc ?_ _)); refine blk_far ?_ NB221_222.out _; (with_reducible repeat (first | refine blk_drewN ?_ _ | refine blk_drew ?_ | refine blk_alloc ?_ _)); exact BK221.out) hb); have n1_ := Aside0.mk (blk_below (g := gb222) (o := .cells #[.int .i64 a0_0, .int .i64 a0_1] 27 (0, 0)) (by (with_reducible repeat (first | refine blk_drewN ?_ _ | refine blk_drew ?_ | refine blk_alloc ?_ _)); refine blk_put (cs := #[.int .i64 a0_0, .int .i64 0]) ?_ 1 _ rfl; (with_reducible repeat (first | refine blk_drewN ?_ _ | refine blk_drew ?_ | refine blk_alloc ?_ _)); refine blk_put (cs := #[.int .i64 0, .int .i64 0]) ?_ 0 _ rfl; (with_reducible repeat (first | refine blk_drewN ?_ _ | refine blk_drew ?_ | refine blk_alloc ?_ _)); exact BK222.out) hb); have n2_ := Aside0.mk (below_step (by repeat (first | (with_reducible first | exact HB.out | apply below_alloc | apply pw_below_drewN | apply below_drew1 | refine below_set ?_ GE221.out | refine below_set ?_ GE222.out) | exact HB.out)) hb); clear BK221; clear BK222; clear HB; have BK221 := n0_; have BK222 := n1_; have HB := n2_; clear n0_ n1_ n2_; (try clear hb); (try clear hb2); (try clear hk); (try clear hi)) | (go_at_call 80; (with_reducible refine (tree_One.calls t223 t224 t225 t226 t227 _ A7.out).mono ?_); rintro e w15 ⟨rfl, hb⟩; have n0_ := Aside0.mk (blk_below (g := gb221) (o := .cells #[.int .i64 a0_0, .int .i64 a0_1, .int .i64 a0_2, .int .i64 a0_3, .string a0_4, .float .f64 a0_5] 30 (0, 0)) (by (with_reducible repeat (first | refine blk_drewN ?_ _ | refine blk_drew ?_ | refine blk_alloc ?_ _)); exact BK221.out) hb); have n1_ := Aside0.mk (blk_below (g := gb222) (o := .cells #[.int .i64 a0_0, .int .i64 a0_1] 27 (0, 0)) (by (with_reducible repeat (first | refine blk_drewN ?_ _ | refine blk_drew ?_ | refine blk_alloc ?_ _)); exact BK222.out) hb); have n2_ := Aside0.mk (below_step (by repeat (first | (with_reducible first | exact HB.out | apply below_alloc | apply pw_below_drewN | apply below_drew1 | refine below_set ?_ GE221.out | refine below_set ?_ GE222.out) | exact HB.out)) hb); clear BK221; clear BK222; clear HB; have BK221 := n0_; have BK222 := n1_; have HB := n2_; clear n0_ n1_ n2_; (try clear hb); (try clear hb2); (try clear hk); (try clear hi)))
          go_ret
          exact ⟨by first | rfl | (simp [errW_none, errW_some] <;> rfl) | (simp [*, errW_none, errW_some] <;> rfl), by repeat (first | (with_reducible first | exact HB.out | apply below_alloc | apply pw_below_drewN | apply below_drew1 | refine below_set ?_ GE221.out | refine below_set ?_ GE222.out) | exact HB.out)⟩
        · rw [if_neg c5] at H
          have c5b0 : decide (a0_1 ≤ 255) = false := decide_eq_false c5
          clear c5
          obtain rfl := Option.some.inj H
          go_enter Try.func54, Try.ntmps54
          go_wp2_with (first | ((with_reducible refine gate_dst (N := 1) rfl ?_); refine box_event ?hg (N := 1) ?hd (cs := #[.int .i64 a0_0, .int .i64 a0_1, .int .i64 a0_2, .int .i64 a0_3, .string a0_4, .float .f64 a0_5]) (t := 30) ?hr ?_; (case hd => rfl); (case hg => rfl); (case hr => first | (go_simp; done) | (go_simp; rfl)); intro gb221 hg w16 hbox hb; have n0_ := Aside0.mk (below_step (by repeat (first | (with_reducible first | exact HB.out | apply below_alloc | apply pw_below_drewN | apply below_drew1) | exact HB.out)) hb); have n1_ := Aside0.mk (hbox); have n2_ := Aside0.mk ((by rw [hg]; exact (below_size (by repeat (first | (with_reducible first | exact HB.out | apply below_alloc | apply pw_below_drewN | apply below_drew1) | exact HB.out))) : w.heap.size ≤ gb221)); have n3_ := Aside0.mk ((by rw [hg]; exact (below_size (by repeat (first | (with_reducible first | exact HB.out | apply below_alloc | apply pw_below_drewN | apply below_drew1) | exact HB.out))) : w.heap.size ≤ gb221)); clear HB; have HB := n0_; have BK221 := n1_; have GW221 := n2_; have GE221 := n3_; clear n0_ n1_ n2_ n3_; clear hb hbox hg; have hcz17_0 : w16.cell? ⟨gb221, 0, none⟩ = some (.int .i64 a0_0) := (blk_cell BK221.out 0).trans rfl; have hcz17_1 : w16.cell? ⟨gb221, 1, none⟩ = some (.int .i64 a0_1) := (blk_cell BK221.out 1).trans rfl; have hcz17_2 : w16.cell? ⟨gb221, 2, none⟩ = some (.int .i64 a0_2) := (blk_cell BK221.out 2).trans rfl; have hcz17_3 : w16.cell? ⟨gb221, 3, none⟩ = some (.int .i64 a0_3) := (blk_cell BK221.out 3).trans rfl; have hcz17_4 : w16.cell? ⟨gb221, 4, none⟩ = some (.string a0_4) := (blk_cell BK221.out 4).trans rfl; have hcz17_5 : w16.cell? ⟨gb221, 5, none⟩ = some (.float .f64 a0_5) := (blk_cell BK221.out 5).trans rfl; have hfz17_0 := blk_frozen BK221.out 0; have hfz17_1 := blk_frozen BK221.out 1; have hfz17_2 := blk_frozen BK221.out 2; have hfz17_3 := blk_frozen BK221.out 3; have hfz17_4 := blk_frozen BK221.out 4; have hfz17_5 := blk_frozen BK221.out 5) | ((with_reducible refine gate_dst (N := 3) rfl ?_); refine box_event ?hg (N := 3) ?hd (cs := #[.int .i64 0, .int .i64 0]) (t := 27) ?hr ?_; (case hd => rfl); (case hg => rfl); (case hr => first | (go_simp; done) | (go_simp; rfl)); intro gb222 hg w18 hbox hb; have n0_ := Aside0.mk (blk_below (g := gb221) (o := .cells #[.int .i64 a0_0, .int .i64 a0_1, .int .i64 a0_2, .int .i64 a0_3, .string a0_4, .float .f64 a0_5] 30 (0, 0)) (by (with_reducible repeat (first | refine blk_drewN ?_ _ | refine blk_drew ?_ | refine blk_alloc ?_ _)); exact BK221.out) hb); have n1_ := Aside0.mk (below_step (by repeat (first | (with_reducible first | exact HB.out | apply below_alloc | apply pw_below_drewN | apply below_drew1 | refine below_set ?_ GE221.out) | exact HB.out)) hb); have n2_ := Aside0.mk (hbox); have n3_ := Aside0.mk ((by rw [hg]; exact (below_size (by repeat (first | (with_reducible first | exact HB.out | apply below_alloc | apply pw_below_drewN | apply below_drew1 | refine below_set ?_ GE221.out) | exact HB.out))) : w.heap.size ≤ gb222)); have n4_ := Aside0.mk ((by rw [hg]; exact (below_size (by repeat (first | (with_reducible first | exact HB.out | apply below_alloc | apply pw_below_drewN | apply below_drew1 | refine below_set ?_ GE221.out) | exact HB.out))) : w.heap.size ≤ gb222)); have n5_ := Aside0.mk ((by rw [hg]; exact Nat.ne_of_lt (blk_lt (g := gb221) (o := .cells #[.int .i64 a0_0, .int .i64 a0_1, .int .i64 a0_2, .int .i64 a0_3, .string a0_4, .float .f64 a0_5] 30 (0, 0)) (by (with_reducible repeat (first | refine blk_drewN ?_ _ | refine blk_drew ?_ | refine blk_alloc ?_ _)); exact BK221.out)) : gb221 ≠ gb222)); have n6_ := Aside0.mk ((by rw [hg]; exact Nat.ne_of_gt (blk_lt (g := gb221) (o := .cells #[.int .i64 a0_0, .int .i64 a0_1, .int .i64 a0_2, .int .i64 a0_3, .string a0_4, .float .f64 a0_5] 30 (0, 0)) (by (with_reducible repeat (first | refine blk_drewN ?_ _ | refine blk_drew ?_ | refine blk_alloc ?_ _)); exact BK221.out)) : gb222 ≠ gb221)); clear BK221; clear HB; have BK221 := n0_; have HB := n1_; have BK222 := n2_; have GW222 := n3_; have GE222 := n4_; have NB221_222 := n5_; have NB222_221 := n6_; clear n0_ n1_ n2_ n3_ n4_ n5_ n6_; clear hb hbox hg; have hnb19 := NB222_221.out; have hnc19 := NB221_222.out; have hcz20_0 : w18.cell? ⟨gb222, 0, none⟩ = some (.int .i64 0) := (blk_cell BK222.out 0).trans rfl; have hcz20_1 : w18.cell? ⟨gb222, 1, none⟩ = some (.int .i64 0) := (blk_cell BK222.out 1).trans rfl; have hfz20_0 := blk_frozen BK222.out 0; have hfz20_1 := blk_frozen BK222.out 1))
          go_ret
          exact ⟨by first | rfl | (simp [errW_none, errW_some] <;> rfl) | (simp [*, errW_none, errW_some] <;> rfl), by repeat (first | (with_reducible first | exact HB.out | apply below_alloc | apply pw_below_drewN | apply below_drew1 | refine below_set ?_ GE221.out | refine below_set ?_ GE222.out) | exact HB.out)⟩
      · rw [if_neg c4] at H
        have c4b0 : decide (1 ≤ a0_1) = false := decide_eq_false c4
        clear c4
        obtain rfl := Option.some.inj H
        go_enter Try.func54, Try.ntmps54
        go_wp2_with (first | ((with_reducible refine gate_dst (N := 1) rfl ?_); refine box_event ?hg (N := 1) ?hd (cs := #[.int .i64 a0_0, .int .i64 a0_1, .int .i64 a0_2, .int .i64 a0_3, .string a0_4, .float .f64 a0_5]) (t := 30) ?hr ?_; (case hd => rfl); (case hg => rfl); (case hr => first | (go_simp; done) | (go_simp; rfl)); intro gb221 hg w21 hbox hb; have n0_ := Aside0.mk (below_step (by repeat (first | (with_reducible first | exact HB.out | apply below_alloc | apply pw_below_drewN | apply below_drew1) | exact HB.out)) hb); have n1_ := Aside0.mk (hbox); have n2_ := Aside0.mk ((by rw [hg]; exact (below_size (by repeat (first | (with_reducible first | exact HB.out | apply below_alloc | apply pw_below_drewN | apply below_drew1) | exact HB.out))) : w.heap.size ≤ gb221)); have n3_ := Aside0.mk ((by rw [hg]; exact (below_size (by repeat (first | (with_reducible first | exact HB.out | apply below_alloc | apply pw_below_drewN | apply below_drew1) | exact HB.out))) : w.heap.size ≤ gb221)); clear HB; have HB := n0_; have BK221 := n1_; have GW221 := n2_; have GE221 := n3_; clear n0_ n1_ n2_ n3_; clear hb hbox hg; have hcz22_0 : w21.cell? ⟨gb221, 0, none⟩ = some (.int .i64 a0_0) := (blk_cell BK221.out 0).trans rfl; have hcz22_1 : w21.cell? ⟨gb221, 1, none⟩ = some (.int .i64 a0_1) := (blk_cell BK221.out 1).trans rfl; have hcz22_2 : w21.cell? ⟨gb221, 2, none⟩ = some (.int .i64 a0_2) := (blk_cell BK221.out 2).trans rfl; have hcz22_3 : w21.cell? ⟨gb221, 3, none⟩ = some (.int .i64 a0_3) := (blk_cell BK221.out 3).trans rfl; have hcz22_4 : w21.cell? ⟨gb221, 4, none⟩ = some (.string a0_4) := (blk_cell BK221.out 4).trans rfl; have hcz22_5 : w21.cell? ⟨gb221, 5, none⟩ = some (.float .f64 a0_5) := (blk_cell BK221.out 5).trans rfl; have hfz22_0 := blk_frozen BK221.out 0; have hfz22_1 := blk_frozen BK221.out 1; have hfz22_2 := blk_frozen BK221.out 2; have hfz22_3 := blk_frozen BK221.out 3; have hfz22_4 := blk_frozen BK221.out 4; have hfz22_5 := blk_frozen BK221.out 5) | ((with_reducible refine gate_dst (N := 3) rfl ?_); refine box_event ?hg (N := 3) ?hd (cs := #[.int .i64 0, .int .i64 0]) (t := 27) ?hr ?_; (case hd => rfl); (case hg => rfl); (case hr => first | (go_simp; done) | (go_simp; rfl)); intro gb222 hg w23 hbox hb; have n0_ := Aside0.mk (blk_below (g := gb221) (o := .cells #[.int .i64 a0_0, .int .i64 a0_1, .int .i64 a0_2, .int .i64 a0_3, .string a0_4, .float .f64 a0_5] 30 (0, 0)) (by (with_reducible repeat (first | refine blk_drewN ?_ _ | refine blk_drew ?_ | refine blk_alloc ?_ _)); exact BK221.out) hb); have n1_ := Aside0.mk (below_step (by repeat (first | (with_reducible first | exact HB.out | apply below_alloc | apply pw_below_drewN | apply below_drew1 | refine below_set ?_ GE221.out) | exact HB.out)) hb); have n2_ := Aside0.mk (hbox); have n3_ := Aside0.mk ((by rw [hg]; exact (below_size (by repeat (first | (with_reducible first | exact HB.out | apply below_alloc | apply pw_below_drewN | apply below_drew1 | refine below_set ?_ GE221.out) | exact HB.out))) : w.heap.size ≤ gb222)); have n4_ := Aside0.mk ((by rw [hg]; exact (below_size (by repeat (first | (with_reducible first | exact HB.out | apply below_alloc | apply pw_below_drewN | apply below_drew1 | refine below_set ?_ GE221.out) | exact HB.out))) : w.heap.size ≤ gb222)); have n5_ := Aside0.mk ((by rw [hg]; exact Nat.ne_of_lt (blk_lt (g := gb221) (o := .cells #[.int .i64 a0_0, .int .i64 a0_1, .int .i64 a0_2, .int .i64 a0_3, .string a0_4, .float .f64 a0_5] 30 (0, 0)) (by (with_reducible repeat (first | refine blk_drewN ?_ _ | refine blk_drew ?_ | refine blk_alloc ?_ _)); exact BK221.out)) : gb221 ≠ gb222)); have n6_ := Aside0.mk ((by rw [hg]; exact Nat.ne_of_gt (blk_lt (g := gb221) (o := .cells #[.int .i64 a0_0, .int .i64 a0_1, .int .i64 a0_2, .int .i64 a0_3, .string a0_4, .float .f64 a0_5] 30 (0, 0)) (by (with_reducible repeat (first | refine blk_drewN ?_ _ | refine blk_drew ?_ | refine blk_alloc ?_ _)); exact BK221.out)) : gb222 ≠ gb221)); clear BK221; clear HB; have BK221 := n0_; have HB := n1_; have BK222 := n2_; have GW222 := n3_; have GE222 := n4_; have NB221_222 := n5_; have NB222_221 := n6_; clear n0_ n1_ n2_ n3_ n4_ n5_ n6_; clear hb hbox hg; have hnb24 := NB222_221.out; have hnc24 := NB221_222.out; have hcz25_0 : w23.cell? ⟨gb222, 0, none⟩ = some (.int .i64 0) := (blk_cell BK222.out 0).trans rfl; have hcz25_1 : w23.cell? ⟨gb222, 1, none⟩ = some (.int .i64 0) := (blk_cell BK222.out 1).trans rfl; have hfz25_0 := blk_frozen BK222.out 0; have hfz25_1 := blk_frozen BK222.out 1))
        go_ret
        exact ⟨by first | rfl | (simp [errW_none, errW_some] <;> rfl) | (simp [*, errW_none, errW_some] <;> rfl), by repeat (first | (with_reducible first | exact HB.out | apply below_alloc | apply pw_below_drewN | apply below_drew1 | refine below_set ?_ GE221.out | refine below_set ?_ GE222.out) | exact HB.out)⟩
    · rw [if_neg c3] at H
      have c3b0 : decide (a0_0 ≤ 4611686018427387903) = false := decide_eq_false c3
      clear c3
      obtain rfl := Option.some.inj H
      go_enter Try.func54, Try.ntmps54
      go_wp2_with (first | ((with_reducible refine gate_dst (N := 1) rfl ?_); refine box_event ?hg (N := 1) ?hd (cs := #[.int .i64 a0_0, .int .i64 a0_1, .int .i64 a0_2, .int .i64 a0_3, .string a0_4, .float .f64 a0_5]) (t := 30) ?hr ?_; (case hd => rfl); (case hg => rfl); (case hr => first | (go_simp; done) | (go_simp; rfl)); intro gb221 hg w26 hbox hb; have n0_ := Aside0.mk (below_step (by repeat (first | (with_reducible first | exact HB.out | apply below_alloc | apply pw_below_drewN | apply below_drew1) | exact HB.out)) hb); have n1_ := Aside0.mk (hbox); have n2_ := Aside0.mk ((by rw [hg]; exact (below_size (by repeat (first | (with_reducible first | exact HB.out | apply below_alloc | apply pw_below_drewN | apply below_drew1) | exact HB.out))) : w.heap.size ≤ gb221)); have n3_ := Aside0.mk ((by rw [hg]; exact (below_size (by repeat (first | (with_reducible first | exact HB.out | apply below_alloc | apply pw_below_drewN | apply below_drew1) | exact HB.out))) : w.heap.size ≤ gb221)); clear HB; have HB := n0_; have BK221 := n1_; have GW221 := n2_; have GE221 := n3_; clear n0_ n1_ n2_ n3_; clear hb hbox hg; have hcz27_0 : w26.cell? ⟨gb221, 0, none⟩ = some (.int .i64 a0_0) := (blk_cell BK221.out 0).trans rfl; have hcz27_1 : w26.cell? ⟨gb221, 1, none⟩ = some (.int .i64 a0_1) := (blk_cell BK221.out 1).trans rfl; have hcz27_2 : w26.cell? ⟨gb221, 2, none⟩ = some (.int .i64 a0_2) := (blk_cell BK221.out 2).trans rfl; have hcz27_3 : w26.cell? ⟨gb221, 3, none⟩ = some (.int .i64 a0_3) := (blk_cell BK221.out 3).trans rfl; have hcz27_4 : w26.cell? ⟨gb221, 4, none⟩ = some (.string a0_4) := (blk_cell BK221.out 4).trans rfl; have hcz27_5 : w26.cell? ⟨gb221, 5, none⟩ = some (.float .f64 a0_5) := (blk_cell BK221.out 5).trans rfl; have hfz27_0 := blk_frozen BK221.out 0; have hfz27_1 := blk_frozen BK221.out 1; have hfz27_2 := blk_frozen BK221.out 2; have hfz27_3 := blk_frozen BK221.out 3; have hfz27_4 := blk_frozen BK221.out 4; have hfz27_5 := blk_frozen BK221.out 5) | ((with_reducible refine gate_dst (N := 3) rfl ?_); refine box_event ?hg (N := 3) ?hd (cs := #[.int .i64 0, .int .i64 0]) (t := 27) ?hr ?_; (case hd => rfl); (case hg => rfl); (case hr => first | (go_simp; done) | (go_simp; rfl)); intro gb222 hg w28 hbox hb; have n0_ := Aside0.mk (blk_below (g := gb221) (o := .cells #[.int .i64 a0_0, .int .i64 a0_1, .int .i64 a0_2, .int .i64 a0_3, .string a0_4, .float .f64 a0_5] 30 (0, 0)) (by (with_reducible repeat (first | refine blk_drewN ?_ _ | refine blk_drew ?_ | refine blk_alloc ?_ _)); exact BK221.out) hb); have n1_ := Aside0.mk (below_step (by repeat (first | (with_reducible first | exact HB.out | apply below_alloc | apply pw_below_drewN | apply below_drew1 | refine below_set ?_ GE221.out) | exact HB.out)) hb); have n2_ := Aside0.mk (hbox); have n3_ := Aside0.mk ((by rw [hg]; exact (below_size (by repeat (first | (with_reducible first | exact HB.out | apply below_alloc | apply pw_below_drewN | apply below_drew1 | refine below_set ?_ GE221.out) | exact HB.out))) : w.heap.size ≤ gb222)); have n4_ := Aside0.mk ((by rw [hg]; exact (below_size (by repeat (first | (with_reducible first | exact HB.out | apply below_alloc | apply pw_below_drewN | apply below_drew1 | refine below_set ?_ GE221.out) | exact HB.out))) : w.heap.size ≤ gb222)); have n5_ := Aside0.mk ((by rw [hg]; exact Nat.ne_of_lt (blk_lt (g := gb221) (o := .cells #[.int .i64 a0_0, .int .i64 a0_1, .int .i64 a0_2, .int .i64 a0_3, .string a0_4, .float .f64 a0_5] 30 (0, 0)) (by (with_reducible repeat (first | refine blk_drewN ?_ _ | refine blk_drew ?_ | refine blk_alloc ?_ _)); exact BK221.out)) : gb221 ≠ gb222)); have n6_ := Aside0.mk ((by rw [hg]; exact Nat.ne_of_gt (blk_lt (g := gb221) (o := .cells #[.int .i64 a0_0, .int .i64 a0_1, .int .i64 a0_2, .int .i64 a0_3, .string a0_4, .float .f64 a0_5] 30 (0, 0)) (by (with_reducible repeat (first | refine blk_drewN ?_ _ | refine blk_drew ?_ | refine blk_alloc ?_ _)); exact BK221.out)) : gb222 ≠ gb221)); clear BK221; clear HB; have BK221 := n0_; have HB := n1_; have BK222 := n2_; have GW222 := n3_; have GE222 := n4_; have NB221_222 := n5_; have NB222_221 := n6_; clear n0_ n1_ n2_ n3_ n4_ n5_ n6_; clear hb hbox hg; have hnb29 := NB222_221.out; have hnc29 := NB221_222.out; have hcz30_0 : w28.cell? ⟨gb222, 0, none⟩ = some (.int .i64 0) := (blk_cell BK222.out 0).trans rfl; have hcz30_1 : w28.cell? ⟨gb222, 1, none⟩ = some (.int .i64 0) := (blk_cell BK222.out 1).trans rfl; have hfz30_0 := blk_frozen BK222.out 0; have hfz30_1 := blk_frozen BK222.out 1))
      go_ret
      exact ⟨by first | rfl | (simp [errW_none, errW_some] <;> rfl) | (simp [*, errW_none, errW_some] <;> rfl), by repeat (first | (with_reducible first | exact HB.out | apply below_alloc | apply pw_below_drewN | apply below_drew1 | refine below_set ?_ GE221.out | refine below_set ?_ GE222.out) | exact HB.out)⟩
  · rw [if_neg c2] at H
    have c2b0 : decide (1 ≤ a0_0) = false := decide_eq_false c2
    clear c2
    obtain rfl := Option.some.inj H
    go_enter Try.func54, Try.ntmps54
    go_wp2_with (first | ((with_reducible refine gate_dst (N := 1) rfl ?_); refine box_event ?hg (N := 1) ?hd (cs := #[.int .i64 a0_0, .int .i64 a0_1, .int .i64 a0_2, .int .i64 a0_3, .string a0_4, .float .f64 a0_5]) (t := 30) ?hr ?_; (case hd => rfl); (case hg => rfl); (case hr => first | (go_simp; done) | (go_simp; rfl)); intro gb221 hg w31 hbox hb; have n0_ := Aside0.mk (below_step (by repeat (first | (with_reducible first | exact HB.out | apply below_alloc | apply pw_below_drewN | apply below_drew1) | exact HB.out)) hb); have n1_ := Aside0.mk (hbox); have n2_ := Aside0.mk ((by rw [hg]; exact (below_size (by repeat (first | (with_reducible first | exact HB.out | apply below_alloc | apply pw_below_drewN | apply below_drew1) | exact HB.out))) : w.heap.size ≤ gb221)); have n3_ := Aside0.mk ((by rw [hg]; exact (below_size (by repeat (first | (with_reducible first | exact HB.out | apply below_alloc | apply pw_below_drewN | apply below_drew1) | exact HB.out))) : w.heap.size ≤ gb221)); clear HB; have HB := n0_; have BK221 := n1_; have GW221 := n2_; have GE221 := n3_; clear n0_ n1_ n2_ n3_; clear hb hbox hg; have hcz32_0 : w31.cell? ⟨gb221, 0, none⟩ = some (.int .i64 a0_0) := (blk_cell BK221.out 0).trans rfl; have hcz32_1 : w31.cell? ⟨gb221, 1, none⟩ = some (.int .i64 a0_1) := (blk_cell BK221.out 1).trans rfl; have hcz32_2 : w31.cell? ⟨gb221, 2, none⟩ = some (.int .i64 a0_2) := (blk_cell BK221.out 2).trans rfl; have hcz32_3 : w31.cell? ⟨gb221, 3, none⟩ = some (.int .i64 a0_3) := (blk_cell BK221.out 3).trans rfl; have hcz32_4 : w31.cell? ⟨gb221, 4, none⟩ = some (.string a0_4) := (blk_cell BK221.out 4).trans rfl; have hcz32_5 : w31.cell? ⟨gb221, 5, none⟩ = some (.float .f64 a0_5) := (blk_cell BK221.out 5).trans rfl; have hfz32_0 := blk_frozen BK221.out 0; have hfz32_1 := blk_frozen BK221.out 1; have hfz32_2 := blk_frozen BK221.out 2; have hfz32_3 := blk_frozen BK221.out 3; have hfz32_4 := blk_frozen BK221.out 4; have hfz32_5 := blk_frozen BK221.out 5) | ((with_reducible refine gate_dst (N := 3) rfl ?_); refine box_event ?hg (N := 3) ?hd (cs := #[.int .i64 0, .int .i64 0]) (t := 27) ?hr ?_; (case hd => rfl); (case hg => rfl); (case hr => first | (go_simp; done) | (go_simp; rfl)); intro gb222 hg w33 hbox hb; have n0_ := Aside0.mk (blk_below (g := gb221) (o := .cells #[.int .i64 a0_0, .int .i64 a0_1, .int .i64 a0_2, .int .i64 a0_3, .string a0_4, .float .f64 a0_5] 30 (0, 0)) (by (with_reducible repeat (first | refine blk_drewN ?_ _ | refine blk_drew ?_ | refine blk_alloc ?_ _)); exact BK221.out) hb); have n1_ := Aside0.mk (below_step (by repeat (first | (with_reducible first | exact HB.out | apply below_alloc | apply pw_below_drewN | apply below_drew1 | refine below_set ?_ GE221.out) | exact HB.out)) hb); have n2_ := Aside0.mk (hbox); have n3_ := Aside0.mk ((by rw [hg]; exact (below_size (by repeat (first | (with_reducible first | exact HB.out | apply below_alloc | apply pw_below_drewN | apply below_drew1 | refine below_set ?_ GE221.out) | exact HB.out))) : w.heap.size ≤ gb222)); have n4_ := Aside0.mk ((by rw [hg]; exact (below_size (by repeat (first | (with_reducible first | exact HB.out | apply below_alloc | apply pw_below_drewN | apply below_drew1 | refine below_set ?_ GE221.out) | exact HB.out))) : w.heap.size ≤ gb222)); have n5_ := Aside0.mk ((by rw [hg]; exact Nat.ne_of_lt (blk_lt (g := gb221) (o := .cells #[.int .i64 a0_0, .int .i64 a0_1, .int .i64 a0_2, .int .i64 a0_3, .string a0_4, .float .f64 a0_5] 30 (0, 0)) (by (with_reducible repeat (first | refine blk_drewN ?_ _ | refine blk_drew ?_ | refine blk_alloc ?_ _)); exact BK221.out)) : gb221 ≠ gb222)); have n6_ := Aside0.mk ((by rw [hg]; exact Nat.ne_of_gt (blk_lt (g := gb221) (o := .cells #[.int .i64 a0_0, .int .i64 a0_1, .int .i64 a0_2, .int .i64 a0_3, .string a0_4, .float .f64 a0_5] 30 (0, 0)) (by (with_reducible repeat (first | refine blk_drewN ?_ _ | refine blk_drew ?_ | refine blk_alloc ?_ _)); exact BK221.out)) : gb222 ≠ gb221)); clear BK221; clear HB; have BK221 := n0_; have HB := n1_; have BK222 := n2_; have GW222 := n3_; have GE222 := n4_; have NB221_222 := n5_; have NB222_221 := n6_; clear n0_ n1_ n2_ n3_ n4_ n5_ n6_; clear hb hbox hg; have hnb34 := NB222_221.out; have hnc34 := NB221_222.out; have hcz35_0 : w33.cell? ⟨gb222, 0, none⟩ = some (.int .i64 0) := (blk_cell BK222.out 0).trans rfl; have hcz35_1 : w33.cell? ⟨gb222, 1, none⟩ = some (.int .i64 0) := (blk_cell BK222.out 1).trans rfl; have hfz35_0 := blk_frozen BK222.out 0; have hfz35_1 := blk_frozen BK222.out 1))
    go_ret
    exact ⟨by first | rfl | (simp [errW_none, errW_some] <;> rfl) | (simp [*, errW_none, errW_some] <;> rfl), by repeat (first | (with_reducible first | exact HB.out | apply below_alloc | apply pw_below_drewN | apply below_drew1 | refine below_set ?_ GE221.out | refine below_set ?_ GE222.out) | exact HB.out)⟩
end Go.Proofs.Ytfcndhajcikgiaa.B
namespace Go.Proofs.Ytfcndhajcikgiaa.B
open Go.RowKit Go.Proofs.Sp Go.Proofs.Fl Go.Proofs.YtfcndhajcikgiaaW.PrintWords Go.Proofs.YtfcndhajcikgiaaW.PrintLast Go.Proofs.YtfcndhajcikgiaaW.PrintMore
theorem IsRows.keep {w0 W W2 : World} {h g : Nat} {S s s2 : ByteArray} {er er2 : Int} (hi : IsRows w0 W h g S s er) (hI : IsS85 w0 W2 g s2 er2) (hK : KeepBut W W2 g none) : IsRows w0 W2 h g S s2 er2 :=
  ⟨hK.blk hi.1 hi.2.2.1 (by simp), hi.2.1, hi.2.2.1, hI⟩
theorem IsRows.c0 {w0 W : World} {h g : Nat} {S s : ByteArray} {er : Int} (hi : IsRows w0 W h g S s er) : W.cell? ⟨h, 0, none⟩ = some (.pointer (some ⟨g, 0, none⟩)) := (blk_cell hi.1 0).trans rfl
theorem IsRows.c1 {w0 W : World} {h g : Nat} {S s : ByteArray} {er : Int} (hi : IsRows w0 W h g S s er) : W.cell? ⟨h, 1, none⟩ = some (.string S) := (blk_cell hi.1 1).trans rfl
set_option maxRecDepth 100000 in
set_option maxHeartbeats 2000000 in
theorem rows_at.calls (h g : Nat) (S s : ByteArray) (er : Int) (w0 w : World) (hI : IsRows w0 w h g S s er) (hB : Below w0.heap.size w0 w) :
    Calls Try.prog 59 #[.pointer (some ⟨h, 0, none⟩)] w fun e w' => e = .returned (.int .i64 (wrap64 ((S.size : Int) - s.size))) ∧ IsRows w0 w' h g S s er ∧ Below w0.heap.size w0 w' ∧ KeepBut w w' g none := by
  have HI := Lib.hid hI
  have HB := Lib.hid hB
  have hc0 := hI.c0
  have hc1 := hI.c1
  have HL : pack_Reader_Left.f s er = some ((s.size : Int), s, er) := rfl
  clear hI hB
  go_enter Try.func59, Try.ntmps59
  go_wp2
  go_region_with (go_at_call 69; refine (pack_Reader_Left.calls g s er _ _ _ w0 _ ?_ ?_ HL).mono ?_; (exact HI.out.2.2.2); (exact ⟨HB.out.os, HB.out.tape, HB.out.output, HB.out.size, HB.out.block⟩); (rintro e w2 ⟨rfl, hI2, hB2, hK2⟩; have hR2 := HI.out.keep (W2 := w2) hI2 hK2; have hd0 := hR2.c0; have hd1 := hR2.c1; have HR2 := Lib.hid hR2; have HB2 := Lib.hid hB2; have HK2 := Lib.hid (show KeepBut w w2 g none from hK2); clear hI2 hB2 hK2 hR2))
  all_goals go_wp2
  all_goals go_ret
  all_goals exact ⟨congrArg (fun z => Ending.returned (.int .i64 z)) (i64_w _), HR2.out, HB2.out, HK2.out⟩
/-- A text off a place, of at most 64 bytes. -/
def takeS (S : ByteArray) (at_ : Int) : ByteArray × Int × Int :=
  if at_ < 0 ∨ (S.size : Int) < at_ then (⟨#[]⟩, 0, 1) else
  if (numR (S.extract at_.toNat S.size, 0)).2.2 ≠ 0 then (⟨#[]⟩, 0, (numR (S.extract at_.toNat S.size, 0)).2.2) else
  if 64 < (numR (S.extract at_.toNat S.size, 0)).1 then (⟨#[]⟩, 0, 10) else
  if ((numR (S.extract at_.toNat S.size, 0)).2.1.size : Int) < (numR (S.extract at_.toNat S.size, 0)).1 then (⟨#[]⟩, 0, 2) else
  if validS ((numR (S.extract at_.toNat S.size, 0)).2.1.extract 0 (numR (S.extract at_.toNat S.size, 0)).1.toNat).data.toList then
    ((numR (S.extract at_.toNat S.size, 0)).2.1.extract 0 (numR (S.extract at_.toNat S.size, 0)).1.toNat, wrap64 ((S.size : Int) - ((numR (S.extract at_.toNat S.size, 0)).2.1.extract (numR (S.extract at_.toNat S.size, 0)).1.toNat (numR (S.extract at_.toNat S.size, 0)).2.1.size).size), 0)
  else (⟨#[]⟩, 0, 4)
theorem numR_nonneg (q : ByteArray × Int) : 0 ≤ (numR q).1 := by
  unfold numR
  split
  · split
    · exact Int.natCast_nonneg _
    · exact Int.le_refl _
  · exact Int.le_refl _
theorem numR_size (q : ByteArray × Int) : (numR q).2.1.size ≤ q.1.size := by
  unfold numR
  split
  · split
    · simp [ByteArray.size_extract]
    · exact Nat.le_refl _
  · exact Nat.le_refl _
theorem u64w {n : Int} (h0 : 0 ≤ n) (h1 : n ≤ 9223372036854775807) : IntKind.u64.wrap n = n := by simp [IntKind.wrap, IntKind.bits, IntKind.signed]; omega
theorem w64 {n : Int} (h0 : 0 ≤ n) (h1 : n ≤ 9223372036854775807) : wrap64 n = n := by unfold wrap64; omega
theorem take_f (S : ByteArray) (at_ : Int) (hS : S.size ≤ 9223372036854775807) : word_Take.f 2 S at_ 64 = some ((takeS S at_).1, (takeS S at_).2.1, (takeS S at_).2.2) := by
  unfold takeS
  obtain ⟨q, hq⟩ : ∃ q, q = numR (S.extract at_.toNat S.size, 0) := ⟨_, rfl⟩
  have hn := num_f (S.extract at_.toNat S.size) 0
  have h0 := numR_nonneg (S.extract at_.toNat S.size, 0)
  have h1 := numR_size (S.extract at_.toNat S.size, 0)
  have h2 : (S.extract at_.toNat S.size).size ≤ S.size := by rw [ByteArray.size_extract]; omega
  rw [← hq] at hn h0 h1
  rw [← hq]
  dsimp only at h1
  unfold word_Take.f
  by_cases c1 : at_ < 0
  · rw [if_pos c1, if_pos (.inl c1), word_Take.j0, if_pos rfl]
  · rw [if_neg c1]
    by_cases c2 : (S.size : Int) < at_
    · rw [if_pos (.inr c2), decide_eq_true c2, word_Take.j0, if_pos rfl]
    · rw [if_neg (by omega), decide_eq_false c2, word_Take.j0, if_neg (by decide), if_pos (by omega), if_pos (by omega)]
      simp only [pack_New.f, Option.bind_some, hn, pack_Reader_Err.f]
      by_cases c3 : q.2.2 = 0
      · rw [if_pos c3, if_neg (by decide), if_neg (by simp [c3]), u64w (by omega) (by omega)]
        by_cases c4 : 64 < q.1
        · rw [if_pos c4, decide_eq_true c4, word_Take.j1, if_pos rfl]
        · rw [if_neg c4, decide_eq_false c4, word_Take.j1, if_neg (by decide)]
          simp only [pack_Reader_Left.f, Option.bind_some]
          rw [u64w (by omega) (by omega)]
          by_cases c5 : (q.2.1.size : Int) < q.1
          · rw [if_pos c5, if_pos c5]
          · rw [if_neg c5, if_neg c5, w64 h0 (by omega)]
            unfold pack_Reader_Take.f
            rw [if_pos c3, if_pos ⟨h0, by omega⟩]
            simp only [Option.bind_some]
            unfold word_Valid.f
            rw [if_pos (by rw [ByteArray.size_extract]; omega)]
            simp only [Option.bind_some]
            split
            · rfl
            · rfl
      · rw [if_neg c3, if_pos (by simpa using c3)]
end Go.Proofs.Ytfcndhajcikgiaa.B
namespace Go.Proofs.Ytfcndhajcikgiaa.B
open Go.RowKit Go.Proofs.Sp Go.Proofs.Fl Go.Proofs.YtfcndhajcikgiaaW.PrintWords Go.Proofs.YtfcndhajcikgiaaW.PrintLast Go.Proofs.YtfcndhajcikgiaaW.PrintMore
/-- Bytes off a reader. -/
def takeR (q : ByteArray × Int) (n : Int) : ByteArray × ByteArray × Int :=
  if q.2 = 0 then (if 0 ≤ n ∧ n ≤ q.1.size then (q.1.extract 0 n.toNat, q.1.extract n.toNat q.1.size, 0) else (⟨#[]⟩, q.1, 2)) else (⟨#[]⟩, q.1, q.2)
theorem takeR_f (s : ByteArray) (er n : Int) : pack_Reader_Take.f s er n = some ((takeR (s, er) n).1, (takeR (s, er) n).2.1, (takeR (s, er) n).2.2) := by
  unfold pack_Reader_Take.f takeR
  dsimp only
  split
  · split
    · rfl
    · rfl
  · rfl
/-- A number of eight bytes off a reader. -/
def fixR (q : ByteArray × Int) : Nat × ByteArray × Int :=
  (backV (upto (backF (fun j => (takeR q 8).1.data.toList.getD j 0) (takeR q 8).1.size) (takeR q 8).1.size), (takeR q 8).2)
theorem fixR_f (s : ByteArray) (er : Int) : pack_Reader_Fix.f s er = some (((fixR (s, er)).1 : Int), (fixR (s, er)).2.1, (fixR (s, er)).2.2) := by
  unfold pack_Reader_Fix.f
  rw [takeR_f]
  rfl
theorem takeR_size (q : ByteArray × Int) (n : Int) (hn : n = 8) : (takeR q n).1.size ≤ 8 := by
  subst hn
  unfold takeR
  split
  · split
    · simp only [ByteArray.size_extract]; omega
    · show (0 : Nat) ≤ 8; omega
  · show (0 : Nat) ≤ 8; omega
theorem fixR_lt (q : ByteArray × Int) : (fixR q).1 < 2 ^ 64 := by
  have h := backV_lt (backF (fun j => (takeR q 8).1.data.toList.getD j 0) (takeR q 8).1.size) (takeR q 8).1.size
  have h2 : 256 ^ (takeR q 8).1.size ≤ 256 ^ 8 := Nat.pow_le_pow_right (by decide) (takeR_size q 8 rfl)
  exact Nat.lt_of_lt_of_le h h2
/-- Canon, plain. -/
def canonB (b : Nat) : Bool := decide (b % 2 ^ 63 ≤ 2047 * 2 ^ 52) || decide (b = 9221120237041090560)
theorem canon_f {b : Nat} (hb : b < 2 ^ 64) : bits_Canon.f (b : Int) = some (canonB b) := by
  unfold bits_Canon.f canonB
  rw [and11 b hb, and52 b hb]
  by_cases h1 : b / 2 ^ 52 % 2 ^ 11 = 2047
  · rw [if_pos (by omega)]
    by_cases h2 : b % 2 ^ 52 = 0
    · rw [if_pos (by omega), decide_eq_true (by omega)]; rfl
    · rw [if_neg (by omega), decide_eq_false (by omega), Bool.false_or]
      congr 1
      by_cases h3 : b = 9221120237041090560
      · rw [decide_eq_true h3, h3]; rfl
      · rw [decide_eq_false h3, beq_eq_false_iff_ne]; omega
  · rw [if_neg (by omega), decide_eq_true (by omega)]; rfl
/-- A move that may be, but for its rank. -/
def oneB (c r p ch : Int) (name : ByteArray) : Bool :=
  decide (1 ≤ c) && decide (c ≤ 4611686018427387903) && decide (1 ≤ r) && decide (r ≤ 255) && decide (1 ≤ ch) && decide (ch ≤ 2147483647) && decide (0 ≤ p) && decide (p ≤ 2147483647) && decide (name.size ≤ 64) && validS name.data.toList
theorem one_f (c r p ch : Int) (name : ByteArray) (y : Nat) : moves_One.f c r p ch name y = some (oneB c r p ch name) := by
  unfold moves_One.f oneB
  simp only [moves_Row.f, tree_One.f, word_Valid.f, Option.bind_some]
  by_cases c1 : c ≥ 1
  · rw [if_pos c1, decide_eq_true (show 1 ≤ c from c1)]
    by_cases c2 : c ≤ 4611686018427387903
    · rw [if_pos c2, decide_eq_true c2]
      by_cases c3 : r ≥ 1
      · rw [if_pos c3, decide_eq_true (show 1 ≤ r from c3)]
        by_cases c4 : r ≤ 255
        · rw [if_pos c4, decide_eq_true c4]
          by_cases c5 : ch ≥ 1
          · rw [if_pos c5, decide_eq_true (show 1 ≤ ch from c5)]
            by_cases c6 : ch ≤ 2147483647
            · rw [if_pos c6, decide_eq_true c6]
              by_cases c7 : p ≥ 0
              · rw [if_pos c7, decide_eq_true (show 0 ≤ p from c7)]
                by_cases c8 : p ≤ 2147483647
                · rw [if_pos c8, decide_eq_true c8]
                  by_cases c9 : (name.size : Int) ≤ 64
                  · rw [if_pos c9, if_pos (by omega), decide_eq_true (show name.size ≤ 64 by omega)]
                    rfl
                  · rw [if_neg c9, decide_eq_false (show ¬ name.size ≤ 64 by omega)]; rfl
                · rw [if_neg c8, decide_eq_false c8]; rfl
              · rw [if_neg c7, decide_eq_false (show ¬ 0 ≤ p from c7)]; rfl
            · rw [if_neg c6, decide_eq_false c6]; rfl
          · rw [if_neg c5, decide_eq_false (show ¬ 1 ≤ ch from c5)]; rfl
        · rw [if_neg c4, decide_eq_false c4]; rfl
      · rw [if_neg c3, decide_eq_false (show ¬ 1 ≤ r from c3)]; rfl
    · rw [if_neg c2, decide_eq_false c2]; rfl
  · rw [if_neg c1, decide_eq_false (show ¬ 1 ≤ c from c1)]; rfl
/-- One move off a reader: it, or none; an error; the rest. -/
structure MoveS where
  c : Int
  r : Int
  p : Int
  ch : Int
  name : ByteArray
  rank : Nat
def moveR (S : ByteArray) (q : ByteArray × Int) : Option MoveS × Int × (ByteArray × Int) :=
  let f := fourAt q 4
  if f.q.2 ≠ 0 then (none, f.q.2, f.q) else
  let a := wrap64 ((S.size : Int) - f.q.1.size)
  let t := takeS S a
  if t.2.2 ≠ 0 then (none, t.2.2, f.q) else
  let x := fixR (takeR f.q (wrap64 (t.2.1 - a))).2
  if x.2.2 ≠ 0 then (none, x.2.2, x.2) else
  if f.ok && canonB x.1 && oneB f.a f.b f.c f.d t.1 then (some { c := f.a, r := f.b, p := f.c, ch := f.d, name := t.1, rank := x.1 }, 0, x.2) else (none, 5, x.2)
def zeroMove : Array Value := #[.int .i64 0, .int .i64 0, .int .i64 0, .int .i64 0, .string ⟨#[]⟩, .float .f64 0]
/-- What move answers. -/
def MoveOf (w0 w : World) (h g : Nat) (S : ByteArray) (m : Option MoveS × Int × (ByteArray × Int)) (e : Ending) (w' : World) : Prop :=
  (match m.1 with
    | none => e = .returned (.tuple #[.agg zeroMove, .int .i64 m.2.1])
    | some x => ∃ y, FloatOf x.rank y ∧ e = .returned (.tuple #[.agg #[.int .i64 x.c, .int .i64 x.r, .int .i64 x.p, .int .i64 x.ch, .string x.name, .float .f64 y], .int .i64 0])) ∧
  IsRows w0 w' h g S m.2.2.1 m.2.2.2 ∧ Below w0.heap.size w0 w' ∧ KeepBut w w' g none
/-- In the midst of move: the reader, the world, the result's variable. -/
def St (w0 w W : World) (h g : Nat) (S s : ByteArray) (e : Int) : Prop :=
  IsRows w0 W h g S s e ∧ Below w0.heap.size w0 W ∧ KeepBut w W g none ∧ W.heap[w.heap.size]? = some (.cells zeroMove 30 (0, 0)) ∧ h < w.heap.size ∧ g < w.heap.size ∧ w0.heap.size ≤ w.heap.size
theorem IsRows.alloc {w0 W : World} {h g : Nat} {S s : ByteArray} {e : Int} (hi : IsRows w0 W h g S s e) (o : Obj) : IsRows w0 (W.alloc o) h g S s e := ⟨blk_alloc hi.1 o, hi.2.1, hi.2.2.1, hi.2.2.2.alloc o⟩
theorem St.start {w0 w : World} {h g : Nat} {S s : ByteArray} {e : Int} (hi : IsRows w0 w h g S s e) (hb : Below w0.heap.size w0 w) : St w0 w (w.alloc (.cells zeroMove 30)) h g S s e :=
  ⟨hi.alloc _, below_alloc hb _, keep_alloc (KeepBut.refl _ _ _) _, heap_alloc_new w _, blk_lt hi.1, hi.2.2.2.lt, hb.size⟩
theorem St.alloc {w0 w W : World} {h g : Nat} {S s : ByteArray} {e : Int} (hi : St w0 w W h g S s e) (o : Obj) : St w0 w (W.alloc o) h g S s e :=
  ⟨hi.1.alloc o, below_alloc hi.2.1 o, keep_alloc hi.2.2.1 o, blk_alloc hi.2.2.2.1 o, hi.2.2.2.2⟩
theorem St.call {w0 w W W2 : World} {h g : Nat} {S s s2 : ByteArray} {e e2 : Int} (hi : St w0 w W h g S s e) (h1 : IsS85 w0 W2 g s2 e2) (h2 : Below w0.heap.size w0 W2) (h3 : KeepBut W W2 g none) : St w0 w W2 h g S s2 e2 :=
  ⟨hi.1.keep h1 h3, h2, hi.2.2.1.trans h3 (.inl rfl), h3.blk hi.2.2.2.1 (by have := hi.2.2.2.2.2.1; omega) (by simp), hi.2.2.2.2⟩
theorem St.below {w0 w W W2 : World} {h g : Nat} {S s : ByteArray} {e : Int} (hi : St w0 w W h g S s e) (h2 : Below W.heap.size W W2) : St w0 w W2 h g S s e :=
  ⟨⟨(h2.block _ (blk_lt hi.1.1)).trans hi.1.1, hi.1.2.1, hi.1.2.2.1, hi.1.2.2.2.below h2⟩, hi.2.1.trans (h2.mono hi.2.1.size), hi.2.2.1.trans (KeepBut.of_below h2 g none) (.inl rfl), (h2.block _ (blk_lt hi.2.2.2.1)).trans hi.2.2.2.1, hi.2.2.2.2⟩
/-- The result's variable, written. -/
abbrev stored (W : World) (B : Nat) (v0 v1 v2 v3 v4 v5 : Value) : World := (((((W.setCell ⟨B, 0, none⟩ v0).setCell ⟨B, 1, none⟩ v1).setCell ⟨B, 2, none⟩ v2).setCell ⟨B, 3, none⟩ v3).setCell ⟨B, 4, none⟩ v4).setCell ⟨B, 5, none⟩ v5
theorem IsRows.far {w0 W : World} {h g : Nat} {S s : ByteArray} {e : Int} (hi : IsRows w0 W h g S s e) {B : Nat} (h1 : h ≠ B) (h2 : g ≠ B) (j : Nat) (u : Value) : IsRows w0 (W.setCell ⟨B, j, none⟩ u) h g S s e := ⟨blk_far hi.1 h1 u, hi.2.1, hi.2.2.1, hi.2.2.2.far h2 u⟩
theorem St.ret {w0 w W : World} {h g : Nat} {S s : ByteArray} {e : Int} (hi : St w0 w W h g S s e) (v0 v1 v2 v3 v4 v5 : Value) :
    (stored W w.heap.size v0 v1 v2 v3 v4 v5).heap[w.heap.size]? = some (.cells #[v0, v1, v2, v3, v4, v5] 30 (0, 0)) ∧ IsRows w0 (stored W w.heap.size v0 v1 v2 v3 v4 v5) h g S s e ∧ Below w0.heap.size w0 (stored W w.heap.size v0 v1 v2 v3 v4 v5) ∧ KeepBut w (stored W w.heap.size v0 v1 v2 v3 v4 v5) g none := by
  obtain ⟨h1, h2, h3, h4, hh, hg, h0⟩ := hi
  have e1 : h ≠ w.heap.size := by omega
  have e2 : g ≠ w.heap.size := by omega
  refine ⟨blk_set (blk_set (blk_set (blk_set (blk_set (blk_set h4 0 _) 1 _) 2 _) 3 _) 4 _) 5 _, ?_, ?_, ?_⟩
  · exact (((((h1.far e1 e2 _ _).far e1 e2 _ _).far e1 e2 _ _).far e1 e2 _ _).far e1 e2 _ _).far e1 e2 _ _
  · exact below_set (g := w.heap.size) (below_set (g := w.heap.size) (below_set (g := w.heap.size) (below_set (g := w.heap.size) (below_set (g := w.heap.size) (below_set (g := w.heap.size) h2 h0) h0) h0) h0) h0) h0
  · exact keep_far (keep_far (keep_far (keep_far (keep_far (keep_far h3 (by simp) _) (by simp) _) (by simp) _) (by simp) _) (by simp) _) (by simp) _
/-- Behind the move's own variable. -/
def PackM (w0 w W : World) (X h g : Nat) (S s : ByteArray) (e : Int) (cs : Array Value) : Prop :=
  St w0 w W h g S s e ∧ W.heap[X]? = some (.cells cs 30 (0, 0)) ∧ X ≠ w.heap.size
theorem PackM.below {w0 w W W2 : World} {X h g : Nat} {S s : ByteArray} {e : Int} {cs : Array Value} (hi : PackM w0 w W X h g S s e cs) (h2 : Below W.heap.size W W2) : PackM w0 w W2 X h g S s e cs :=
  ⟨hi.1.below h2, (h2.block _ (blk_lt hi.2.1)).trans hi.2.1, hi.2.2⟩
theorem PackM.new {w0 w W : World} {h g : Nat} {S s : ByteArray} {e : Int} (cs : Array Value) (hi : St w0 w W h g S s e) : PackM w0 w (W.alloc (.cells cs 30)) W.heap.size h g S s e cs :=
  ⟨hi.alloc _, heap_alloc_new _ _, by have := blk_lt hi.2.2.2.1; omega⟩
theorem St.far {w0 w W : World} {h g : Nat} {S s : ByteArray} {e : Int} (hi : St w0 w W h g S s e) {B : Nat} (hB : w.heap.size < B) (j : Nat) (u : Value) : St w0 w (W.setCell ⟨B, j, none⟩ u) h g S s e := by
  obtain ⟨h1, h2, h3, h4, hh, hg, h0⟩ := hi
  exact ⟨h1.far (by omega) (by omega) _ _, below_set (g := B) h2 (by omega), keep_far h3 (by simp; omega) _, blk_far h4 (by simp; omega) _, hh, hg, h0⟩
theorem PackM.put {w0 w W : World} {X h g : Nat} {S s : ByteArray} {e : Int} (hi : St w0 w W h g S s e) (hX : W.heap[X]? = some (.cells zeroMove 30 (0, 0))) (hw : w.heap.size < X) (v0 v1 v2 v3 v4 v5 : Value) : PackM w0 w (stored W X v0 v1 v2 v3 v4 v5) X h g S s e #[v0, v1, v2, v3, v4, v5] :=
  ⟨(((((hi.far hw 0 v0).far hw 1 v1).far hw 2 v2).far hw 3 v3).far hw 4 v4).far hw 5 v5, blk_set (blk_set (blk_set (blk_set (blk_set (blk_set hX 0 _) 1 _) 2 _) 3 _) 4 _) 5 _, by omega⟩
theorem size_move : (Try.prog.info? 30).map (·.size) = some 6 := by kernel_rfl
theorem MoveOf.none {w0 w w' : World} {h g : Nat} {S : ByteArray} {m : Option MoveS × Int × (ByteArray × Int)} {er : Int} {s : ByteArray} {e : Int} (hm : m = (Option.none, er, (s, e))) (hi : IsRows w0 w' h g S s e ∧ Below w0.heap.size w0 w' ∧ KeepBut w w' g Option.none) :
    MoveOf w0 w h g S m (.returned (.tuple #[.agg zeroMove, .int .i64 er])) w' := by subst hm; exact ⟨rfl, hi⟩
theorem MoveOf.some {w0 w w' : World} {h g : Nat} {S : ByteArray} {m : Option MoveS × Int × (ByteArray × Int)} {x : MoveS} {s : ByteArray} {e : Int} {y : Nat} (hm : m = (Option.some x, 0, (s, e))) (hy : FloatOf x.rank y) (hi : IsRows w0 w' h g S s e ∧ Below w0.heap.size w0 w' ∧ KeepBut w w' g Option.none) :
    MoveOf w0 w h g S m (.returned (.tuple #[.agg #[.int .i64 x.c, .int .i64 x.r, .int .i64 x.p, .int .i64 x.ch, .string x.name, .float .f64 y], .int .i64 0])) w' := by subst hm; exact ⟨⟨y, hy, rfl⟩, hi⟩
end Go.Proofs.Ytfcndhajcikgiaa.B
