/- RowsWrites: for every input the law returns true, and the input reads behind the call as it read before. (Part 10 of 11.) -/
import Derived.Test.YtfcndhajcikgiaaKWrites9
set_option linter.unusedVariables false
set_option linter.unusedSimpArgs false
namespace Go.Proofs.Ytfcndhajcikgiaa.B
open Go.RowKit Go.Proofs.YtfcndhajcikgiaaW.PrintWords Go.Proofs.YtfcndhajcikgiaaW.PrintLast Go.Proofs.YtfcndhajcikgiaaW.PrintMore
def bonsairef03_Put.l0 : Nat → Int → List Int → Option (ByteArray)
  | 0, _, _ => none
  | k + 1, x0, x3 => if x0 > 127 then (if x3.length < 140737488355328 then (bonsairef03_Put.l0 k (IntKind.u64.wrap (Int.tdiv x0 128)) (x3 ++ [((Int.tmod x0 128) + 128) % 256])) else (none)) else (if x3.length < 140737488355328 then (some (strOfNums (x3 ++ [(x0) % 256]))) else (none))
def bonsairef03_Put.f (k : Nat) (a0 : Int) : Option (ByteArray) := bonsairef03_Put.l0 k a0 (([] : List Int))
theorem bonsairef03_Put.mono_l : ∀ k, (∀ y0 y1, LeO (bonsairef03_Put.l0 k y0 y1) (bonsairef03_Put.l0 (k + 1) y0 y1))
  | 0 => fun _ _ r h => by simp [bonsairef03_Put.l0] at h
  | k + 1 => by
    have ih0 := bonsairef03_Put.mono_l k
    · intro y0 y1
      unfold bonsairef03_Put.l0
      repeat' first
      | (with_reducible exact ih0 _ _)
      | (with_reducible exact LeO.refl _)
      | (with_reducible exact LeO.none _)
      | (with_reducible refine LeO.ite ?_ ?_)
      | (with_reducible refine LeO.bind ?_ (fun _ => ?_))
      | exact ih0 _ _
      | exact LeO.none _
      | refine LeO.ite ?_ ?_
      | refine LeO.bind ?_ (fun _ => ?_)
theorem bonsairef03_Put.mono : ∀ a0 k, LeO (bonsairef03_Put.f k a0) (bonsairef03_Put.f (k + 1) a0) := by
  intro a0 k
  have ih0 := bonsairef03_Put.mono_l k
  unfold bonsairef03_Put.f
  repeat' first
      | (with_reducible exact ih0 _ _)
      | (with_reducible exact LeO.refl _)
      | (with_reducible exact LeO.none _)
      | (with_reducible refine LeO.ite ?_ ?_)
      | (with_reducible refine LeO.bind ?_ (fun _ => ?_))
      | exact ih0 _ _
      | exact LeO.none _
      | refine LeO.ite ?_ ?_
      | refine LeO.bind ?_ (fun _ => ?_)
set_option maxHeartbeats 8000000 in
set_option maxRecDepth 100000 in
theorem bonsairef03_Put.calls (k : Nat) (a0 : Int) (r : ByteArray) (w : World) (h : bonsairef03_Put.f k a0 = some r) :
    Calls Try.prog 24 #[.int .u64 a0] w fun e w' => e = .returned (.string r) ∧ Below w.heap.size w w' := by
  have HB := Aside0.mk (Below.refl w.heap.size w)
  have H : (bonsairef03_Put.l0 k a0 (([] : List Int))) = some r := h
  clear h
  obtain ⟨y102, hy102⟩ : ∃ y_ : List Int, y_ = (([] : List Int)) := ⟨_, rfl⟩
  replace H : (bonsairef03_Put.l0 k a0 y102) = some r := by first | (rw [hy102]; with_reducible exact H) | (have H2_ := (Option.bind_some _ _).symm.trans H; rw [hy102]; with_reducible exact H2_) | (have H2_ := (Option.bind_some _ _).symm.trans H; with_reducible exact H2_) | with_reducible exact H | (rw [hy102]; exact H) | exact H
  have Ny102 := Aside0.mk hy102
  clear hy102
  have H' := Aside0.mk H
  clear H
  go_enter Try.func24, Try.ntmps24
  go_wp2_with (first | ((with_reducible refine gate_dst (N := 4) rfl ?_); refine Kd.R_lit (Kd.int .u8) _ 5 ?hg (N := 4) ?hd (xs := ([] : List Int)) (inner := []) (ok := fun _ => True) (okp := fun _ => True) ?hr ?hp (fun _ hk => hk) trivial (Below.refl _ _) (Nat.le_refl _) (by simp) ?_; (case hd => rfl); (case hg => rfl); (case hr => first | (go_simp; done) | (go_simp; rfl)); (case hp => exact (Reps.none _ _)); intro v103 w2 ho3 hb hg_ hnew_; clear hg_ hnew_; (first | rw [← Ny102.out] at ho3 | (simp only [Int.reduceToNat] at ho3; rw [← Ny102.out] at ho3)); have n0_ := Aside0.mk (Kd.R_lower ho3 (below_size (by repeat (first | (with_reducible first | exact HB.out | apply below_alloc | apply pw_below_drewN | apply below_drew1) | exact HB.out)))); have n1_ := Aside0.mk (below_step (by repeat (first | (with_reducible first | exact HB.out | apply below_alloc | apply pw_below_drewN | apply below_drew1) | exact HB.out)) hb); clear HB; have HO104 := n0_; have HB := n1_; clear n0_ n1_; clear hb ho3))
  go_loopg [0, 3] k (fun kq v0 v3 w' => ∃ (x0_1 : Int) (x3_1 : List Int), v0 = .int .u64 x0_1 ∧ Aside0 (bonsairef03_Put.l0 kq x0_1 x3_1 = some r) ∧ Aside0 (kq ≤ k) ∧ Aside0 (Kd.R (Kd.int .u8) 5 w' w.heap.size (fun _ => True) v3 x3_1) ∧ Aside0 (Below w.heap.size w w'))
  case atStart => exact ⟨(a0), (y102), (by first | rfl | (simp; done) | (simp [*]; done)), H', ⟨Nat.le_refl _⟩, ⟨by (with_reducible repeat (first | apply Kd.R_alloc | apply Kd.R_drewN | apply Kd.R_drew)); exact HO104.out⟩, ⟨by repeat (first | (with_reducible first | exact HB.out | apply below_alloc | apply pw_below_drewN | apply below_drew1) | exact HB.out)⟩⟩
  case round =>
    clear H'
    try clear c2
    try clear p2
    obtain ⟨x0_1, x3_1, rfl, HA, HK1, HO_3, HB⟩ := hrel
    cases gk with
    | zero => exact absurd HA.out (by simp [bonsairef03_Put.l0])
    | succ k1 =>
      have H := HA.out
      clear HA
      simp only [bonsairef03_Put.l0] at H
      by_cases c4 : x0_1 > 127
      · rw [if_pos c4] at H
        have c4b0 : decide (127 < x0_1) = true := decide_eq_true c4
        clear c4
        by_cases c5 : x3_1.length < 140737488355328
        · rw [if_pos c5] at H
          have LMc5 := Aside0.mk c5
          clear c5
          obtain ⟨y105, hy105⟩ : ∃ y_ : List Int, y_ = (x3_1 ++ [((Int.tmod x0_1 128) + 128) % 256]) := ⟨_, rfl⟩
          replace H : (bonsairef03_Put.l0 k1 (IntKind.u64.wrap (Int.tdiv x0_1 128)) y105) = some r := by first | (rw [hy105]; with_reducible exact H) | (have H2_ := (Option.bind_some _ _).symm.trans H; rw [hy105]; with_reducible exact H2_) | (have H2_ := (Option.bind_some _ _).symm.trans H; with_reducible exact H2_) | with_reducible exact H | (rw [hy105]; exact H) | exact H
          have Ny105 := Aside0.mk hy105
          clear hy105
          have H' := Aside0.mk H
          clear H
          go_wp2_with (first | ((with_reducible refine gate_builtin (b := .append) (xs := #[.tmp 7, .tmp 12]) rfl ?_); at_builtin; refine Kd.R_append (Kd.int .u8) (w0 := w) w.heap.size rfl (.tmp 7) (.tmp 12) 42 5 (.int .u8 0) 1 rfl Try.underlying42 info5 rfl (by decide) (by omega) u3 x3_1 (((Int.tmod x0_1 128) + 128) % 256) [.int .u8 (((Int.tmod x0_1 128) + 128) % 256)] (fun _ => True) (fun _ => False) rfl rfl ?aP (fun _ hk => hk.elim) ?aF ?aO ?aB ?aS ?aL ?_; (case aP => exact rfl); (case aB => exact (by repeat (first | (with_reducible first | exact HB.out | apply below_alloc | apply pw_below_drewN | apply below_drew1) | exact HB.out))); (case aF => exact (fun _ _ => trivial)); (case aO => exact (by (with_reducible repeat (first | apply Kd.R_alloc | apply Kd.R_drewN | apply Kd.R_drew)); exact HO_3.out)); (case aS => exact (below_size (by repeat (first | (with_reducible first | exact HB.out | apply below_alloc | apply pw_below_drewN | apply below_drew1) | exact HB.out)))); (case aL => have := LMc5.out; omega); intro v106 w6 ho hb hg hat; rw [← Ny105.out] at ho; have n0_ := Aside0.mk (hb); have n1_ := Aside0.mk (ho); clear HB; clear HO_3; have HB := n0_; have HO107 := n1_; clear n0_ n1_; clear ho hb hg hat))
          go_roundg k1
          case measure => have := HK1.out; omega
          case rel => exact ⟨(IntKind.u64.wrap (Int.tdiv x0_1 128)), (y105), (by first | rfl | (simp; done) | (simp [*]; done)), H', ⟨by have := HK1.out; omega⟩, ⟨by (with_reducible repeat (first | apply Kd.R_alloc | apply Kd.R_drewN | apply Kd.R_drew)); exact HO107.out⟩, ⟨by repeat (first | (with_reducible first | exact HB.out | apply below_alloc | apply pw_below_drewN | apply below_drew1) | exact HB.out)⟩⟩
        · rw [if_neg c5] at H
          exact absurd H (by simp)
      · rw [if_neg c4] at H
        have c4b0 : decide (127 < x0_1) = false := decide_eq_false c4
        clear c4
        by_cases c7 : x3_1.length < 140737488355328
        · rw [if_pos c7] at H
          have LMc7 := Aside0.mk c7
          clear c7
          obtain ⟨y108, hy108⟩ : ∃ y_ : List Int, y_ = (x3_1 ++ [(x0_1) % 256]) := ⟨_, rfl⟩
          replace H : (some (strOfNums y108)) = some r := by first | (rw [hy108]; with_reducible exact H) | (have H2_ := (Option.bind_some _ _).symm.trans H; rw [hy108]; with_reducible exact H2_) | (have H2_ := (Option.bind_some _ _).symm.trans H; with_reducible exact H2_) | with_reducible exact H | (rw [hy108]; exact H) | exact H
          have Ny108 := Aside0.mk hy108
          clear hy108
          obtain rfl := Option.some.inj H
          go_wp2_with (first | ((with_reducible refine gate_builtin (b := .append) (xs := #[.tmp 16, .tmp 19]) rfl ?_); at_builtin; refine Kd.R_append (Kd.int .u8) (w0 := w) w.heap.size rfl (.tmp 16) (.tmp 19) 42 5 (.int .u8 0) 1 rfl Try.underlying42 info5 rfl (by decide) (by omega) u3 x3_1 ((x0_1) % 256) [.int .u8 ((x0_1) % 256)] (fun _ => True) (fun _ => False) rfl rfl ?aP (fun _ hk => hk.elim) ?aF ?aO ?aB ?aS ?aL ?_; (case aP => exact rfl); (case aB => exact (by repeat (first | (with_reducible first | exact HB.out | apply below_alloc | apply pw_below_drewN | apply below_drew1) | exact HB.out))); (case aF => exact (fun _ _ => trivial)); (case aO => exact (by (with_reducible repeat (first | apply Kd.R_alloc | apply Kd.R_drewN | apply Kd.R_drew)); exact HO_3.out)); (case aS => exact (below_size (by repeat (first | (with_reducible first | exact HB.out | apply below_alloc | apply pw_below_drewN | apply below_drew1) | exact HB.out)))); (case aL => have := LMc7.out; omega); intro v109 w8 ho hb hg hat; rw [← Ny108.out] at ho; have n0_ := Aside0.mk (hb); have n1_ := Aside0.mk (ho); clear HB; clear HO_3; have HB := n0_; have HO110 := n1_; clear n0_ n1_; clear ho hb hg hat; have hcv9 := own_string (P := Try.prog) Try.underlying42 Try.underlying5 Try.underlying9 (Kd.own_of_R HO110.out)))
          go_ret
          exact ⟨by first | rfl | (simp [errW_none, errW_some] <;> rfl) | (simp [*, errW_none, errW_some] <;> rfl), by repeat (first | (with_reducible first | exact HB.out | apply below_alloc | apply pw_below_drewN | apply below_drew1) | exact HB.out)⟩
        · rw [if_neg c7] at H
          exact absurd H (by simp)
end Go.Proofs.Ytfcndhajcikgiaa.B
namespace Go.Proofs.Ytfcndhajcikgiaa.B
open Go.RowKit Go.Proofs.YtfcndhajcikgiaaW.PrintWords Go.Proofs.YtfcndhajcikgiaaW.PrintLast Go.Proofs.YtfcndhajcikgiaaW.PrintMore
def bonsairef04_Put.f (k : Nat) (a0 : ByteArray) : Option (ByteArray) := (bonsairef03_Put.f k (a0.size : Int)).bind fun t111 => (if t111.size + a0.size ≤ 9223372036854775807 then (some (t111 ++ a0)) else (none))
theorem bonsairef04_Put.mono : ∀ a0 k, LeO (bonsairef04_Put.f k a0) (bonsairef04_Put.f (k + 1) a0) := by
  intro a0 k
  unfold bonsairef04_Put.f
  repeat' first
      | (with_reducible exact bonsairef03_Put.mono _ _)
      | (with_reducible exact LeO.refl _)
      | (with_reducible exact LeO.none _)
      | (with_reducible refine LeO.ite ?_ ?_)
      | (with_reducible refine LeO.bind ?_ (fun _ => ?_))
      | exact bonsairef03_Put.mono _ _
      | exact LeO.none _
      | refine LeO.ite ?_ ?_
      | refine LeO.bind ?_ (fun _ => ?_)
set_option maxHeartbeats 8000000 in
set_option maxRecDepth 100000 in
theorem bonsairef04_Put.calls (k : Nat) (a0 : ByteArray) (r : ByteArray) (w : World) (h : bonsairef04_Put.f k a0 = some r) :
    Calls Try.prog 25 #[.string a0] w fun e w' => e = .returned (.string r) ∧ Below w.heap.size w w' := by
  have HB := Aside0.mk (Below.refl w.heap.size w)
  have H : ((bonsairef03_Put.f k (a0.size : Int)).bind fun t111 => (if t111.size + a0.size ≤ 9223372036854775807 then (some (t111 ++ a0)) else (none))) = some r := h
  clear h
  replace H := Option.bind_eq_some_iff.mp H
  obtain ⟨t111, A20, H⟩ := H
  replace H : (if t111.size + a0.size ≤ 9223372036854775807 then (some (t111 ++ a0)) else (none)) = some r := H
  have A2 := Aside0.mk A20
  clear A20
  by_cases c3 : t111.size + a0.size ≤ 9223372036854775807
  · rw [if_pos c3] at H
    have c3b0 := eq_true c3
    have c3b1 : decide (t111.size + a0.size ≤ 9223372036854775807) = true := decide_eq_true c3
    try have c3b2 : (9223372036854775807 < t111.size + a0.size) = False := eq_false (Nat.not_lt.2 c3)
    obtain rfl := Option.some.inj H
    go_enter Try.func25, Try.ntmps25
    go_wp2_with (first | ((with_reducible refine gate_callee (f := 24) rfl ?_); refine goesL_ (some 6) rfl rfl Try.func24 (by kernel_rfl) rfl #[.int .u64 (a0.size : Int)] rfl (by (try simp only [List.map_toArray, List.map_cons, List.map_nil]); first | done | rfl | (simp only [List.length_drop, List.length_take]; rfl)) ?_; (with_reducible refine (bonsairef03_Put.calls k (a0.size : Int) t111 _ A2.out).mono ?_); rintro e w4 ⟨rfl, hb⟩; refine ⟨_, rfl, ?_⟩; have n0_ := Aside0.mk (below_step (by repeat (first | (with_reducible first | exact HB.out | apply below_alloc | apply pw_below_drewN | apply below_drew1) | exact HB.out)) hb); clear HB; have HB := n0_; clear n0_; (try clear hb); (try clear hb2); (try clear hk); (try clear hi)))
    go_ret
    exact ⟨by first | rfl | (simp [errW_none, errW_some] <;> rfl) | (simp [*, errW_none, errW_some] <;> rfl), by repeat (first | (with_reducible first | exact HB.out | apply below_alloc | apply pw_below_drewN | apply below_drew1) | exact HB.out)⟩
  · rw [if_neg c3] at H
    exact absurd H (by simp)
end Go.Proofs.Ytfcndhajcikgiaa.B
namespace Go.Proofs.Ytfcndhajcikgiaa.B
open Go.RowKit Go.Proofs.YtfcndhajcikgiaaW.PrintWords Go.Proofs.YtfcndhajcikgiaaW.PrintLast Go.Proofs.YtfcndhajcikgiaaW.PrintMore
def bonsairef03_Fixed.l0 : Nat → Int → List Int → Int → Option (ByteArray)
  | 0, _, _, _ => none
  | k + 1, x0, x3, x4 => if x4 < 8 then (if x3.length < 140737488355328 then (bonsairef03_Fixed.l0 k (IntKind.u64.wrap (Int.tdiv x0 256)) (x3 ++ [(Int.tmod x0 256) % 256]) (wrap64 (x4 + 1))) else (none)) else (some (strOfNums x3))
def bonsairef03_Fixed.f (k : Nat) (a0 : Int) : Option (ByteArray) := bonsairef03_Fixed.l0 k a0 (([] : List Int)) 0
theorem bonsairef03_Fixed.mono_l : ∀ k, (∀ y0 y1 y2, LeO (bonsairef03_Fixed.l0 k y0 y1 y2) (bonsairef03_Fixed.l0 (k + 1) y0 y1 y2))
  | 0 => fun _ _ _ r h => by simp [bonsairef03_Fixed.l0] at h
  | k + 1 => by
    have ih0 := bonsairef03_Fixed.mono_l k
    · intro y0 y1 y2
      unfold bonsairef03_Fixed.l0
      repeat' first
      | (with_reducible exact ih0 _ _ _)
      | (with_reducible exact LeO.refl _)
      | (with_reducible exact LeO.none _)
      | (with_reducible refine LeO.ite ?_ ?_)
      | (with_reducible refine LeO.bind ?_ (fun _ => ?_))
      | exact ih0 _ _ _
      | exact LeO.none _
      | refine LeO.ite ?_ ?_
      | refine LeO.bind ?_ (fun _ => ?_)
theorem bonsairef03_Fixed.mono : ∀ a0 k, LeO (bonsairef03_Fixed.f k a0) (bonsairef03_Fixed.f (k + 1) a0) := by
  intro a0 k
  have ih0 := bonsairef03_Fixed.mono_l k
  unfold bonsairef03_Fixed.f
  repeat' first
      | (with_reducible exact ih0 _ _ _)
      | (with_reducible exact LeO.refl _)
      | (with_reducible exact LeO.none _)
      | (with_reducible refine LeO.ite ?_ ?_)
      | (with_reducible refine LeO.bind ?_ (fun _ => ?_))
      | exact ih0 _ _ _
      | exact LeO.none _
      | refine LeO.ite ?_ ?_
      | refine LeO.bind ?_ (fun _ => ?_)
set_option maxHeartbeats 8000000 in
set_option maxRecDepth 100000 in
theorem bonsairef03_Fixed.calls (k : Nat) (a0 : Int) (r : ByteArray) (w : World) (h : bonsairef03_Fixed.f k a0 = some r) :
    Calls Try.prog 26 #[.int .u64 a0] w fun e w' => e = .returned (.string r) ∧ Below w.heap.size w w' := by
  have HB := Aside0.mk (Below.refl w.heap.size w)
  have H : (bonsairef03_Fixed.l0 k a0 (([] : List Int)) 0) = some r := h
  clear h
  obtain ⟨y112, hy112⟩ : ∃ y_ : List Int, y_ = (([] : List Int)) := ⟨_, rfl⟩
  replace H : (bonsairef03_Fixed.l0 k a0 y112 0) = some r := by first | (rw [hy112]; with_reducible exact H) | (have H2_ := (Option.bind_some _ _).symm.trans H; rw [hy112]; with_reducible exact H2_) | (have H2_ := (Option.bind_some _ _).symm.trans H; with_reducible exact H2_) | with_reducible exact H | (rw [hy112]; exact H) | exact H
  have Ny112 := Aside0.mk hy112
  clear hy112
  have H' := Aside0.mk H
  clear H
  go_enter Try.func26, Try.ntmps26
  go_wp2_with (first | ((with_reducible refine gate_dst (N := 5) rfl ?_); refine Kd.R_lit (Kd.int .u8) _ 5 ?hg (N := 5) ?hd (xs := ([] : List Int)) (inner := []) (ok := fun _ => True) (okp := fun _ => True) ?hr ?hp (fun _ hk => hk) trivial (Below.refl _ _) (Nat.le_refl _) (by simp) ?_; (case hd => rfl); (case hg => rfl); (case hr => first | (go_simp; done) | (go_simp; rfl)); (case hp => exact (Reps.none _ _)); intro v113 w2 ho3 hb hg_ hnew_; clear hg_ hnew_; (first | rw [← Ny112.out] at ho3 | (simp only [Int.reduceToNat] at ho3; rw [← Ny112.out] at ho3)); have n0_ := Aside0.mk (Kd.R_lower ho3 (below_size (by repeat (first | (with_reducible first | exact HB.out | apply below_alloc | apply pw_below_drewN | apply below_drew1) | exact HB.out)))); have n1_ := Aside0.mk (below_step (by repeat (first | (with_reducible first | exact HB.out | apply below_alloc | apply pw_below_drewN | apply below_drew1) | exact HB.out)) hb); clear HB; have HO114 := n0_; have HB := n1_; clear n0_ n1_; clear hb ho3))
  go_loopg [0, 3, 4] k (fun kq v0 v3 v4 w' => ∃ (x0_1 : Int) (x3_1 : List Int) (x4_1 : Int), v0 = .int .u64 x0_1 ∧ v4 = .int .i64 x4_1 ∧ Aside0 (bonsairef03_Fixed.l0 kq x0_1 x3_1 x4_1 = some r) ∧ Aside0 (kq ≤ k) ∧ Aside0 (Kd.R (Kd.int .u8) 5 w' w.heap.size (fun _ => True) v3 x3_1) ∧ Aside0 (Below w.heap.size w w'))
  case atStart => exact ⟨(a0), (y112), (0), (by first | rfl | (simp; done) | (simp [*]; done)), (by first | rfl | (simp; done) | (simp [*]; done)), H', ⟨Nat.le_refl _⟩, ⟨by (with_reducible repeat (first | apply Kd.R_alloc | apply Kd.R_drewN | apply Kd.R_drew)); exact HO114.out⟩, ⟨by repeat (first | (with_reducible first | exact HB.out | apply below_alloc | apply pw_below_drewN | apply below_drew1) | exact HB.out)⟩⟩
  case round =>
    clear H'
    try clear c2
    try clear p2
    obtain ⟨x0_1, x3_1, x4_1, rfl, rfl, HA, HK1, HO_3, HB⟩ := hrel
    cases gk with
    | zero => exact absurd HA.out (by simp [bonsairef03_Fixed.l0])
    | succ k1 =>
      have H := HA.out
      clear HA
      simp only [bonsairef03_Fixed.l0] at H
      by_cases c4 : x4_1 < 8
      · rw [if_pos c4] at H
        have c4b0 : decide (x4_1 < 8) = true := decide_eq_true c4
        clear c4
        by_cases c5 : x3_1.length < 140737488355328
        · rw [if_pos c5] at H
          have LMc5 := Aside0.mk c5
          clear c5
          obtain ⟨y115, hy115⟩ : ∃ y_ : List Int, y_ = (x3_1 ++ [(Int.tmod x0_1 256) % 256]) := ⟨_, rfl⟩
          replace H : (bonsairef03_Fixed.l0 k1 (IntKind.u64.wrap (Int.tdiv x0_1 256)) y115 (wrap64 (x4_1 + 1))) = some r := by first | (rw [hy115]; with_reducible exact H) | (have H2_ := (Option.bind_some _ _).symm.trans H; rw [hy115]; with_reducible exact H2_) | (have H2_ := (Option.bind_some _ _).symm.trans H; with_reducible exact H2_) | with_reducible exact H | (rw [hy115]; exact H) | exact H
          have Ny115 := Aside0.mk hy115
          clear hy115
          have H' := Aside0.mk H
          clear H
          go_wp2_with (first | ((with_reducible refine gate_builtin (b := .append) (xs := #[.tmp 10, .tmp 14]) rfl ?_); at_builtin; refine Kd.R_append (Kd.int .u8) (w0 := w) w.heap.size rfl (.tmp 10) (.tmp 14) 42 5 (.int .u8 0) 1 rfl Try.underlying42 info5 rfl (by decide) (by omega) u3 x3_1 ((Int.tmod x0_1 256) % 256) [.int .u8 ((Int.tmod x0_1 256) % 256)] (fun _ => True) (fun _ => False) rfl rfl ?aP (fun _ hk => hk.elim) ?aF ?aO ?aB ?aS ?aL ?_; (case aP => exact rfl); (case aB => exact (by repeat (first | (with_reducible first | exact HB.out | apply below_alloc | apply pw_below_drewN | apply below_drew1) | exact HB.out))); (case aF => exact (fun _ _ => trivial)); (case aO => exact (by (with_reducible repeat (first | apply Kd.R_alloc | apply Kd.R_drewN | apply Kd.R_drew)); exact HO_3.out)); (case aS => exact (below_size (by repeat (first | (with_reducible first | exact HB.out | apply below_alloc | apply pw_below_drewN | apply below_drew1) | exact HB.out)))); (case aL => have := LMc5.out; omega); intro v116 w6 ho hb hg hat; rw [← Ny115.out] at ho; have n0_ := Aside0.mk (hb); have n1_ := Aside0.mk (ho); clear HB; clear HO_3; have HB := n0_; have HO117 := n1_; clear n0_ n1_; clear ho hb hg hat))
          go_roundg k1
          case measure => have := HK1.out; omega
          case rel => exact ⟨(IntKind.u64.wrap (Int.tdiv x0_1 256)), (y115), (wrap64 (x4_1 + 1)), (by first | rfl | (simp; done) | (simp [*]; done)), (by first | rfl | (simp; done) | (simp [*]; done)), H', ⟨by have := HK1.out; omega⟩, ⟨by (with_reducible repeat (first | apply Kd.R_alloc | apply Kd.R_drewN | apply Kd.R_drew)); exact HO117.out⟩, ⟨by repeat (first | (with_reducible first | exact HB.out | apply below_alloc | apply pw_below_drewN | apply below_drew1) | exact HB.out)⟩⟩
        · rw [if_neg c5] at H
          exact absurd H (by simp)
      · rw [if_neg c4] at H
        have c4b0 : decide (x4_1 < 8) = false := decide_eq_false c4
        clear c4
        obtain rfl := Option.some.inj H
        have hcv7 := own_string (P := Try.prog) Try.underlying42 Try.underlying5 Try.underlying9 (Kd.own_of_R HO_3.out)
        go_wp2
        go_ret
        exact ⟨by first | rfl | (simp [errW_none, errW_some] <;> rfl) | (simp [*, errW_none, errW_some] <;> rfl), by repeat (first | (with_reducible first | exact HB.out | apply below_alloc | apply pw_below_drewN | apply below_drew1) | exact HB.out)⟩
end Go.Proofs.Ytfcndhajcikgiaa.B
namespace Go.Proofs.Ytfcndhajcikgiaa.B
open Go.RowKit Go.Proofs.YtfcndhajcikgiaaW.PrintWords Go.Proofs.YtfcndhajcikgiaaW.PrintLast Go.Proofs.YtfcndhajcikgiaaW.PrintMore
def bonsairef21_One.f (k : Nat) (a0_0 : Int) (a0_1 : Int) (a0_2 : Int) (a0_3 : Int) (a0_4 : ByteArray) (a0_5 : Nat) : Option (ByteArray) := (bonsairef03_Put.f k (IntKind.u64.wrap (a0_0))).bind fun t119 => ((bonsairef03_Put.f k (IntKind.u64.wrap (a0_1))).bind fun t120 => (if t119.size + t120.size ≤ 9223372036854775807 then ((bonsairef03_Put.f k (IntKind.u64.wrap (a0_2))).bind fun t121 => (if (t119 ++ t120).size + t121.size ≤ 9223372036854775807 then ((bonsairef03_Put.f k (IntKind.u64.wrap (a0_3))).bind fun t122 => (if ((t119 ++ t120) ++ t121).size + t122.size ≤ 9223372036854775807 then ((bonsairef04_Put.f k a0_4).bind fun t123 => (if (((t119 ++ t120) ++ t121) ++ t122).size + t123.size ≤ 9223372036854775807 then ((bonsairef01_Bits.f a0_5).bind fun t124 => ((bonsairef03_Fixed.f k t124).bind fun t125 => (if ((((t119 ++ t120) ++ t121) ++ t122) ++ t123).size + t125.size ≤ 9223372036854775807 then (some (((((t119 ++ t120) ++ t121) ++ t122) ++ t123) ++ t125)) else (none)))) else (none))) else (none))) else (none))) else (none)))
theorem bonsairef21_One.mono : ∀ a0 a1 a2 a3 a4 a5 k, LeO (bonsairef21_One.f k a0 a1 a2 a3 a4 a5) (bonsairef21_One.f (k + 1) a0 a1 a2 a3 a4 a5) := by
  intro a0 a1 a2 a3 a4 a5 k
  unfold bonsairef21_One.f
  repeat' first
      | (with_reducible exact bonsairef03_Fixed.mono _ _)
      | (with_reducible exact bonsairef03_Put.mono _ _)
      | (with_reducible exact bonsairef04_Put.mono _ _)
      | (with_reducible exact LeO.refl _)
      | (with_reducible exact LeO.none _)
      | (with_reducible refine LeO.ite ?_ ?_)
      | (with_reducible refine LeO.bind ?_ (fun _ => ?_))
      | exact bonsairef03_Fixed.mono _ _
      | exact bonsairef03_Put.mono _ _
      | exact bonsairef04_Put.mono _ _
      | exact LeO.none _
      | refine LeO.ite ?_ ?_
      | refine LeO.bind ?_ (fun _ => ?_)
def bonsairef21_One.T1 : Bool × List (List Nat × List Nat) := (true, [([], []), ([0], [0]), ([1], [1]), ([2], [2]), ([3], [3]), ([], []), ([5], [5]), ([6], [6]), ([7], [7]), ([8, 4], [8]), ([4, 9], [4, 9]), ([], []), ([11], [11]), ([12], [12]), ([13, 9], [13]), ([10, 14], [10, 14]), ([], []), ([16], [16]), ([17], [17]), ([18, 14], [18]), ([15, 19], [15, 19]), ([20, 19, 0, 1, 2, 3, 4, 5, 6, 7, 8, 9, 10, 11, 12, 13, 14, 15, 16, 17, 18, 19, 20], [20])])
def bonsairef21_One.B1 : List Nat := [0, 1, 3, 7, 15, 0, 32, 96, 224, 511, 1023, 0, 2048, 6144, 15359, 32767, 0, 65536, 196608, 490495, 1048575, 2097151]
theorem bonsairef21_One.tab1 : rtab .any (opsOf Try.f10 1) = bonsairef21_One.T1 := by kernel_rfl
theorem bonsairef21_One.bits1 : waitsOk bonsairef21_One.T1.2 bonsairef21_One.B1 = true := by kernel_rfl
def bonsairef21_One.T2 : Bool × List (List Nat × List Nat) := (true, [([], []), ([], []), ([1], [1]), ([2], [2]), ([0, 3], [0, 3]), ([], []), ([5], [5]), ([6, 3], [6]), ([7, 7], [7]), ([4, 8], [4, 8]), ([9, 8, 0, 1, 2, 3, 4, 5, 6, 7, 8, 9], [9])])
def bonsairef21_One.B2 : List Nat := [0, 0, 2, 6, 15, 0, 32, 110, 238, 511, 1023]
theorem bonsairef21_One.tab2 : rtab .any (opsOf Try.f10 2) = bonsairef21_One.T2 := by kernel_rfl
theorem bonsairef21_One.bits2 : waitsOk bonsairef21_One.T2.2 bonsairef21_One.B2 = true := by kernel_rfl
set_option maxHeartbeats 8000000 in
set_option maxRecDepth 100000 in
theorem bonsairef21_One.calls (k : Nat) (a0_0 : Int) (a0_1 : Int) (a0_2 : Int) (a0_3 : Int) (a0_4 : ByteArray) (a0_5 : Nat) (r : ByteArray) (w : World) (h : bonsairef21_One.f k a0_0 a0_1 a0_2 a0_3 a0_4 a0_5 = some r) :
    Calls Try.prog 10 #[.agg #[.int .i64 a0_0, .int .i64 a0_1, .int .i64 a0_2, .int .i64 a0_3, .string a0_4, .float .f64 a0_5]] w fun e w' => e = .returned (.string r) ∧ Below w.heap.size w w' := by
  have hu30 := Try.underlying30
  have HB := Aside0.mk (Below.refl w.heap.size w)
  have H : ((bonsairef03_Put.f k (IntKind.u64.wrap (a0_0))).bind fun t119 => ((bonsairef03_Put.f k (IntKind.u64.wrap (a0_1))).bind fun t120 => (if t119.size + t120.size ≤ 9223372036854775807 then ((bonsairef03_Put.f k (IntKind.u64.wrap (a0_2))).bind fun t121 => (if (t119 ++ t120).size + t121.size ≤ 9223372036854775807 then ((bonsairef03_Put.f k (IntKind.u64.wrap (a0_3))).bind fun t122 => (if ((t119 ++ t120) ++ t121).size + t122.size ≤ 9223372036854775807 then ((bonsairef04_Put.f k a0_4).bind fun t123 => (if (((t119 ++ t120) ++ t121) ++ t122).size + t123.size ≤ 9223372036854775807 then ((bonsairef01_Bits.f a0_5).bind fun t124 => ((bonsairef03_Fixed.f k t124).bind fun t125 => (if ((((t119 ++ t120) ++ t121) ++ t122) ++ t123).size + t125.size ≤ 9223372036854775807 then (some (((((t119 ++ t120) ++ t121) ++ t122) ++ t123) ++ t125)) else (none)))) else (none))) else (none))) else (none))) else (none)))) = some r := h
  clear h
  replace H := Option.bind_eq_some_iff.mp H
  obtain ⟨t119, A20, H⟩ := H
  replace H : ((bonsairef03_Put.f k (IntKind.u64.wrap (a0_1))).bind fun t120 => (if t119.size + t120.size ≤ 9223372036854775807 then ((bonsairef03_Put.f k (IntKind.u64.wrap (a0_2))).bind fun t121 => (if (t119 ++ t120).size + t121.size ≤ 9223372036854775807 then ((bonsairef03_Put.f k (IntKind.u64.wrap (a0_3))).bind fun t122 => (if ((t119 ++ t120) ++ t121).size + t122.size ≤ 9223372036854775807 then ((bonsairef04_Put.f k a0_4).bind fun t123 => (if (((t119 ++ t120) ++ t121) ++ t122).size + t123.size ≤ 9223372036854775807 then ((bonsairef01_Bits.f a0_5).bind fun t124 => ((bonsairef03_Fixed.f k t124).bind fun t125 => (if ((((t119 ++ t120) ++ t121) ++ t122) ++ t123).size + t125.size ≤ 9223372036854775807 then (some (((((t119 ++ t120) ++ t121) ++ t122) ++ t123) ++ t125)) else (none)))) else (none))) else (none))) else (none))) else (none))) = some r := H
  have A2 := Aside0.mk A20
  clear A20
  replace H := Option.bind_eq_some_iff.mp H
  obtain ⟨t120, A30, H⟩ := H
  replace H : (if t119.size + t120.size ≤ 9223372036854775807 then ((bonsairef03_Put.f k (IntKind.u64.wrap (a0_2))).bind fun t121 => (if (t119 ++ t120).size + t121.size ≤ 9223372036854775807 then ((bonsairef03_Put.f k (IntKind.u64.wrap (a0_3))).bind fun t122 => (if ((t119 ++ t120) ++ t121).size + t122.size ≤ 9223372036854775807 then ((bonsairef04_Put.f k a0_4).bind fun t123 => (if (((t119 ++ t120) ++ t121) ++ t122).size + t123.size ≤ 9223372036854775807 then ((bonsairef01_Bits.f a0_5).bind fun t124 => ((bonsairef03_Fixed.f k t124).bind fun t125 => (if ((((t119 ++ t120) ++ t121) ++ t122) ++ t123).size + t125.size ≤ 9223372036854775807 then (some (((((t119 ++ t120) ++ t121) ++ t122) ++ t123) ++ t125)) else (none)))) else (none))) else (none))) else (none))) else (none)) = some r := H
  have A3 := Aside0.mk A30
  clear A30
  by_cases c4 : t119.size + t120.size ≤ 9223372036854775807
  · rw [if_pos c4] at H
    have c4b0 := eq_true c4
    have c4b1 : decide (t119.size + t120.size ≤ 9223372036854775807) = true := decide_eq_true c4
    try have c4b2 : (9223372036854775807 < t119.size + t120.size) = False := eq_false (Nat.not_lt.2 c4)
    replace H := Option.bind_eq_some_iff.mp H
    obtain ⟨t121, A50, H⟩ := H
    replace H : (if (t119 ++ t120).size + t121.size ≤ 9223372036854775807 then ((bonsairef03_Put.f k (IntKind.u64.wrap (a0_3))).bind fun t122 => (if ((t119 ++ t120) ++ t121).size + t122.size ≤ 9223372036854775807 then ((bonsairef04_Put.f k a0_4).bind fun t123 => (if (((t119 ++ t120) ++ t121) ++ t122).size + t123.size ≤ 9223372036854775807 then ((bonsairef01_Bits.f a0_5).bind fun t124 => ((bonsairef03_Fixed.f k t124).bind fun t125 => (if ((((t119 ++ t120) ++ t121) ++ t122) ++ t123).size + t125.size ≤ 9223372036854775807 then (some (((((t119 ++ t120) ++ t121) ++ t122) ++ t123) ++ t125)) else (none)))) else (none))) else (none))) else (none)) = some r := H
    have A5 := Aside0.mk A50
    clear A50
    by_cases c6 : (t119 ++ t120).size + t121.size ≤ 9223372036854775807
    · rw [if_pos c6] at H
      have c6b0 := eq_true c6
      have c6b1 : decide ((t119 ++ t120).size + t121.size ≤ 9223372036854775807) = true := decide_eq_true c6
      try have c6b2 : (9223372036854775807 < (t119 ++ t120).size + t121.size) = False := eq_false (Nat.not_lt.2 c6)
      try have c6b3 : (9223372036854775807 < t119.size + t120.size + t121.size) = False := by have h_ := c6b2; simp only [ByteArray.size_append] at h_; exact h_
      replace H := Option.bind_eq_some_iff.mp H
      obtain ⟨t122, A70, H⟩ := H
      replace H : (if ((t119 ++ t120) ++ t121).size + t122.size ≤ 9223372036854775807 then ((bonsairef04_Put.f k a0_4).bind fun t123 => (if (((t119 ++ t120) ++ t121) ++ t122).size + t123.size ≤ 9223372036854775807 then ((bonsairef01_Bits.f a0_5).bind fun t124 => ((bonsairef03_Fixed.f k t124).bind fun t125 => (if ((((t119 ++ t120) ++ t121) ++ t122) ++ t123).size + t125.size ≤ 9223372036854775807 then (some (((((t119 ++ t120) ++ t121) ++ t122) ++ t123) ++ t125)) else (none)))) else (none))) else (none)) = some r := H
      have A7 := Aside0.mk A70
      clear A70
      by_cases c8 : ((t119 ++ t120) ++ t121).size + t122.size ≤ 9223372036854775807
      · rw [if_pos c8] at H
        have c8b0 := eq_true c8
        have c8b1 : decide (((t119 ++ t120) ++ t121).size + t122.size ≤ 9223372036854775807) = true := decide_eq_true c8
        try have c8b2 : (9223372036854775807 < ((t119 ++ t120) ++ t121).size + t122.size) = False := eq_false (Nat.not_lt.2 c8)
        try have c8b3 : (9223372036854775807 < t119.size + t120.size + t121.size + t122.size) = False := by have h_ := c8b2; simp only [ByteArray.size_append] at h_; exact h_
        replace H := Option.bind_eq_some_iff.mp H
        obtain ⟨t123, A90, H⟩ := H
        replace H : (if (((t119 ++ t120) ++ t121) ++ t122).size + t123.size ≤ 9223372036854775807 then ((bonsairef01_Bits.f a0_5).bind fun t124 => ((bonsairef03_Fixed.f k t124).bind fun t125 => (if ((((t119 ++ t120) ++ t121) ++ t122) ++ t123).size + t125.size ≤ 9223372036854775807 then (some (((((t119 ++ t120) ++ t121) ++ t122) ++ t123) ++ t125)) else (none)))) else (none)) = some r := H
        have A9 := Aside0.mk A90
        clear A90
        by_cases c10 : (((t119 ++ t120) ++ t121) ++ t122).size + t123.size ≤ 9223372036854775807
        · rw [if_pos c10] at H
          have c10b0 := eq_true c10
          have c10b1 : decide ((((t119 ++ t120) ++ t121) ++ t122).size + t123.size ≤ 9223372036854775807) = true := decide_eq_true c10
          try have c10b2 : (9223372036854775807 < (((t119 ++ t120) ++ t121) ++ t122).size + t123.size) = False := eq_false (Nat.not_lt.2 c10)
          try have c10b3 : (9223372036854775807 < t119.size + t120.size + t121.size + t122.size + t123.size) = False := by have h_ := c10b2; simp only [ByteArray.size_append] at h_; exact h_
          replace H := Option.bind_eq_some_iff.mp H
          obtain ⟨t124, A110, H⟩ := H
          replace H : ((bonsairef03_Fixed.f k t124).bind fun t125 => (if ((((t119 ++ t120) ++ t121) ++ t122) ++ t123).size + t125.size ≤ 9223372036854775807 then (some (((((t119 ++ t120) ++ t121) ++ t122) ++ t123) ++ t125)) else (none))) = some r := H
          have A11 := Aside0.mk A110
          clear A110
          replace H := Option.bind_eq_some_iff.mp H
          obtain ⟨t125, A120, H⟩ := H
          replace H : (if ((((t119 ++ t120) ++ t121) ++ t122) ++ t123).size + t125.size ≤ 9223372036854775807 then (some (((((t119 ++ t120) ++ t121) ++ t122) ++ t123) ++ t125)) else (none)) = some r := H
          have A12 := Aside0.mk A120
          clear A120
          by_cases c13 : ((((t119 ++ t120) ++ t121) ++ t122) ++ t123).size + t125.size ≤ 9223372036854775807
          · rw [if_pos c13] at H
            have c13b0 := eq_true c13
            have c13b1 : decide (((((t119 ++ t120) ++ t121) ++ t122) ++ t123).size + t125.size ≤ 9223372036854775807) = true := decide_eq_true c13
            try have c13b2 : (9223372036854775807 < ((((t119 ++ t120) ++ t121) ++ t122) ++ t123).size + t125.size) = False := eq_false (Nat.not_lt.2 c13)
            try have c13b3 : (9223372036854775807 < t119.size + t120.size + t121.size + t122.size + t123.size + t125.size) = False := by have h_ := c13b2; simp only [ByteArray.size_append] at h_; exact h_
            obtain rfl := Option.some.inj H
            go_enter Try.func10, Try.ntmps10
            try go_wp2_with (first | ((with_reducible refine gate_dst (N := 1) rfl ?_); refine box_event ?hg (N := 1) ?hd (cs := #[.int .i64 a0_0, .int .i64 a0_1, .int .i64 a0_2, .int .i64 a0_3, .string a0_4, .float .f64 a0_5]) (t := 30) ?hr ?_; (case hd => rfl); (case hg => rfl); (case hr => first | (go_simp; done) | (go_simp; rfl)); intro gb118 hg w14 hbox hb; have n0_ := Aside0.mk (below_step (by repeat (first | (with_reducible first | exact HB.out | apply below_alloc | apply pw_below_drewN | apply below_drew1) | exact HB.out)) hb); have n1_ := Aside0.mk (hbox); have n2_ := Aside0.mk ((by rw [hg]; exact (below_size (by repeat (first | (with_reducible first | exact HB.out | apply below_alloc | apply pw_below_drewN | apply below_drew1) | exact HB.out))) : w.heap.size ≤ gb118)); have n3_ := Aside0.mk ((by rw [hg]; exact (below_size (by repeat (first | (with_reducible first | exact HB.out | apply below_alloc | apply pw_below_drewN | apply below_drew1) | exact HB.out))) : w.heap.size ≤ gb118)); clear HB; have HB := n0_; have BK118 := n1_; have GW118 := n2_; have GE118 := n3_; clear n0_ n1_ n2_ n3_; clear hb hbox hg))
            have n0_ := Aside0.mk (blk_drew BK118.out)
            have n1_ := Aside0.mk (below_drew1 HB.out)
            clear BK118
            clear HB
            have BK118 := n0_
            have HB := n1_
            clear n0_ n1_
            refine start_ (n := 22) (S := fun w' => w'.cell? ⟨gb118, 0, none⟩ = some (.int .i64 a0_0) ∧ w'.cell? ⟨gb118, 1, none⟩ = some (.int .i64 a0_1) ∧ w'.cell? ⟨gb118, 2, none⟩ = some (.int .i64 a0_2) ∧ w'.cell? ⟨gb118, 3, none⟩ = some (.int .i64 a0_3) ∧ w'.cell? ⟨gb118, 4, none⟩ = some (.string a0_4) ∧ w'.cell? ⟨gb118, 5, none⟩ = some (.float .f64 a0_5)) (ds := []) #[false, false, false, false, false, false, false, false, false, false, false, false, false, false, false, false, false, false, false, false, false, false] (by kernel_rfl) rfl rfl ⟨(blk_cell BK118.out 0).trans rfl, (blk_cell BK118.out 1).trans rfl, (blk_cell BK118.out 2).trans rfl, (blk_cell BK118.out 3).trans rfl, (blk_cell BK118.out 4).trans rfl, (blk_cell BK118.out 5).trans rfl⟩ (fun hHeld => ?_); refine with_tabW bonsairef21_One.tab1 bonsairef21_One.bits1 (fun HT_ HW_ => ?_)
            generalize w14.drew = w15 at BK118 HB hHeld ⊢
            refine pure_ (i := 0) (N := some 4) (v := ?_) (a' := ?_) #[true, false, false, false, false, false, false, false, false, false, false, false, false, false, false, false, false, false, false, false, false, false] rfl rfl (any_of HT_.out (by kernel_rfl)) (fun _ _ _ h => h) (Or.inl ⟨by rfl, ?_⟩) ?_ ?_
            rotate_left
            · intro w'
              go_simp
              with_reducible rfl
            rotate_left
            · simp only [Act.put, List.setIfInBounds_toArray, List.set_cons_zero, List.set_cons_succ, i64_w, i32_w]
              rfl
            refine pure_ (i := 1) (N := some 5) (v := ?_) (a' := ?_) #[true, true, false, false, false, false, false, false, false, false, false, false, false, false, false, false, false, false, false, false, false, false] rfl rfl (any_of HT_.out (by kernel_rfl)) (fun _ _ _ h => h) (Or.inl ⟨by rfl, ?_⟩) ?_ ?_
            rotate_left
            · intro w'
              go_simp
              with_reducible rfl
            rotate_left
            · simp only [Act.put, List.setIfInBounds_toArray, List.set_cons_zero, List.set_cons_succ, i64_w, i32_w]
              rfl
            refine pure_ (i := 5) (N := some 9) (v := ?_) (a' := ?_) #[true, true, false, false, false, true, false, false, false, false, false, false, false, false, false, false, false, false, false, false, false, false] rfl rfl (any_of HT_.out (by kernel_rfl)) (fun _ _ _ h => h) (Or.inl ⟨by rfl, ?_⟩) ?_ ?_
            rotate_left
            · intro w'
              go_simp
              with_reducible rfl
            rotate_left
            · simp only [Act.put, List.setIfInBounds_toArray, List.set_cons_zero, List.set_cons_succ, i64_w, i32_w]
              rfl
            refine pure_ (i := 6) (N := some 10) (v := ?_) (a' := ?_) #[true, true, false, false, false, true, true, false, false, false, false, false, false, false, false, false, false, false, false, false, false, false] rfl rfl (any_of HT_.out (by kernel_rfl)) (fun _ _ _ h => h) (Or.inl ⟨by rfl, ?_⟩) ?_ ?_
            rotate_left
            · intro w'
              go_simp
              with_reducible rfl
            rotate_left
            · simp only [Act.put, List.setIfInBounds_toArray, List.set_cons_zero, List.set_cons_succ, i64_w, i32_w]
              rfl
            refine pure_ (i := 11) (N := some 15) (v := ?_) (a' := ?_) #[true, true, false, false, false, true, true, false, false, false, false, true, false, false, false, false, false, false, false, false, false, false] rfl rfl (any_of HT_.out (by kernel_rfl)) (fun _ _ _ h => h) (Or.inl ⟨by rfl, ?_⟩) ?_ ?_
            rotate_left
            · intro w'
              go_simp
              with_reducible rfl
            rotate_left
            · simp only [Act.put, List.setIfInBounds_toArray, List.set_cons_zero, List.set_cons_succ, i64_w, i32_w]
              rfl
            refine pure_ (i := 16) (N := some 20) (v := ?_) (a' := ?_) #[true, true, false, false, false, true, true, false, false, false, false, true, false, false, false, false, true, false, false, false, false, false] rfl rfl (any_of HT_.out (by kernel_rfl)) (fun _ _ _ h => h) (Or.inl ⟨by rfl, ?_⟩) ?_ ?_
            rotate_left
            · intro w'
              go_simp
              with_reducible rfl
            rotate_left
            · simp only [Act.put, List.setIfInBounds_toArray, List.set_cons_zero, List.set_cons_succ, i64_w, i32_w]
              rfl
            refine take_ (i := 2) (N := some 6) (v := ?_) (a' := ?_) #[true, true, true, false, false, true, true, false, false, false, false, true, false, false, false, false, true, false, false, false, false, false] rfl rfl (take_ofW HT_.out HW_.out (by kernel_rfl)) (fun _ _ _ h => h) (Or.inl ⟨by rfl, ?_⟩) hHeld ?_ ?_
            rotate_left
            · rintro w' ⟨s0, s1, s2, s3, s4, s5⟩
              go_simp
              with_reducible rfl
            rotate_left
            · simp only [Act.put, List.setIfInBounds_toArray, List.set_cons_zero, List.set_cons_succ, i64_w, i32_w]
              rfl
            refine pure_ (i := 3) (N := some 7) (v := ?_) (a' := ?_) #[true, true, true, true, false, true, true, false, false, false, false, true, false, false, false, false, true, false, false, false, false, false] rfl rfl (any_of HT_.out (by kernel_rfl)) (fun _ _ _ h => h) (Or.inl ⟨by rfl, ?_⟩) ?_ ?_
            rotate_left
            · intro w'
              go_simp
              with_reducible rfl
            rotate_left
            · simp only [Act.put, List.setIfInBounds_toArray, List.set_cons_zero, List.set_cons_succ, i64_w, i32_w]
              rfl
            refine take_ (i := 7) (N := some 11) (v := ?_) (a' := ?_) #[true, true, true, true, false, true, true, true, false, false, false, true, false, false, false, false, true, false, false, false, false, false] rfl rfl (take_ofW HT_.out HW_.out (by kernel_rfl)) (fun _ _ _ h => h) (Or.inl ⟨by rfl, ?_⟩) hHeld ?_ ?_
            rotate_left
            · rintro w' ⟨s0, s1, s2, s3, s4, s5⟩
              go_simp
              with_reducible rfl
            rotate_left
            · simp only [Act.put, List.setIfInBounds_toArray, List.set_cons_zero, List.set_cons_succ, i64_w, i32_w]
              rfl
            refine pure_ (i := 8) (N := some 12) (v := ?_) (a' := ?_) #[true, true, true, true, false, true, true, true, true, false, false, true, false, false, false, false, true, false, false, false, false, false] rfl rfl (any_of HT_.out (by kernel_rfl)) (fun _ _ _ h => h) (Or.inl ⟨by rfl, ?_⟩) ?_ ?_
            rotate_left
            · intro w'
              go_simp
              with_reducible rfl
            rotate_left
            · simp only [Act.put, List.setIfInBounds_toArray, List.set_cons_zero, List.set_cons_succ, i64_w, i32_w]
              rfl
            refine take_ (i := 12) (N := some 16) (v := ?_) (a' := ?_) #[true, true, true, true, false, true, true, true, true, false, false, true, true, false, false, false, true, false, false, false, false, false] rfl rfl (take_ofW HT_.out HW_.out (by kernel_rfl)) (fun _ _ _ h => h) (Or.inl ⟨by rfl, ?_⟩) hHeld ?_ ?_
            rotate_left
            · rintro w' ⟨s0, s1, s2, s3, s4, s5⟩
              go_simp
              with_reducible rfl
            rotate_left
            · simp only [Act.put, List.setIfInBounds_toArray, List.set_cons_zero, List.set_cons_succ, i64_w, i32_w]
              rfl
            refine pure_ (i := 13) (N := some 17) (v := ?_) (a' := ?_) #[true, true, true, true, false, true, true, true, true, false, false, true, true, true, false, false, true, false, false, false, false, false] rfl rfl (any_of HT_.out (by kernel_rfl)) (fun _ _ _ h => h) (Or.inl ⟨by rfl, ?_⟩) ?_ ?_
            rotate_left
            · intro w'
              go_simp
              with_reducible rfl
            rotate_left
            · simp only [Act.put, List.setIfInBounds_toArray, List.set_cons_zero, List.set_cons_succ, i64_w, i32_w]
              rfl
            refine take_ (i := 17) (N := some 21) (v := ?_) (a' := ?_) #[true, true, true, true, false, true, true, true, true, false, false, true, true, true, false, false, true, true, false, false, false, false] rfl rfl (take_ofW HT_.out HW_.out (by kernel_rfl)) (fun _ _ _ h => h) (Or.inl ⟨by rfl, ?_⟩) hHeld ?_ ?_
            rotate_left
            · rintro w' ⟨s0, s1, s2, s3, s4, s5⟩
              go_simp
              with_reducible rfl
            rotate_left
            · simp only [Act.put, List.setIfInBounds_toArray, List.set_cons_zero, List.set_cons_succ, i64_w, i32_w]
              rfl
            refine pure_ (i := 18) (N := some 22) (v := ?_) (a' := ?_) #[true, true, true, true, false, true, true, true, true, false, false, true, true, true, false, false, true, true, true, false, false, false] rfl rfl (any_of HT_.out (by kernel_rfl)) (fun _ _ _ h => h) (Or.inl ⟨by rfl, ?_⟩) ?_ ?_
            rotate_left
            · intro w'
              go_simp
              with_reducible rfl
            rotate_left
            · simp only [Act.put, List.setIfInBounds_toArray, List.set_cons_zero, List.set_cons_succ, i64_w, i32_w]
              rfl
            refine one_ (i := 4) (N := some 8) #[true, true, true, true, true, true, true, true, true, false, false, true, true, true, false, false, true, true, true, false, false, false] rfl rfl (one_of HT_.out (by kernel_rfl)) (by decide) (fun K hK => ?_)
            refine goes_ Try.func24 (by kernel_rfl) rfl #[.int .u64 (IntKind.u64.wrap (a0_0))] (by rfl) rfl rfl (by (try simp only [List.map_toArray, List.map_cons, List.map_nil]); first | done | rfl | (simp only [List.length_drop, List.length_take]; rfl)) ?_
            with_reducible refine (bonsairef03_Put.calls k (IntKind.u64.wrap (a0_0)) t119 _ A2.out).mono ?_
            rintro e w16 ⟨rfl, hb⟩
            refine ⟨_, rfl, ?_⟩
            have n0_ := Aside0.mk (blk_below (g := gb118) (o := .cells #[.int .i64 a0_0, .int .i64 a0_1, .int .i64 a0_2, .int .i64 a0_3, .string a0_4, .float .f64 a0_5] 30 (0, 0)) (by (with_reducible repeat (first | refine blk_drewN ?_ _ | refine blk_drew ?_ | refine blk_alloc ?_ _)); exact BK118.out) hb)
            have n1_ := Aside0.mk (below_step (by repeat (first | (with_reducible first | exact HB.out | apply below_alloc | apply pw_below_drewN | apply below_drew1 | refine below_set ?_ GE118.out) | exact HB.out)) hb)
            clear BK118
            clear HB
            have BK118 := n0_
            have HB := n1_
            clear n0_ n1_
            (try clear hb)
            (try clear hb2)
            (try clear hk)
            (try clear hi)
            refine hK.out _ _ ⟨(blk_cell BK118.out 0).trans rfl, (blk_cell BK118.out 1).trans rfl, (blk_cell BK118.out 2).trans rfl, (blk_cell BK118.out 3).trans rfl, (blk_cell BK118.out 4).trans rfl, (blk_cell BK118.out 5).trans rfl⟩ (fun hHeld => ?_)
            clear hK K
            refine norm_ (a' := ?_) ?_ ?_
            rotate_left
            · show Act.put _ (some 8) _ = _
              simp only [Act.put, List.setIfInBounds_toArray, List.set_cons_zero, List.set_cons_succ, i64_w, i32_w]
              rfl
            refine one_ (i := 9) (N := some 13) #[true, true, true, true, true, true, true, true, true, true, false, true, true, true, false, false, true, true, true, false, false, false] rfl rfl (one_of HT_.out (by kernel_rfl)) (by decide) (fun K hK => ?_)
            refine goes_ Try.func24 (by kernel_rfl) rfl #[.int .u64 (IntKind.u64.wrap (a0_1))] (by rfl) rfl rfl (by (try simp only [List.map_toArray, List.map_cons, List.map_nil]); first | done | rfl | (simp only [List.length_drop, List.length_take]; rfl)) ?_
            with_reducible refine (bonsairef03_Put.calls k (IntKind.u64.wrap (a0_1)) t120 _ A3.out).mono ?_
            rintro e w17 ⟨rfl, hb⟩
            refine ⟨_, rfl, ?_⟩
            have n0_ := Aside0.mk (blk_below (g := gb118) (o := .cells #[.int .i64 a0_0, .int .i64 a0_1, .int .i64 a0_2, .int .i64 a0_3, .string a0_4, .float .f64 a0_5] 30 (0, 0)) (by (with_reducible repeat (first | refine blk_drewN ?_ _ | refine blk_drew ?_ | refine blk_alloc ?_ _)); exact BK118.out) hb)
            have n1_ := Aside0.mk (below_step (by repeat (first | (with_reducible first | exact HB.out | apply below_alloc | apply pw_below_drewN | apply below_drew1 | refine below_set ?_ GE118.out) | exact HB.out)) hb)
            clear BK118
            clear HB
            have BK118 := n0_
            have HB := n1_
            clear n0_ n1_
            (try clear hb)
            (try clear hb2)
            (try clear hk)
            (try clear hi)
            refine hK.out _ _ ⟨(blk_cell BK118.out 0).trans rfl, (blk_cell BK118.out 1).trans rfl, (blk_cell BK118.out 2).trans rfl, (blk_cell BK118.out 3).trans rfl, (blk_cell BK118.out 4).trans rfl, (blk_cell BK118.out 5).trans rfl⟩ (fun hHeld => ?_)
            clear hK K
            refine norm_ (a' := ?_) ?_ ?_
            rotate_left
            · show Act.put _ (some 13) _ = _
              simp only [Act.put, List.setIfInBounds_toArray, List.set_cons_zero, List.set_cons_succ, i64_w, i32_w]
              rfl
            refine pure_ (i := 10) (N := some 14) (v := ?_) (a' := ?_) #[true, true, true, true, true, true, true, true, true, true, true, true, true, true, false, false, true, true, true, false, false, false] rfl rfl (any_of HT_.out (by kernel_rfl)) (fun _ _ _ h => h) (Or.inl ⟨by rfl, ?_⟩) ?_ ?_
            rotate_left
            · intro w'
              go_simp
              with_reducible rfl
            rotate_left
            · simp only [Act.put, List.setIfInBounds_toArray, List.set_cons_zero, List.set_cons_succ, i64_w, i32_w]
              rfl
            refine one_ (i := 14) (N := some 18) #[true, true, true, true, true, true, true, true, true, true, true, true, true, true, true, false, true, true, true, false, false, false] rfl rfl (one_of HT_.out (by kernel_rfl)) (by decide) (fun K hK => ?_)
            refine goes_ Try.func24 (by kernel_rfl) rfl #[.int .u64 (IntKind.u64.wrap (a0_2))] (by rfl) rfl rfl (by (try simp only [List.map_toArray, List.map_cons, List.map_nil]); first | done | rfl | (simp only [List.length_drop, List.length_take]; rfl)) ?_
            with_reducible refine (bonsairef03_Put.calls k (IntKind.u64.wrap (a0_2)) t121 _ A5.out).mono ?_
            rintro e w18 ⟨rfl, hb⟩
            refine ⟨_, rfl, ?_⟩
            have n0_ := Aside0.mk (blk_below (g := gb118) (o := .cells #[.int .i64 a0_0, .int .i64 a0_1, .int .i64 a0_2, .int .i64 a0_3, .string a0_4, .float .f64 a0_5] 30 (0, 0)) (by (with_reducible repeat (first | refine blk_drewN ?_ _ | refine blk_drew ?_ | refine blk_alloc ?_ _)); exact BK118.out) hb)
            have n1_ := Aside0.mk (below_step (by repeat (first | (with_reducible first | exact HB.out | apply below_alloc | apply pw_below_drewN | apply below_drew1 | refine below_set ?_ GE118.out) | exact HB.out)) hb)
            clear BK118
            clear HB
            have BK118 := n0_
            have HB := n1_
            clear n0_ n1_
            (try clear hb)
            (try clear hb2)
            (try clear hk)
            (try clear hi)
            refine hK.out _ _ ⟨(blk_cell BK118.out 0).trans rfl, (blk_cell BK118.out 1).trans rfl, (blk_cell BK118.out 2).trans rfl, (blk_cell BK118.out 3).trans rfl, (blk_cell BK118.out 4).trans rfl, (blk_cell BK118.out 5).trans rfl⟩ (fun hHeld => ?_)
            clear hK K
            refine norm_ (a' := ?_) ?_ ?_
            rotate_left
            · show Act.put _ (some 18) _ = _
              simp only [Act.put, List.setIfInBounds_toArray, List.set_cons_zero, List.set_cons_succ, i64_w, i32_w]
              rfl
            refine pure_ (i := 15) (N := some 19) (v := ?_) (a' := ?_) #[true, true, true, true, true, true, true, true, true, true, true, true, true, true, true, true, true, true, true, false, false, false] rfl rfl (any_of HT_.out (by kernel_rfl)) (fun _ _ _ h => h) (Or.inl ⟨by rfl, ?_⟩) ?_ ?_
            rotate_left
            · intro w'
              go_simp
              with_reducible rfl
            rotate_left
            · simp only [Act.put, List.setIfInBounds_toArray, List.set_cons_zero, List.set_cons_succ, i64_w, i32_w]
              rfl
            refine one_ (i := 19) (N := some 23) #[true, true, true, true, true, true, true, true, true, true, true, true, true, true, true, true, true, true, true, true, false, false] rfl rfl (one_of HT_.out (by kernel_rfl)) (by decide) (fun K hK => ?_)
            refine goes_ Try.func24 (by kernel_rfl) rfl #[.int .u64 (IntKind.u64.wrap (a0_3))] (by rfl) rfl rfl (by (try simp only [List.map_toArray, List.map_cons, List.map_nil]); first | done | rfl | (simp only [List.length_drop, List.length_take]; rfl)) ?_
            with_reducible refine (bonsairef03_Put.calls k (IntKind.u64.wrap (a0_3)) t122 _ A7.out).mono ?_
            rintro e w19 ⟨rfl, hb⟩
            refine ⟨_, rfl, ?_⟩
            have n0_ := Aside0.mk (blk_below (g := gb118) (o := .cells #[.int .i64 a0_0, .int .i64 a0_1, .int .i64 a0_2, .int .i64 a0_3, .string a0_4, .float .f64 a0_5] 30 (0, 0)) (by (with_reducible repeat (first | refine blk_drewN ?_ _ | refine blk_drew ?_ | refine blk_alloc ?_ _)); exact BK118.out) hb)
            have n1_ := Aside0.mk (below_step (by repeat (first | (with_reducible first | exact HB.out | apply below_alloc | apply pw_below_drewN | apply below_drew1 | refine below_set ?_ GE118.out) | exact HB.out)) hb)
            clear BK118
            clear HB
            have BK118 := n0_
            have HB := n1_
            clear n0_ n1_
            (try clear hb)
            (try clear hb2)
            (try clear hk)
            (try clear hi)
            refine hK.out _ _ ⟨(blk_cell BK118.out 0).trans rfl, (blk_cell BK118.out 1).trans rfl, (blk_cell BK118.out 2).trans rfl, (blk_cell BK118.out 3).trans rfl, (blk_cell BK118.out 4).trans rfl, (blk_cell BK118.out 5).trans rfl⟩ (fun hHeld => ?_)
            clear hK K
            refine norm_ (a' := ?_) ?_ ?_
            rotate_left
            · show Act.put _ (some 23) _ = _
              simp only [Act.put, List.setIfInBounds_toArray, List.set_cons_zero, List.set_cons_succ, i64_w, i32_w]
              rfl
            refine pure_ (i := 20) (N := some 24) (v := ?_) (a' := ?_) #[true, true, true, true, true, true, true, true, true, true, true, true, true, true, true, true, true, true, true, true, true, false] rfl rfl (any_of HT_.out (by kernel_rfl)) (fun _ _ _ h => h) (Or.inl ⟨by rfl, ?_⟩) ?_ ?_
            rotate_left
            · intro w'
              go_simp
              with_reducible rfl
            rotate_left
            · simp only [Act.put, List.setIfInBounds_toArray, List.set_cons_zero, List.set_cons_succ, i64_w, i32_w]
              rfl
            refine pure_ (i := 21) (N := some 3) (v := ?_) (a' := ?_) #[true, true, true, true, true, true, true, true, true, true, true, true, true, true, true, true, true, true, true, true, true, true] rfl rfl (any_of HT_.out (by kernel_rfl)) (fun _ _ _ h => h) (Or.inl ⟨by rfl, ?_⟩) ?_ ?_
            rotate_left
            · intro w'
              go_simp
              with_reducible rfl
            rotate_left
            · simp only [Act.put, List.setIfInBounds_toArray, List.set_cons_zero, List.set_cons_succ, i64_w, i32_w]
              rfl
            refine done_ (done_of HT_.out (by kernel_rfl)) ?_
            try go_wp2
            have n0_ := Aside0.mk (blk_drew BK118.out)
            have n1_ := Aside0.mk (below_drew1 HB.out)
            clear BK118
            clear HB
            have BK118 := n0_
            have HB := n1_
            clear n0_ n1_
            refine start_ (n := 11) (S := fun w' => w'.cell? ⟨gb118, 0, none⟩ = some (.int .i64 a0_0) ∧ w'.cell? ⟨gb118, 1, none⟩ = some (.int .i64 a0_1) ∧ w'.cell? ⟨gb118, 2, none⟩ = some (.int .i64 a0_2) ∧ w'.cell? ⟨gb118, 3, none⟩ = some (.int .i64 a0_3) ∧ w'.cell? ⟨gb118, 4, none⟩ = some (.string a0_4) ∧ w'.cell? ⟨gb118, 5, none⟩ = some (.float .f64 a0_5)) (ds := []) #[false, false, false, false, false, false, false, false, false, false, false] (by kernel_rfl) rfl rfl ⟨(blk_cell BK118.out 0).trans rfl, (blk_cell BK118.out 1).trans rfl, (blk_cell BK118.out 2).trans rfl, (blk_cell BK118.out 3).trans rfl, (blk_cell BK118.out 4).trans rfl, (blk_cell BK118.out 5).trans rfl⟩ (fun hHeld => ?_); refine with_tabW bonsairef21_One.tab2 bonsairef21_One.bits2 (fun HT_ HW_ => ?_)
            generalize w19.drew = w20 at BK118 HB hHeld ⊢
            refine pure_ (i := 0) (N := some 25) (v := ?_) (a' := ?_) #[true, false, false, false, false, false, false, false, false, false, false] rfl rfl (any_of HT_.out (by kernel_rfl)) (fun _ _ _ h => h) (Or.inl ⟨by rfl, ?_⟩) ?_ ?_
            rotate_left
            · intro w'
              go_simp
              with_reducible rfl
            rotate_left
            · simp only [Act.put, List.setIfInBounds_toArray, List.set_cons_zero, List.set_cons_succ, i64_w, i32_w]
              rfl
            refine pure_ (i := 1) (N := some 26) (v := ?_) (a' := ?_) #[true, true, false, false, false, false, false, false, false, false, false] rfl rfl (any_of HT_.out (by kernel_rfl)) (fun _ _ _ h => h) (Or.inl ⟨by rfl, ?_⟩) ?_ ?_
            rotate_left
            · intro w'
              go_simp
              with_reducible rfl
            rotate_left
            · simp only [Act.put, List.setIfInBounds_toArray, List.set_cons_zero, List.set_cons_succ, i64_w, i32_w]
              rfl
            refine pure_ (i := 5) (N := some 30) (v := ?_) (a' := ?_) #[true, true, false, false, false, true, false, false, false, false, false] rfl rfl (any_of HT_.out (by kernel_rfl)) (fun _ _ _ h => h) (Or.inl ⟨by rfl, ?_⟩) ?_ ?_
            rotate_left
            · intro w'
              go_simp
              with_reducible rfl
            rotate_left
            · simp only [Act.put, List.setIfInBounds_toArray, List.set_cons_zero, List.set_cons_succ, i64_w, i32_w]
              rfl
            refine take_ (i := 2) (N := some 27) (v := ?_) (a' := ?_) #[true, true, true, false, false, true, false, false, false, false, false] rfl rfl (take_ofW HT_.out HW_.out (by kernel_rfl)) (fun _ _ _ h => h) (Or.inl ⟨by rfl, ?_⟩) hHeld ?_ ?_
            rotate_left
            · rintro w' ⟨s0, s1, s2, s3, s4, s5⟩
              go_simp
              with_reducible rfl
            rotate_left
            · simp only [Act.put, List.setIfInBounds_toArray, List.set_cons_zero, List.set_cons_succ, i64_w, i32_w]
              rfl
            refine take_ (i := 6) (N := some 31) (v := ?_) (a' := ?_) #[true, true, true, false, false, true, true, false, false, false, false] rfl rfl (take_ofW HT_.out HW_.out (by kernel_rfl)) (fun _ _ _ h => h) (Or.inl ⟨by rfl, ?_⟩) hHeld ?_ ?_
            rotate_left
            · rintro w' ⟨s0, s1, s2, s3, s4, s5⟩
              go_simp
              with_reducible rfl
            rotate_left
            · simp only [Act.put, List.setIfInBounds_toArray, List.set_cons_zero, List.set_cons_succ, i64_w, i32_w]
              rfl
            refine one_ (i := 3) (N := some 28) #[true, true, true, true, false, true, true, false, false, false, false] rfl rfl (one_of HT_.out (by kernel_rfl)) (by decide) (fun K hK => ?_)
            refine goes_ Try.func25 (by kernel_rfl) rfl #[.string a0_4] (by rfl) rfl rfl (by (try simp only [List.map_toArray, List.map_cons, List.map_nil]); first | done | rfl | (simp only [List.length_drop, List.length_take]; rfl)) ?_
            with_reducible refine (bonsairef04_Put.calls k a0_4 t123 _ A9.out).mono ?_
            rintro e w21 ⟨rfl, hb⟩
            refine ⟨_, rfl, ?_⟩
            have n0_ := Aside0.mk (blk_below (g := gb118) (o := .cells #[.int .i64 a0_0, .int .i64 a0_1, .int .i64 a0_2, .int .i64 a0_3, .string a0_4, .float .f64 a0_5] 30 (0, 0)) (by (with_reducible repeat (first | refine blk_drewN ?_ _ | refine blk_drew ?_ | refine blk_alloc ?_ _)); exact BK118.out) hb)
            have n1_ := Aside0.mk (below_step (by repeat (first | (with_reducible first | exact HB.out | apply below_alloc | apply pw_below_drewN | apply below_drew1 | refine below_set ?_ GE118.out) | exact HB.out)) hb)
            clear BK118
            clear HB
            have BK118 := n0_
            have HB := n1_
            clear n0_ n1_
            (try clear hb)
            (try clear hb2)
            (try clear hk)
            (try clear hi)
            refine hK.out _ _ ⟨(blk_cell BK118.out 0).trans rfl, (blk_cell BK118.out 1).trans rfl, (blk_cell BK118.out 2).trans rfl, (blk_cell BK118.out 3).trans rfl, (blk_cell BK118.out 4).trans rfl, (blk_cell BK118.out 5).trans rfl⟩ (fun hHeld => ?_)
            clear hK K
            refine norm_ (a' := ?_) ?_ ?_
            rotate_left
            · show Act.put _ (some 28) _ = _
              simp only [Act.put, List.setIfInBounds_toArray, List.set_cons_zero, List.set_cons_succ, i64_w, i32_w]
              rfl
            refine pure_ (i := 4) (N := some 29) (v := ?_) (a' := ?_) #[true, true, true, true, true, true, true, false, false, false, false] rfl rfl (any_of HT_.out (by kernel_rfl)) (fun _ _ _ h => h) (Or.inl ⟨by rfl, ?_⟩) ?_ ?_
            rotate_left
            · intro w'
              go_simp
              with_reducible rfl
            rotate_left
            · simp only [Act.put, List.setIfInBounds_toArray, List.set_cons_zero, List.set_cons_succ, i64_w, i32_w]
              rfl
            refine one_ (i := 7) (N := some 32) #[true, true, true, true, true, true, true, true, false, false, false] rfl rfl (one_of HT_.out (by kernel_rfl)) (by decide) (fun K hK => ?_)
            refine goes_ Try.func27 (by kernel_rfl) rfl #[.float .f64 a0_5] (by rfl) rfl rfl (by (try simp only [List.map_toArray, List.map_cons, List.map_nil]); first | done | rfl | (simp only [List.length_drop, List.length_take]; rfl)) ?_
            with_reducible refine (bonsairef01_Bits.calls a0_5 t124 _ A11.out).mono ?_
            rintro e w22 ⟨rfl, hb⟩
            refine ⟨_, rfl, ?_⟩
            have n0_ := Aside0.mk (blk_below (g := gb118) (o := .cells #[.int .i64 a0_0, .int .i64 a0_1, .int .i64 a0_2, .int .i64 a0_3, .string a0_4, .float .f64 a0_5] 30 (0, 0)) (by (with_reducible repeat (first | refine blk_drewN ?_ _ | refine blk_drew ?_ | refine blk_alloc ?_ _)); exact BK118.out) hb)
            have n1_ := Aside0.mk (below_step (by repeat (first | (with_reducible first | exact HB.out | apply below_alloc | apply pw_below_drewN | apply below_drew1 | refine below_set ?_ GE118.out) | exact HB.out)) hb)
            clear BK118
            clear HB
            have BK118 := n0_
            have HB := n1_
            clear n0_ n1_
            (try clear hb)
            (try clear hb2)
            (try clear hk)
            (try clear hi)
            refine hK.out _ _ ⟨(blk_cell BK118.out 0).trans rfl, (blk_cell BK118.out 1).trans rfl, (blk_cell BK118.out 2).trans rfl, (blk_cell BK118.out 3).trans rfl, (blk_cell BK118.out 4).trans rfl, (blk_cell BK118.out 5).trans rfl⟩ (fun hHeld => ?_)
            clear hK K
            refine norm_ (a' := ?_) ?_ ?_
            rotate_left
            · show Act.put _ (some 32) _ = _
              simp only [Act.put, List.setIfInBounds_toArray, List.set_cons_zero, List.set_cons_succ, i64_w, i32_w]
              rfl
            refine one_ (i := 8) (N := some 33) #[true, true, true, true, true, true, true, true, true, false, false] rfl rfl (one_of HT_.out (by kernel_rfl)) (by decide) (fun K hK => ?_)
            refine goes_ Try.func26 (by kernel_rfl) rfl #[.int .u64 t124] (by rfl) rfl rfl (by (try simp only [List.map_toArray, List.map_cons, List.map_nil]); first | done | rfl | (simp only [List.length_drop, List.length_take]; rfl)) ?_
            with_reducible refine (bonsairef03_Fixed.calls k t124 t125 _ A12.out).mono ?_
            rintro e w23 ⟨rfl, hb⟩
            refine ⟨_, rfl, ?_⟩
            have n0_ := Aside0.mk (blk_below (g := gb118) (o := .cells #[.int .i64 a0_0, .int .i64 a0_1, .int .i64 a0_2, .int .i64 a0_3, .string a0_4, .float .f64 a0_5] 30 (0, 0)) (by (with_reducible repeat (first | refine blk_drewN ?_ _ | refine blk_drew ?_ | refine blk_alloc ?_ _)); exact BK118.out) hb)
            have n1_ := Aside0.mk (below_step (by repeat (first | (with_reducible first | exact HB.out | apply below_alloc | apply pw_below_drewN | apply below_drew1 | refine below_set ?_ GE118.out) | exact HB.out)) hb)
            clear BK118
            clear HB
            have BK118 := n0_
            have HB := n1_
            clear n0_ n1_
            (try clear hb)
            (try clear hb2)
            (try clear hk)
            (try clear hi)
            refine hK.out _ _ ⟨(blk_cell BK118.out 0).trans rfl, (blk_cell BK118.out 1).trans rfl, (blk_cell BK118.out 2).trans rfl, (blk_cell BK118.out 3).trans rfl, (blk_cell BK118.out 4).trans rfl, (blk_cell BK118.out 5).trans rfl⟩ (fun hHeld => ?_)
            clear hK K
            refine norm_ (a' := ?_) ?_ ?_
            rotate_left
            · show Act.put _ (some 33) _ = _
              simp only [Act.put, List.setIfInBounds_toArray, List.set_cons_zero, List.set_cons_succ, i64_w, i32_w]
              rfl
            refine pure_ (i := 9) (N := some 34) (v := ?_) (a' := ?_) #[true, true, true, true, true, true, true, true, true, true, false] rfl rfl (any_of HT_.out (by kernel_rfl)) (fun _ _ _ h => h) (Or.inl ⟨by rfl, ?_⟩) ?_ ?_
            rotate_left
            · intro w'
              go_simp
              with_reducible rfl
            rotate_left
            · simp only [Act.put, List.setIfInBounds_toArray, List.set_cons_zero, List.set_cons_succ, i64_w, i32_w]
              rfl
            refine pure_ (i := 10) (N := some 2) (v := ?_) (a' := ?_) #[true, true, true, true, true, true, true, true, true, true, true] rfl rfl (any_of HT_.out (by kernel_rfl)) (fun _ _ _ h => h) (Or.inl ⟨by rfl, ?_⟩) ?_ ?_
            rotate_left
            · intro w'
              go_simp
              with_reducible rfl
            rotate_left
            · simp only [Act.put, List.setIfInBounds_toArray, List.set_cons_zero, List.set_cons_succ, i64_w, i32_w]
              rfl
            refine done_ (done_of HT_.out (by kernel_rfl)) ?_
            try go_wp2
            go_ret
            exact ⟨by first | rfl | (simp [errW_none, errW_some] <;> rfl) | (simp [*, errW_none, errW_some] <;> rfl), by repeat (first | (with_reducible first | exact HB.out | apply below_alloc | apply pw_below_drewN | apply below_drew1 | refine below_set ?_ GE118.out) | exact HB.out)⟩
          · rw [if_neg c13] at H
            exact absurd H (by simp)
        · rw [if_neg c10] at H
          exact absurd H (by simp)
      · rw [if_neg c8] at H
        exact absurd H (by simp)
    · rw [if_neg c6] at H
      exact absurd H (by simp)
  · rw [if_neg c4] at H
    exact absurd H (by simp)
end Go.Proofs.Ytfcndhajcikgiaa.B
namespace Go.Proofs.Ytfcndhajcikgiaa.B
open Go.RowKit Go.Proofs.Sp Go.Proofs.Fl Go.Proofs.YtfcndhajcikgiaaW.PrintWords Go.Proofs.YtfcndhajcikgiaaW.PrintLast Go.Proofs.YtfcndhajcikgiaaW.PrintMore
theorem ref_put_l : ∀ (f v k : Nat) (pre : List UInt8), v < 128 ^ (f + 1) → v < 2 ^ 64 → f + 1 ≤ k → pre.length + f ≤ 1000 → bonsairef03_Put.l0 k v (numsL pre) = some (ba (pre ++ putF (f + 1) v)) := by
  intro f
  induction f with
  | zero =>
    intro v k pre hv hv2 hk hp
    obtain ⟨k, rfl⟩ : ∃ m, k = m + 1 := ⟨k - 1, by omega⟩
    have hs : v < 128 := by omega
    rw [bonsairef03_Put.l0, putF, if_neg (by omega), if_pos (by rw [numsL_length]; omega), if_pos hs, numsL_snoc pre v (by omega) (by omega), str_nums]
  | succ f ih =>
    intro v k pre hv hv2 hk hp
    obtain ⟨k, rfl⟩ : ∃ m, k = m + 1 := ⟨k - 1, by omega⟩
    rw [bonsairef03_Put.l0, putF]
    by_cases hs : v < 128
    · rw [if_neg (by omega), if_pos (by rw [numsL_length]; omega), if_pos hs, numsL_snoc pre v (by omega) (by omega), str_nums]
    · rw [if_pos (by omega), if_pos (by rw [numsL_length]; omega), if_neg hs]
      rw [Int.tdiv_eq_ediv_of_nonneg (by omega), Int.tmod_eq_emod_of_nonneg (by omega), numsL_snoc pre (v % 128 + 128) (by omega) (by omega), show (v : Int) / 128 = ((v / 128 : Nat) : Int) by omega, IntWalk.u64_in _ (by omega),
        ih (v / 128) k _ (by rw [Nat.pow_succ] at hv; omega) (by omega) (by omega) (by simp; omega), List.append_assoc]
      rfl
theorem ref_put_f {v : Nat} (hv : v < 2 ^ 64) (k : Nat) (hk : 10 ≤ k) : bonsairef03_Put.f k v = some (ba (putL v)) :=
  ref_put_l 9 v k [] (Nat.lt_of_lt_of_le hv (by decide)) hv hk (by decide)
theorem ref_fix_l : ∀ (f v k : Nat) (pre : List UInt8), f ≤ 8 → v < 2 ^ 64 → f + 1 ≤ k → pre.length + f ≤ 1000 → bonsairef03_Fixed.l0 k v (numsL pre) ((8 - f : Nat) : Int) = some (ba (pre ++ fixF f v)) := by
  intro f
  induction f with
  | zero =>
    intro v k pre hf hv hk hp
    obtain ⟨k, rfl⟩ : ∃ m, k = m + 1 := ⟨k - 1, by omega⟩
    rw [bonsairef03_Fixed.l0, if_neg (by omega), str_nums, fixF, List.append_nil]
  | succ f ih =>
    intro v k pre hf hv hk hp
    obtain ⟨k, rfl⟩ : ∃ m, k = m + 1 := ⟨k - 1, by omega⟩
    rw [bonsairef03_Fixed.l0, if_pos (by omega), if_pos (by rw [numsL_length]; omega), Int.tdiv_eq_ediv_of_nonneg (by omega), Int.tmod_eq_emod_of_nonneg (by omega), numsL_snoc pre (v % 256) (by omega) (by omega),
      show (v : Int) / 256 = ((v / 256 : Nat) : Int) by omega, IntWalk.u64_in _ (by omega), show wrap64 (((8 - (f + 1) : Nat) : Int) + 1) = ((8 - f : Nat) : Int) by unfold wrap64; omega]
    rw [ih (v / 256) k _ (by omega) (by omega) (by omega) (by simp; omega), List.append_assoc]
    rfl
theorem ref_fix_f {v : Nat} (hv : v < 2 ^ 64) (k : Nat) (hk : 10 ≤ k) : bonsairef03_Fixed.f k v = some (ba (fixL v)) :=
  ref_fix_l 8 v k [] (by omega) hv (by omega) (by decide)
theorem ref_text_f {s : ByteArray} (hs : s.size ≤ 1000000) (k : Nat) (hk : 10 ≤ k) : bonsairef04_Put.f k s = some (ba (putL s.size ++ s.data.toList)) := by
  unfold bonsairef04_Put.f
  have := putL_le s.size
  rw [ref_put_f (by omega) k hk]
  simp only [Option.bind_some]
  rw [if_pos (by rw [ba_size]; omega)]
  congr 1
theorem ref_one_f {x : S30} (hr : x.f4 < 2 ^ 64) (hn : x.f3.size ≤ 1000) (k : Nat) (hk : 10 ≤ k) : bonsairef21_One.f k x.f0.f0 x.f0.f1 x.f1 x.f2 x.f3 x.f4 = some (ba (encX x)) := by
  have hl := encX_le x
  unfold bonsairef21_One.f
  rw [← (w64u_lt x.f0.f0).2, ← (w64u_lt x.f0.f1).2, ← (w64u_lt x.f1).2, ← (w64u_lt x.f2).2, ref_put_f (w64u_lt _).1 k (by omega), ref_put_f (w64u_lt _).1 k (by omega), ref_put_f (w64u_lt _).1 k (by omega), ref_put_f (w64u_lt _).1 k (by omega), ref_text_f (by omega) k (by omega)]
  unfold bonsairef01_Bits.f
  rw [if_pos hr, ← (canon_nat hr).1]
  have h0 := putL_le (w64u x.f0.f0); have h1 := putL_le (w64u x.f0.f1); have h2 := putL_le (w64u x.f1); have h3 := putL_le (w64u x.f2); have h4 := putL_le x.f3.size
  simp only [Option.bind_some, ba_append]
  rw [if_pos (by simp only [ba_size]; omega), if_pos (by simp only [ba_size, List.length_append]; omega), if_pos (by simp only [ba_size, List.length_append]; omega), if_pos (by simp only [ba_size, List.length_append, len_size]; omega), ref_fix_f (canon_nat hr).2 k (by omega)]
  simp only [Option.bind_some, ba_append]
  rw [if_pos (by simp only [ba_size, List.length_append, fixL_length, len_size]; omega)]
  unfold encX
  simp only [List.append_assoc]
end Go.Proofs.Ytfcndhajcikgiaa.B
namespace Go.Proofs.Ytfcndhajcikgiaa.B
open Go.RowKit Go.Proofs.YtfcndhajcikgiaaW.PrintWords Go.Proofs.YtfcndhajcikgiaaW.PrintLast Go.Proofs.YtfcndhajcikgiaaW.PrintMore
def bonsairef21_Encode.l0 : Nat → List (S30) → ByteArray → Int → Option (ByteArray × Int)
  | 0, _, _, _ => none
  | k + 1, x0, x4, x5 => if x5 < (x0.length : Int) then (if 0 ≤ x5 then ((bonsairef21_One.f k ((rd_T30 x0 x5).f0.f0) ((rd_T30 x0 x5).f0.f1) ((rd_T30 x0 x5).f1) ((rd_T30 x0 x5).f2) ((rd_T30 x0 x5).f3) ((rd_T30 x0 x5).f4)).bind fun t199 => (if x4.size + t199.size ≤ 9223372036854775807 then (bonsairef21_Encode.l0 k x0 (x4 ++ t199) (wrap64 (x5 + 1))) else (none))) else (none)) else (some (x4, 0))
def bonsairef21_Encode.f (k : Nat) (l0 : List (S30)) : Option (ByteArray × Int) := (bonsairef13_May.f k l0).bind fun t196 => (if t196 = true then ((bonsairef03_Put.f k (IntKind.u64.wrap ((l0.length : Int)))).bind fun t197 => (if 5 + t197.size ≤ 9223372036854775807 then (bonsairef21_Encode.l0 k l0 ((⟨#[66, 78, 83, 73, 1]⟩ : ByteArray) ++ t197) 0) else (none))) else (some ((⟨#[]⟩ : ByteArray), 1)))
theorem bonsairef21_Encode.mono_l : ∀ k, (∀ y0 y1 y2, LeO (bonsairef21_Encode.l0 k y0 y1 y2) (bonsairef21_Encode.l0 (k + 1) y0 y1 y2))
  | 0 => fun _ _ _ r h => by simp [bonsairef21_Encode.l0] at h
  | k + 1 => by
    have ih0 := bonsairef21_Encode.mono_l k
    · intro y0 y1 y2
      unfold bonsairef21_Encode.l0
      repeat' first
      | (with_reducible exact ih0 _ _ _)
      | (with_reducible exact bonsairef03_Put.mono _ _)
      | (with_reducible exact bonsairef13_May.mono _ _)
      | (with_reducible exact bonsairef21_One.mono _ _ _ _ _ _ _)
      | (with_reducible exact LeO.refl _)
      | (with_reducible exact LeO.none _)
      | (with_reducible refine LeO.ite ?_ ?_)
      | (with_reducible refine LeO.bind ?_ (fun _ => ?_))
      | exact ih0 _ _ _
      | exact bonsairef03_Put.mono _ _
      | exact bonsairef13_May.mono _ _
      | exact bonsairef21_One.mono _ _ _ _ _ _ _
      | exact LeO.none _
      | refine LeO.ite ?_ ?_
      | refine LeO.bind ?_ (fun _ => ?_)
theorem bonsairef21_Encode.mono : ∀ a0 k, LeO (bonsairef21_Encode.f k a0) (bonsairef21_Encode.f (k + 1) a0) := by
  intro a0 k
  have ih0 := bonsairef21_Encode.mono_l k
  unfold bonsairef21_Encode.f
  repeat' first
      | (with_reducible exact ih0 _ _ _)
      | (with_reducible exact bonsairef03_Put.mono _ _)
      | (with_reducible exact bonsairef13_May.mono _ _)
      | (with_reducible exact bonsairef21_One.mono _ _ _ _ _ _ _)
      | (with_reducible exact LeO.refl _)
      | (with_reducible exact LeO.none _)
      | (with_reducible refine LeO.ite ?_ ?_)
      | (with_reducible refine LeO.bind ?_ (fun _ => ?_))
      | exact ih0 _ _ _
      | exact bonsairef03_Put.mono _ _
      | exact bonsairef13_May.mono _ _
      | exact bonsairef21_One.mono _ _ _ _ _ _ _
      | exact LeO.none _
      | refine LeO.ite ?_ ?_
      | refine LeO.bind ?_ (fun _ => ?_)
set_option maxHeartbeats 8000000 in
set_option maxRecDepth 100000 in
theorem bonsairef21_Encode.calls (k : Nat) (A0 : Option Addr) (c0 : Nat) (l0 : List (S30)) (r1 : ByteArray) (r2 : Int) (w : World) (hr0 : Kd.C k30 w A0 l0.length l0) (hc0 : l0.length ≤ c0) (h : bonsairef21_Encode.f k l0 = some (r1, r2)) :
    Calls Try.prog 12 #[.slice A0 l0.length c0] w fun e w' => e = .returned (.tuple #[.string r1, .int .i64 r2]) ∧ Below w.heap.size w w' := by
  have hu30 := Try.underlying30
  have HR0 := Aside0.mk hr0
  have HC0 := Aside0.mk hc0
  clear hr0 hc0
  have HB := Aside0.mk (Below.refl w.heap.size w)
  have H : ((bonsairef13_May.f k l0).bind fun t196 => (if t196 = true then ((bonsairef03_Put.f k (IntKind.u64.wrap ((l0.length : Int)))).bind fun t197 => (if 5 + t197.size ≤ 9223372036854775807 then (bonsairef21_Encode.l0 k l0 ((⟨#[66, 78, 83, 73, 1]⟩ : ByteArray) ++ t197) 0) else (none))) else (some ((⟨#[]⟩ : ByteArray), 1)))) = some (r1, r2) := h
  clear h
  replace H := Option.bind_eq_some_iff.mp H
  obtain ⟨t196, A20, H⟩ := H
  replace H : (if t196 = true then ((bonsairef03_Put.f k (IntKind.u64.wrap ((l0.length : Int)))).bind fun t197 => (if 5 + t197.size ≤ 9223372036854775807 then (bonsairef21_Encode.l0 k l0 ((⟨#[66, 78, 83, 73, 1]⟩ : ByteArray) ++ t197) 0) else (none))) else (some ((⟨#[]⟩ : ByteArray), 1))) = some (r1, r2) := H
  have A2 := Aside0.mk A20
  clear A20
  by_cases c3 : t196 = true
  · subst c3
    have H1 : ((bonsairef03_Put.f k (IntKind.u64.wrap ((l0.length : Int)))).bind fun t197 => (if 5 + t197.size ≤ 9223372036854775807 then (bonsairef21_Encode.l0 k l0 ((⟨#[66, 78, 83, 73, 1]⟩ : ByteArray) ++ t197) 0) else (none))) = some (r1, r2) := by rw [if_pos rfl] at H; exact H
    clear H
    have H := H1
    clear H1
    replace H := Option.bind_eq_some_iff.mp H
    obtain ⟨t197, A40, H⟩ := H
    replace H : (if 5 + t197.size ≤ 9223372036854775807 then (bonsairef21_Encode.l0 k l0 ((⟨#[66, 78, 83, 73, 1]⟩ : ByteArray) ++ t197) 0) else (none)) = some (r1, r2) := H
    have A4 := Aside0.mk A40
    clear A40
    by_cases c5 : 5 + t197.size ≤ 9223372036854775807
    · rw [if_pos c5] at H
      have c5b0 := eq_true c5
      have c5b1 : decide (5 + t197.size ≤ 9223372036854775807) = true := decide_eq_true c5
      try have c5b2 : (9223372036854775807 < 5 + t197.size) = False := eq_false (Nat.not_lt.2 c5)
      have H' := Aside0.mk H
      clear H
      go_enter Try.func12, Try.ntmps12
      go_wp2_with (first | ((with_reducible refine gate_callee (f := 16) rfl ?_); refine goesL_ (some 7) rfl rfl Try.func16 (by kernel_rfl) rfl #[.slice A0 l0.length c0] rfl (by (try simp only [List.map_toArray, List.map_cons, List.map_nil]); first | done | rfl | (simp only [List.length_drop, List.length_take]; rfl)) ?_; (with_reducible refine (bonsairef13_May.calls k _ _ l0 true _ ?side1 ?side2 A2.out).mono ?_); (case side1 => repeat (first | exact HR0.out | (with_reducible refine Kd.C_alloc ?_ _) | (with_reducible refine Kd.C_drewN ?_ _) | (with_reducible refine Kd.C_drew ?_))); (case side2 => exact HC0.out); rintro e w6 ⟨rfl, hb⟩; refine ⟨_, rfl, ?_⟩; have n0_ := Aside0.mk (below_step (by repeat (first | (with_reducible first | exact HB.out | apply below_alloc | apply pw_below_drewN | apply below_drew1) | exact HB.out)) hb); clear HB; have HB := n0_; clear n0_; (try clear hb); (try clear hb2); (try clear hk); (try clear hi)) | ((with_reducible refine gate_callee (f := 24) rfl ?_); refine goesL_ (some 12) rfl rfl Try.func24 (by kernel_rfl) rfl #[.int .u64 (IntKind.u64.wrap ((l0.length : Int)))] rfl (by (try simp only [List.map_toArray, List.map_cons, List.map_nil]); first | done | rfl | (simp only [List.length_drop, List.length_take]; rfl)) ?_; (with_reducible refine (bonsairef03_Put.calls k (IntKind.u64.wrap ((l0.length : Int))) t197 _ A4.out).mono ?_); rintro e w7 ⟨rfl, hb⟩; refine ⟨_, rfl, ?_⟩; have n0_ := Aside0.mk (below_step (by repeat (first | (with_reducible first | exact HB.out | apply below_alloc | apply pw_below_drewN | apply below_drew1) | exact HB.out)) hb); clear HB; have HB := n0_; clear n0_; (try clear hb); (try clear hb2); (try clear hk); (try clear hi)))
      go_loopg [4, 5] k (fun kq v4 v5 w' => ∃ (x4_1 : ByteArray) (x5_1 : Int), v4 = .string x4_1 ∧ v5 = .int .i64 x5_1 ∧ Aside0 (bonsairef21_Encode.l0 kq l0 x4_1 x5_1 = some (r1, r2)) ∧ Aside0 (kq ≤ k) ∧ Aside0 (Below w.heap.size w w'))
      case atStart => exact ⟨((⟨#[66, 78, 83, 73, 1]⟩ : ByteArray) ++ t197), (0), (by first | rfl | (simp; done) | (simp [*]; done)), (by first | rfl | (simp; done) | (simp [*]; done)), H', ⟨Nat.le_refl _⟩, ⟨by repeat (first | (with_reducible first | exact HB.out | apply below_alloc | apply pw_below_drewN | apply below_drew1) | exact HB.out)⟩⟩
      case round =>
        clear H'
        try clear c1
        try clear c2
        try clear p2
        try clear c3
        try clear c5
        try clear c5b0
        try clear c5b1
        try clear c5b2
        obtain ⟨x4_1, x5_1, rfl, rfl, HA, HK1, HB⟩ := hrel
        cases gk with
        | zero => exact absurd HA.out (by simp [bonsairef21_Encode.l0])
        | succ k1 =>
          have H := HA.out
          clear HA
          simp only [bonsairef21_Encode.l0] at H
          by_cases c8 : x5_1 < (l0.length : Int)
          · rw [if_pos c8] at H
            have c8b0 : decide (x5_1 < (l0.length : Int)) = true := decide_eq_true c8
            clear c8
            by_cases c9 : 0 ≤ x5_1
            · rw [if_pos c9] at H
              have c9b0 : decide (0 ≤ x5_1) = true := decide_eq_true c9
              clear c9
              replace H := Option.bind_eq_some_iff.mp H
              obtain ⟨t199, A100, H⟩ := H
              replace H : (if x4_1.size + t199.size ≤ 9223372036854775807 then (bonsairef21_Encode.l0 k1 l0 (x4_1 ++ t199) (wrap64 (x5_1 + 1))) else (none)) = some (r1, r2) := H
              have A10 := Aside0.mk A100
              clear A100
              by_cases c11 : x4_1.size + t199.size ≤ 9223372036854775807
              · rw [if_pos c11] at H
                have c11b0 := eq_true c11
                have c11b1 : decide (x4_1.size + t199.size ≤ 9223372036854775807) = true := decide_eq_true c11
                try have c11b2 : (9223372036854775807 < x4_1.size + t199.size) = False := eq_false (Nat.not_lt.2 c11)
                have H' := Aside0.mk H
                clear H
                have p198 : 0 ≤ (x5_1 : Int) := of_decide_eq_true (by first | (with_reducible assumption) | assumption)
                have q198 : x5_1 < (l0.length : Int) := of_decide_eq_true (by first | (with_reducible assumption) | assumption)
                obtain ⟨ad198, e198, hx198_0, hx198_1, hx198_2, hx198_3, hx198_4, hx198_5⟩ := at_T30 HR0.out x5_1 p198 q198
                cases e198
                replace hx198_0 := (HB.out.cell (World.block_lt_of_cell? w _ hx198_0)).trans hx198_0
                replace hx198_1 := (HB.out.cell (World.block_lt_of_cell? w _ hx198_1)).trans hx198_1
                replace hx198_2 := (HB.out.cell (World.block_lt_of_cell? w _ hx198_2)).trans hx198_2
                replace hx198_3 := (HB.out.cell (World.block_lt_of_cell? w _ hx198_3)).trans hx198_3
                replace hx198_4 := (HB.out.cell (World.block_lt_of_cell? w _ hx198_4)).trans hx198_4
                replace hx198_5 := (HB.out.cell (World.block_lt_of_cell? w _ hx198_5)).trans hx198_5
                replace p198 := eq_true p198
                replace q198 := eq_true q198
                go_wp2_with (first | ((with_reducible refine gate_callee (f := 10) rfl ?_); refine goesL_ (some 25) rfl rfl Try.func10 (by kernel_rfl) rfl #[.agg #[.int .i64 ((rd_T30 l0 x5_1).f0.f0), .int .i64 ((rd_T30 l0 x5_1).f0.f1), .int .i64 ((rd_T30 l0 x5_1).f1), .int .i64 ((rd_T30 l0 x5_1).f2), .string ((rd_T30 l0 x5_1).f3), .float .f64 ((rd_T30 l0 x5_1).f4)]] rfl (by (try simp only [List.map_toArray, List.map_cons, List.map_nil]); first | done | rfl | (simp only [List.length_drop, List.length_take]; rfl)) ?_; (with_reducible refine (bonsairef21_One.calls k1 ((rd_T30 l0 x5_1).f0.f0) ((rd_T30 l0 x5_1).f0.f1) ((rd_T30 l0 x5_1).f1) ((rd_T30 l0 x5_1).f2) ((rd_T30 l0 x5_1).f3) ((rd_T30 l0 x5_1).f4) t199 _ A10.out).mono ?_); rintro e w12 ⟨rfl, hb⟩; refine ⟨_, rfl, ?_⟩; have n0_ := Aside0.mk (below_step (by repeat (first | (with_reducible first | exact HB.out | apply below_alloc | apply pw_below_drewN | apply below_drew1) | exact HB.out)) hb); clear HB; have HB := n0_; clear n0_; (try clear hb); (try clear hb2); (try clear hk); (try clear hi)))
                go_roundg k1
                case measure => have := HK1.out; omega
                case rel => exact ⟨(x4_1 ++ t199), (wrap64 (x5_1 + 1)), (by first | rfl | (simp; done) | (simp [*]; done)), (by first | rfl | (simp; done) | (simp [*]; done)), H', ⟨by have := HK1.out; omega⟩, ⟨by repeat (first | (with_reducible first | exact HB.out | apply below_alloc | apply pw_below_drewN | apply below_drew1) | exact HB.out)⟩⟩
              · rw [if_neg c11] at H
                exact absurd H (by simp)
            · rw [if_neg c9] at H
              exact absurd H (by simp)
          · rw [if_neg c8] at H
            have c8b0 : decide (x5_1 < (l0.length : Int)) = false := decide_eq_false c8
            clear c8
            simp only [Option.some.injEq, Prod.mk.injEq] at H
            obtain ⟨rfl, rfl⟩ := H
            go_wp2
            go_ret2
            exact ⟨by first | rfl | (simp [errW_none, errW_some] <;> rfl) | (simp [*, errW_none, errW_some] <;> rfl), by repeat (first | (with_reducible first | exact HB.out | apply below_alloc | apply pw_below_drewN | apply below_drew1) | exact HB.out)⟩
    · rw [if_neg c5] at H
      exact absurd H (by simp)
  · replace c3 := Bool.eq_false_iff.mpr c3
    subst c3
    have H1 : (some ((⟨#[]⟩ : ByteArray), 1)) = some (r1, r2) := by rw [if_neg (show ¬ (false = true) by decide)] at H; exact H
    clear H
    have H := H1
    clear H1
    simp only [Option.some.injEq, Prod.mk.injEq] at H
    obtain ⟨rfl, rfl⟩ := H
    go_enter Try.func12, Try.ntmps12
    go_wp2_with (first | ((with_reducible refine gate_callee (f := 16) rfl ?_); refine goesL_ (some 7) rfl rfl Try.func16 (by kernel_rfl) rfl #[.slice A0 l0.length c0] rfl (by (try simp only [List.map_toArray, List.map_cons, List.map_nil]); first | done | rfl | (simp only [List.length_drop, List.length_take]; rfl)) ?_; (with_reducible refine (bonsairef13_May.calls k _ _ l0 false _ ?side1 ?side2 A2.out).mono ?_); (case side1 => repeat (first | exact HR0.out | (with_reducible refine Kd.C_alloc ?_ _) | (with_reducible refine Kd.C_drewN ?_ _) | (with_reducible refine Kd.C_drew ?_))); (case side2 => exact HC0.out); rintro e w13 ⟨rfl, hb⟩; refine ⟨_, rfl, ?_⟩; have n0_ := Aside0.mk (below_step (by repeat (first | (with_reducible first | exact HB.out | apply below_alloc | apply pw_below_drewN | apply below_drew1) | exact HB.out)) hb); clear HB; have HB := n0_; clear n0_; (try clear hb); (try clear hb2); (try clear hk); (try clear hi)))
    go_ret2
    exact ⟨by first | rfl | (simp [errW_none, errW_some] <;> rfl) | (simp [*, errW_none, errW_some] <;> rfl), by repeat (first | (with_reducible first | exact HB.out | apply below_alloc | apply pw_below_drewN | apply below_drew1) | exact HB.out)⟩
end Go.Proofs.Ytfcndhajcikgiaa.B
namespace Go.Proofs.Ytfcndhajcikgiaa.B
open Go.RowKit Go.Proofs.Sp Go.Proofs.Fl Go.Proofs.YtfcndhajcikgiaaW.PrintWords Go.Proofs.YtfcndhajcikgiaaW.PrintLast Go.Proofs.YtfcndhajcikgiaaW.PrintMore
theorem ref_encode_l {l : List S30} (hr : Ranks l) (hl : l.length ≤ 2000) (hn : ∀ x ∈ l, x.f3.size ≤ 1000) : ∀ (d i k : Nat) (pre : List UInt8), i + d = l.length → d + 11 ≤ k → pre.length + 1058 * d ≤ 100000000 → bonsairef21_Encode.l0 k l (ba pre) i = some (ba (pre ++ (l.drop i).flatMap encX), 0)
  | 0, i, k, pre, hd, hk, hp => by
    obtain ⟨k, rfl⟩ : ∃ m, k = m + 1 := ⟨k - 1, by omega⟩
    rw [bonsairef21_Encode.l0, if_neg (by omega), List.drop_eq_nil_of_le (by omega)]; simp
  | d + 1, i, k, pre, hd, hk, hp => by
    obtain ⟨k, rfl⟩ : ∃ m, k = m + 1 := ⟨k - 1, by omega⟩
    have hi : i < l.length := by omega
    have hx := hn _ (List.getElem_mem hi)
    have hx2 := encX_le l[i]
    rw [bonsairef21_Encode.l0, if_pos (by omega), if_pos (by omega), rd_get l i hi, ref_one_f (hr _ (List.getElem_mem hi)) hx k (by omega)]
    simp only [Option.bind_some]
    rw [if_pos (by rw [ba_size, ba_size]; omega), w64 (by omega) (by omega), ba_append, List.drop_eq_getElem_cons hi, List.flatMap_cons, ← List.append_assoc]
    exact ref_encode_l hr hl hn d (i + 1) k _ (by omega) (by omega) (by rw [List.length_append]; omega)
theorem ref_encode_f {l : List S30} (hr : Ranks l) (k : Nat) (hk : l.length + 72 ≤ k) : bonsairef21_Encode.f k l = some (if mayM l then (ba (fileX l), 0) else (⟨#[]⟩, 1)) := by
  unfold bonsairef21_Encode.f
  rw [may_ref_f l k hk]
  simp only [Option.bind_some]
  by_cases h : mayM l = true
  · obtain ⟨h1, h2, h3⟩ := may_names h
    rw [if_pos h, if_pos h, IntWalk.u64_in _ (by omega), ref_put_f (by omega) k (by omega)]
    simp only [Option.bind_some]
    have := flat_le l h3
    have := putL_le l.length
    rw [if_pos (by rw [ba_size]; omega), show (⟨#[66, 78, 83, 73, 1]⟩ : ByteArray) = ba headL from rfl, ba_append]
    have := ref_encode_l hr h1 h3 l.length 0 k (headL ++ putL l.length) (by omega) (by omega) (by rw [List.length_append]; show 5 + _ + _ ≤ _; omega)
    rw [show ((0 : Nat) : Int) = 0 from rfl] at this
    rw [this, List.drop_zero, List.append_assoc]; rfl
  · rw [if_neg h, if_neg h]
end Go.Proofs.Ytfcndhajcikgiaa.B
namespace Go.Proofs.Ytfcndhajcikgiaa.B
open Go.RowKit Go.Proofs.Sp Go.Proofs.Fl Go.Proofs.YtfcndhajcikgiaaW.PrintWords Go.Proofs.YtfcndhajcikgiaaW.PrintLast Go.Proofs.YtfcndhajcikgiaaW.PrintMore
theorem DecodeOf.ok {w w' : World} {m : Except Int (List MoveS)} {ms : List MoveS} {xs : List S30} {v : Value} (h : m = .ok ms) (hl : LikeL ms xs) (hr : Kd.R k30 30 w' w.heap.size (fun _ => True) v xs) (hb : Below w.heap.size w w') : DecodeOf w m (.returned (.tuple #[v, .int .i64 0])) w' := by subst h; exact ⟨⟨v, xs, rfl, hr, hl⟩, hb⟩
/-- Between two moves. -/
def DecAt (w W : World) (h g : Nat) (S : ByteArray) (nn : Int) (ns : ByteArray) (ne : Int) (i : Nat) (acc : List MoveS) (xs : List S30) (s : ByteArray) (e : Int) (lv : Value) : Prop :=
  movesR S nn.toNat [] (ns, ne) = movesR S (nn.toNat - i) acc (s, e) ∧ LikeL acc xs ∧ acc.length = i ∧ Kd.R k30 30 W w.heap.size (fun k => k ≠ g ∧ k ≠ h) lv xs ∧ IsRows w W h g S s e ∧ Below w.heap.size w W
theorem DecodeOf.err {w w' : World} {m : Except Int (List MoveS)} {er : Int} (h : m = .error er) (hb : Below w.heap.size w w') : DecodeOf w m (.returned (.tuple #[.slice none 0 0, .int .i64 er])) w' := by subst h; exact ⟨rfl, hb⟩
theorem IsRows.lt_h {w0 W : World} {h g : Nat} {S s : ByteArray} {er : Int} (hi : IsRows w0 W h g S s er) : h < W.heap.size := blk_lt hi.1
theorem IsRows.lt_g {w0 W : World} {h g : Nat} {S s : ByteArray} {er : Int} (hi : IsRows w0 W h g S s er) : g < W.heap.size := hi.2.2.2.lt
theorem IsRows.grown {w0 W w1 : World} {h g : Nat} {S s : ByteArray} {er : Int} {row : Option Nat} (hi : IsRows w0 W h g S s er) (hg : W.grownBy w1 row) (h1 : some h ≠ row) (h2 : some g ≠ row) : IsRows w0 w1 h g S s er :=
  ⟨(hg.block h (blk_lt hi.1) h1).trans hi.1, hi.2.1, hi.2.2.1, (hg.block g hi.2.2.2.lt h2).trans hi.2.2.2.1, hi.2.2.2.2⟩
theorem IsRows.drew {w0 W : World} {h g : Nat} {S s : ByteArray} {er : Int} (hi : IsRows w0 W h g S s er) : IsRows w0 W.drew h g S s er := hi
theorem IsRows.below {w0 W w1 : World} {h g : Nat} {S s : ByteArray} {er : Int} (hi : IsRows w0 W h g S s er) (hb : Below W.heap.size W w1) : IsRows w0 w1 h g S s er :=
  ⟨(hb.block h (blk_lt hi.1)).trans hi.1, hi.2.1, hi.2.2.1, (hb.block g hi.2.2.2.lt).trans hi.2.2.2.1, hi.2.2.2.2⟩
theorem LikeL.at_ : ∀ {ms : List MoveS} {xs : List S30}, LikeL ms xs → ∀ (j : Nat) (h : j < ms.length), LikeM ms[j] (xs.getD j z30)
  | [], [], _, _, h => absurd h (Nat.not_lt_zero _)
  | a :: r, x :: t, h, 0, _ => h.1
  | a :: r, x :: t, h, j + 1, hj => LikeL.at_ (ms := r) (xs := t) h.2 j (Nat.lt_of_succ_lt_succ hj)
  | [], _ :: _, h, _, _ => h.elim
  | _ :: _, [], h, _, _ => h.elim
theorem LikeL.last {ms : List MoveS} {xs : List S30} (h : LikeL ms xs) (hl : 0 < ms.length) {J : Int} (hJ : J = (ms.length : Int) - 1) : ∃ a, ms.getLast? = some a ∧ (rd_T30 xs J).f0.f0 = a.c ∧ (rd_T30 xs J).f0.f1 = a.r := by
  have hj : ms.length - 1 < ms.length := by omega
  have h2 := h.at_ (ms.length - 1) hj
  refine ⟨ms[ms.length - 1], by rw [List.getLast?_eq_getElem?, List.getElem?_eq_getElem hj], ?_, ?_⟩
  · unfold rd_T30; rw [show J.toNat = ms.length - 1 by omega]; exact h2.1
  · unfold rd_T30; rw [show J.toNat = ms.length - 1 by omega]; exact h2.2.1
theorem six_cells {W : World} {B : Nat} {c0 c1 c2 c3 c4 c5 : Value} {t : TypeId} (h : W.heap[B]? = some (.cells #[c0, c1, c2, c3, c4, c5] t (0, 0))) :
    W.cell? ⟨B, 0, none⟩ = some c0 ∧ W.cell? ⟨B, 1, none⟩ = some c1 ∧ W.cell? ⟨B, 2, none⟩ = some c2 ∧ W.cell? ⟨B, 3, none⟩ = some c3 ∧ W.cell? ⟨B, 4, none⟩ = some c4 ∧ W.cell? ⟨B, 5, none⟩ = some c5 :=
  ⟨(blk_cell h 0).trans rfl, (blk_cell h 1).trans rfl, (blk_cell h 2).trans rfl, (blk_cell h 3).trans rfl, (blk_cell h 4).trans rfl, (blk_cell h 5).trans rfl⟩
/-- One move more. -/
theorem DecAt.next {w W w1 : World} {h g : Nat} {S : ByteArray} {nn : Int} {ns : ByteArray} {ne : Int} {i : Nat} {acc : List MoveS} {xs : List S30} {lv v1 : Value} {x : MoveS} {y : S30} {q2 : ByteArray × Int} {k : Nat}
    (hd : LikeL acc xs) (hl : acc.length = i) (hk : nn.toNat - i = k + 1) (hst : movesR S nn.toNat [] (ns, ne) = movesR S k (acc ++ [x]) q2) (hxy : LikeM x y) (hI : IsRows w W h g S q2.1 q2.2)
    (hL : Kd.R k30 30 W w.heap.size (fun k => k ≠ g ∧ k ≠ h) lv xs)
    (ho : Kd.R k30 30 w1 w.heap.size (fun k => k ≠ g ∧ k ≠ h) v1 (xs ++ [y])) (hb : Below w.heap.size w w1) (hg : W.grownBy w1 lv.ownBlock) :
    DecAt w w1 h g S nn ns ne (i + 1) (acc ++ [x]) (xs ++ [y]) q2.1 q2.2 v1 :=
  ⟨by rw [hst, show nn.toNat - (i + 1) = k by omega], hd.snoc hxy, by simp [hl], ho, hI.grown hg (fun e => (hL.1 h e.symm).2 rfl) (fun e => (hL.1 g e.symm).1 rfl), hb⟩
set_option maxRecDepth 100000 in
set_option maxHeartbeats 4000000 in
theorem rows_Decode.calls (S : ByteArray) (v ve : Int) (w : World) (hS : S.size ≤ 9223372036854775807) (hv : chunk_Version.f S = some (v, ve)) (h5 : ve = 0 → v = 1 → 5 ≤ S.size) :
    Calls Try.prog 13 #[.string S] w fun e w' => DecodeOf w (decodeR S v ve) e w' := by
  have HV := Lib.hid hv
  clear hv
  obtain ⟨m, hm⟩ : ∃ m, m = decodeR S v ve := ⟨_, rfl⟩
  rw [← hm]
  have HM := Lib.hid hm
  clear hm
  go_enter Try.func13, Try.ntmps13
  by_cases c1 : ve = 0
  · by_cases c2 : v = 1
    · have h5' := h5 c1 c2
      have h6 : (5 : Int) ≤ (S.size : Int) := by omega
      go_wp2_with (first
        | (go_at_call 17; refine (chunk_Version.calls S _ _ _ HV.out).mono ?_; rintro e w1 ⟨rfl, hb⟩; have B1 := Lib.hid hb.below; clear hb)
        | (go_at_call 29; refine (pack_New.calls _ _ _ w _ B1.out rfl).mono ?_; rintro e w2 ⟨g, rfl, hq1, hq2, hq3⟩; have I2 := Lib.hid hq1; have B2 := Lib.hid (below_alloc hq2 (.cells #[.pointer (some ⟨g, 0, none⟩), .string S] 60)); have R2 := Lib.hid (show IsRows w (w2.alloc (.cells #[.pointer (some ⟨g, 0, none⟩), .string S] 60)) w2.heap.size g S (S.extract 5 S.size) 0 from ⟨heap_alloc_new w2 _, hq2.size, (by have := hq1.lt; omega), hq1.alloc _⟩); clear hq1 hq2 hq3))
      obtain ⟨nv, hnv⟩ : ∃ n, n = numR (S.extract 5 S.size, 0) := ⟨_, rfl⟩
      have HN := Lib.hid (num_f (S.extract 5 S.size) 0)
      rw [← hnv] at HN
      have HNV := Lib.hid hnv
      clear hnv
      obtain ⟨nn, ns, ne⟩ := nv
      go_wp2_with (go_at_call 30; refine (pack_Reader_Num.calls g _ _ _ _ _ w _ R2.out.2.2.2 B2.out HN.out).mono ?_; rintro e w3 ⟨rfl, h1, h2, h3⟩; have R3 := Lib.hid (R2.out.keep h1 h3); have B3 := Lib.hid h2; have c03 := R3.out.c0; clear h1 h2 h3)
      have hm : m = if ne ≠ 0 then .error ne else if 2000 < nn then .error 10 else match movesR S nn.toNat [] (ns, ne) with
          | .error e => .error e
          | .ok (ms, q) => if doneR q.1 q.2 ≠ 0 then .error (doneR q.1 q.2) else .ok ms := by
        rw [HM.out]; unfold decodeR; rw [if_neg (by simpa using c1), if_neg (by simpa using c2), ← HNV.out]; rfl
      have HMM := Lib.hid hm
      clear hm
      by_cases c3 : ne = 0
      · by_cases c4 : 2000 < nn
        · have HE := Lib.hid (show m = .error 10 by have := HMM.out; rw [if_neg (by simpa using c3), if_pos c4] at this; exact this)
          go_wp2_with (go_at_call 31; refine (pack_Reader_Err.calls g ns ne _ _ _ w _ R3.out.2.2.2 B3.out (err_f ns ne)).mono ?_; rintro e w4 ⟨rfl, h1, h2, h3⟩; have R4 := Lib.hid (R3.out.keep h1 h3); have B4 := Lib.hid h2; have c04 := R4.out.c0; clear h1 h2 h3)
          go_ret2
          exact DecodeOf.err HE.out B4.out
        · have hE := HMM.out
          rw [if_neg (by simpa using c3), if_neg c4] at hE
          have HE := Lib.hid hE
          clear hE
          have h0n : (0 : Int) ≤ nn := by have := numR_nonneg (S.extract 5 S.size, 0); rw [← HNV.out] at this; exact this
          have hn2 : nn ≤ 2000 := by omega
          go_wp2_with (go_at_call 31; refine (pack_Reader_Err.calls g ns ne _ _ _ w _ R3.out.2.2.2 B3.out (err_f ns ne)).mono ?_; rintro e w4 ⟨rfl, h1, h2, h3⟩; have R4 := Lib.hid (R3.out.keep h1 h3); have B4 := Lib.hid h2; have c04 := R4.out.c0; clear h1 h2 h3)
          obtain ⟨H, hH⟩ : ∃ H, H = w2.heap.size := ⟨_, rfl⟩
          rw [← hH] at R4 c04 ⊢
          clear R2 R3 B2 B3 hH HM HMM
          go_loopw [9, 51] (fun lv iv wr => ∃ (i : Nat) (acc : List MoveS) (xs : List S30) (s : ByteArray) (e : Int), iv = .int .i64 i ∧ (i : Int) ≤ nn ∧ DecAt w wr H g S nn ns ne i acc xs s e lv) (fun _ iv _ => (nn - intOf iv).toNat)
          case atStart => exact ⟨0, [], [], ns, ne, rfl, h0n, rfl, trivial, rfl, Kd.R_nil _ _ _ _ _, R4.out, B4.out⟩
          case round =>
            obtain ⟨i, acc, xs, s, e, rfl, hin, hd⟩ := hrel
            have HD := Lib.hid hd
            clear hd
            by_cases hlt : (i : Int) < nn
            · obtain ⟨k, hk⟩ : ∃ k, nn.toNat - i = k + 1 := ⟨nn.toNat - i - 1, by omega⟩
              have hstep := HD.out.1
              rw [hk, movesR] at hstep
              have hcs := moveR_cases S (s, e)
              rcases hcs with ⟨x, q2, hx⟩ | ⟨er, q2, her, hx⟩
              · rw [hx] at hstep
                have HX := Lib.hid hx
                have HST := Lib.hid hstep
                clear hx hstep
                by_cases hi0 : i = 0
                · go_wp2_with (go_at_call 32; refine (rows_move.calls H g S s e w _ hS HD.out.2.2.2.2.1 HD.out.2.2.2.2.2).mono ?_; rintro e5 w5 h; rw [HX.out] at h; obtain ⟨⟨y, hy, rfl⟩, h1, h2, h3⟩ := h; have HY := Lib.hid hy; have R5 := Lib.hid h1; have B5 := Lib.hid h2; have L5 := Lib.hid (Kd.R_keep HD.out.2.2.2.1 h3 (fun _ hk => hk.1)); clear hy h1 h2 h3)
                  go_region
                  have HIL := Lib.hid (show (xs.length + 1) * 56 ≤ 140737488355328 by have h1 := HD.out.2.1.length; have h2 := HD.out.2.2.1; omega)
                  have HGL := Lib.hid (show g < w5.heap.size ∧ H < w5.heap.size from ⟨R5.out.lt_g, R5.out.lt_h⟩)
                  go_wp2_with (first | ((with_reducible refine gate_builtin (b := .append) (xs := #[.tmp 78, .tmp 80]) rfl ?_); at_builtin; (rw [show ∀ (W : World) (o : Obj), (W.alloc o).drew = W.drew.alloc o from fun _ _ => rfl]; refine Kd.R_append k30 (w0 := w) w.heap.size rfl (.tmp 78) (.tmp 80) 22 30 _ 56 rfl Try.underlying22 info30 rfl (by decide) (by decide) u9 xs (⟨⟨x.c, x.r⟩, x.p, x.ch, x.name, y⟩ : S30) [.int .i64 x.c, .int .i64 x.r, .int .i64 x.p, .int .i64 x.ch, .string x.name, .float .f64 y] (fun k => k ≠ g ∧ k ≠ H) (fun _ => False) rfl ?aX ?aP (fun _ hk => hk.elim) ?aF ?aO ?aB ?aS ?aL ?_; (case aX => show Value.slice (some ⟨w5.heap.size + 1, 0, none⟩) 1 1 = _; simp); (case aP => exact k30_mkM _ _ _ _); (case aF => exact (fun k hk => by have h1 := HGL.out; have h2 : w5.heap.size ≤ k := Nat.le_trans (by simp) hk; omega)); (case aO => exact Kd.R_drew (Kd.R_alloc L5.out _)); (case aB => exact below_drew1 (below_alloc B5.out _)); (case aS => exact Nat.le_trans B5.out.size (by simp)); (case aL => exact HIL.out); intro v116 w6 ho hb hg hat)))
                  have HST2 := Lib.hid (show movesR S nn.toNat [] (ns, ne) = movesR S k (acc ++ [x]) q2 by
                    have h1 := HST.out; rw [show acc = [] from List.length_eq_zero_iff.1 (HD.out.2.2.1.trans hi0)] at h1 ⊢; exact h1)
                  have HN := Lib.hid (DecAt.next (v1 := v116) HD.out.2.1 HD.out.2.2.1 hk HST2.out (⟨rfl, rfl, rfl, rfl, rfl, HY.out⟩ : LikeM x ⟨⟨x.c, x.r⟩, x.p, x.ch, x.name, y⟩) (IsRows.drew (R5.out.alloc _)) (Kd.R_drew (Kd.R_alloc L5.out _)) ho hb hg)
                  clear ho hb hg hat
                  go_wp2
                  go_roundw
                  case rel => exact ⟨i + 1, _, _, _, _, by go_num, by omega, HN.out⟩
                  case measure => simp [intOf]; omega
                · obtain ⟨A, cc, hu9, -, -⟩ := Kd.R_reads HD.out.2.2.2.1
                  subst hu9
                  obtain ⟨I, hI⟩ : ∃ I : Int, I = (i : Int) := ⟨_, rfl⟩
                  obtain ⟨J, hJ⟩ : ∃ J : Int, J = I - 1 := ⟨_, rfl⟩
                  obtain ⟨a, ha1, ha2, ha3⟩ := HD.out.2.1.last (by rw [HD.out.2.2.1]; omega) (J := J) (by rw [HD.out.2.2.1]; omega)
                  have hst := HST.out
                  rw [ha1] at hst
                  replace hst : movesR S nn.toNat [] (ns, ne) = if beforeB a.c a.r x.c x.r then movesR S k (acc ++ [x]) q2 else .error 12 := hst
                  have hxl : xs.length = i := by rw [← HD.out.2.1.length]; exact HD.out.2.2.1
                  rw [← hI] at hin hlt ⊢
                  have hj1 : IntKind.i64.wrap (I - 1) = J := by rw [i64_w, w64 (by omega) (by omega)]; exact hJ.symm
                  have hj2 : (0 : Int) ≤ J := by omega
                  have hj3 : J < (xs.length : Int) := by omega
                  have hj4 : (0 : Int) < I := by omega
                  have hj5 : I ≤ 2000 := by omega
                  have HI := Lib.hid (And.intro hI hxl)
                  have HA := Lib.hid ha2
                  have HA2 := Lib.hid ha3
                  have HS2 := Lib.hid hst
                  clear hI hJ ha1 ha2 ha3 hst HST hxl
                  go_wp2_with (go_at_call 32; refine (rows_move.calls H g S s e w _ hS HD.out.2.2.2.2.1 HD.out.2.2.2.2.2).mono ?_; rintro e5 w5 h; rw [HX.out] at h; obtain ⟨⟨y, hy, rfl⟩, h1, h2, h3⟩ := h; have HY := Lib.hid hy; have R5 := Lib.hid h1; have B5 := Lib.hid h2; have L5 := Lib.hid (Kd.R_keep HD.out.2.2.2.1 h3 (fun _ hk => hk.1)); clear hy h1 h2 h3)
                  obtain ⟨X, hX⟩ : ∃ X, X = w5.alloc (.cells #[.int .i64 x.c, .int .i64 x.r, .int .i64 x.p, .int .i64 x.ch, .string x.name, .float .f64 y] 30) := ⟨_, rfl⟩
                  have LX := Lib.hid (Kd.R_alloc L5.out (.cells #[.int .i64 x.c, .int .i64 x.r, .int .i64 x.p, .int .i64 x.ch, .string x.name, .float .f64 y] 30))
                  have RX := Lib.hid (R5.out.alloc (.cells #[.int .i64 x.c, .int .i64 x.r, .int .i64 x.p, .int .i64 x.ch, .string x.name, .float .f64 y] 30))
                  have BX := Lib.hid (below_alloc B5.out (.cells #[.int .i64 x.c, .int .i64 x.r, .int .i64 x.p, .int .i64 x.ch, .string x.name, .float .f64 y] 30))
                  have MX := Lib.hid (heap_alloc_new w5 (.cells #[.int .i64 x.c, .int .i64 x.r, .int .i64 x.p, .int .i64 x.ch, .string x.name, .float .f64 y] 30))
                  rw [← hX] at LX RX BX MX ⊢
                  obtain ⟨B, hB⟩ : ∃ B, B = w5.heap.size := ⟨_, rfl⟩
                  rw [← hB] at MX ⊢
                  clear hX hB L5 R5 B5
                  obtain ⟨ad, hA, x0, x1, -, -, -, -⟩ := at_T30 (Kd.R_reads' LX.out).2.2 J hj2 hj3
                  subst hA
                  rw [HA.out] at x0
                  rw [HA2.out] at x1
                  obtain ⟨y0, y1, y2, y3, y4, y5⟩ := six_cells MX.out
                  cases hbf : beforeB a.c a.r x.c x.r with
                  | false =>
                    have HBF := Lib.hid (show rank_Before.f a.c a.r x.c x.r = some false by unfold rank_Before.f; rw [hbf])
                    have HF := Lib.hid (show m = .error 12 by have := HE.out; rw [HS2.out, hbf] at this; exact this)
                    clear hbf
                    go_region_held3 (fun w' => w'.cell? (ad.add (J.toNat * 6)) = some (.int .i64 a.c) ∧ w'.cell? ⟨(ad.add (J.toNat * 6)).block, (ad.add (J.toNat * 6)).off + 1, none⟩ = some (.int .i64 a.r) ∧ w'.cell? ⟨B, 0, none⟩ = some (.int .i64 x.c) ∧ w'.cell? ⟨B, 1, none⟩ = some (.int .i64 x.r)) (go_keep) (first | (go_at_call 33; refine (rank_Before.calls a.c a.r x.c x.r false _ HBF.out).mono ?_; rintro e wb ⟨rfl, hb⟩; have HB2 := Lib.hid (show Below X.heap.size X wb from ⟨hb.os, hb.tape, hb.output, hb.size, hb.block⟩); have HC := Lib.hid (fun (p : Addr) (v : Value) (hp : X.cell? p = some v) => (HB2.out.cell (World.block_lt_of_cell? X _ hp)).trans hp); have u0 := HC.out _ _ x0; have u1 := HC.out _ _ x1; have u2 := HC.out _ _ y0; have u3 := HC.out _ _ y1; clear hb))
                    all_goals go_wp2
                    all_goals go_ret2
                    all_goals exact DecodeOf.err HF.out (BX.out.trans (HB2.out.mono BX.out.size))
                  | true =>
                    have HBF := Lib.hid (show rank_Before.f a.c a.r x.c x.r = some true by unfold rank_Before.f; rw [hbf])
                    have HF := Lib.hid (show movesR S nn.toNat [] (ns, ne) = movesR S k (acc ++ [x]) q2 by rw [HS2.out, hbf]; rfl)
                    clear hbf
                    go_region_held3 (fun w' => w'.cell? (ad.add (J.toNat * 6)) = some (.int .i64 a.c) ∧ w'.cell? ⟨(ad.add (J.toNat * 6)).block, (ad.add (J.toNat * 6)).off + 1, none⟩ = some (.int .i64 a.r) ∧ w'.cell? ⟨B, 0, none⟩ = some (.int .i64 x.c) ∧ w'.cell? ⟨B, 1, none⟩ = some (.int .i64 x.r)) (go_keep) (first | (go_at_call 33; refine (rank_Before.calls a.c a.r x.c x.r true _ HBF.out).mono ?_; rintro e wb ⟨rfl, hb⟩; have HB2 := Lib.hid (show Below X.heap.size X wb from ⟨hb.os, hb.tape, hb.output, hb.size, hb.block⟩); have HC := Lib.hid (fun (p : Addr) (v : Value) (hp : X.cell? p = some v) => (HB2.out.cell (World.block_lt_of_cell? X _ hp)).trans hp); have u0 := HC.out _ _ x0; have u1 := HC.out _ _ x1; have u2 := HC.out _ _ y0; have u3 := HC.out _ _ y1; have u4 := HC.out _ _ y2; have u5 := HC.out _ _ y3; have u6 := HC.out _ _ y4; have u7 := HC.out _ _ y5; clear hb))
                    all_goals clear x0 x1 y0 y1 y2 y3 y4 y5 u0 u1 hj1 hj2 hj3 HS2 HBF HC HA HA2
                    have HIL := Lib.hid (show (xs.length + 1) * 56 ≤ 140737488355328 by have := HI.out; omega)
                    have RB := Lib.hid (RX.out.below HB2.out)
                    have LB := Lib.hid (Kd.R_below LX.out HB2.out)
                    have BB := Lib.hid (BX.out.trans (HB2.out.mono BX.out.size))
                    have HGL := Lib.hid (show g < wb.heap.size ∧ H < wb.heap.size from ⟨RB.out.lt_g, RB.out.lt_h⟩)
                    have HAC := Lib.hid (show acc.length = i from HD.out.2.2.1)
                    have HLK := Lib.hid (show LikeL acc xs from HD.out.2.1)
                    clear LX RX BX MX HB2 HD HX c04 R4 B4 HN HNV HV I2
                    go_wp2_with (first | ((with_reducible refine gate_builtin (b := .append) (xs := #[.tmp 78, .tmp 80]) rfl ?_); at_builtin; (refine Kd.R_append k30 (w0 := w) w.heap.size rfl (.tmp 78) (.tmp 80) 22 30 _ 56 rfl Try.underlying22 info30 rfl (by decide) (by decide) (.slice (some ad) xs.length cc) xs (⟨⟨x.c, x.r⟩, x.p, x.ch, x.name, y⟩ : S30) [.int .i64 x.c, .int .i64 x.r, .int .i64 x.p, .int .i64 x.ch, .string x.name, .float .f64 y] (fun k => k ≠ g ∧ k ≠ H) (fun _ => False) rfl rfl ?aP (fun _ hk => hk.elim) ?aF ?aO ?aB ?aS ?aL ?_; (case aP => exact k30_mkM _ _ _ _); (case aF => exact (fun k hk => by have h1 := HGL.out; omega)); (case aO => exact LB.out); (case aB => exact BB.out); (case aS => exact BB.out.size); (case aL => exact HIL.out); intro v116 w6 ho hb hg hat)))
                    have HN := Lib.hid (DecAt.next (v1 := v116) HLK.out HAC.out hk HF.out (⟨rfl, rfl, rfl, rfl, rfl, HY.out⟩ : LikeM x ⟨⟨x.c, x.r⟩, x.p, x.ch, x.name, y⟩) RB.out LB.out ho hb hg)
                    clear ho hb hg hat
                    go_wp2
                    go_roundw
                    case rel => exact ⟨i + 1, _, _, _, _, by rw [HI.out.1]; go_num, by have := HI.out.1; omega, HN.out⟩
                    case measure => simp [intOf]; omega
              · rw [hx] at hstep
                have HF := Lib.hid (show m = .error er by have := HE.out; rw [hstep] at this; exact this)
                have HX := Lib.hid hx
                clear hx hstep
                go_wp2_with (go_at_call 32; refine (rows_move.calls H g S s e w _ hS HD.out.2.2.2.2.1 HD.out.2.2.2.2.2).mono ?_; rintro e5 w5 h; rw [HX.out] at h; obtain ⟨h0, h1, h2, h3⟩ := h; replace h0 : e5 = .returned (.tuple #[.agg #[.int .i64 0, .int .i64 0, .int .i64 0, .int .i64 0, .string ⟨#[]⟩, .float .f64 0], .int .i64 er]) := h0; subst h0; have B5 := Lib.hid h2; clear h1 h2 h3)
                go_ret2
                exact DecodeOf.err HF.out (below_alloc B5.out _)
            · have hend : movesR S nn.toNat [] (ns, ne) = .ok (acc, (s, e)) := by
                rw [HD.out.1, show nn.toNat - i = 0 by omega]; rfl
              have hm5 := HE.out
              rw [hend] at hm5
              replace hm5 : m = if doneR s e ≠ 0 then .error (doneR s e) else .ok acc := hm5
              have HM5 := Lib.hid hm5
              clear hend hm5
              have c0r := HD.out.2.2.2.2.1.c0
              obtain ⟨dn, hdn⟩ : ∃ d, d = doneR s e := ⟨_, rfl⟩
              have HDN := Lib.hid hdn.symm
              clear hdn
              by_cases c6 : dn = 0
              · have HF := Lib.hid (show m = .ok acc by have := HM5.out; rw [if_neg (by rw [HDN.out]; simpa using c6)] at this; exact this)
                go_wp2_with (go_at_call 34; refine (pack_Done.calls g s e w _ HD.out.2.2.2.2.1.2.2.2 HD.out.2.2.2.2.2).mono ?_; rintro e5 w5 ⟨rfl, h1, h2, h3⟩; rw [HDN.out]; have RF := Lib.hid (And.intro h2 h3); clear h1 h2 h3)
                obtain ⟨hq1, hq2⟩ := RF.out
                have RX := Lib.hid (Kd.R_mono (Kd.R_keep HD.out.2.2.2.1 hq2 (fun _ hk => hk.1)) (fun _ _ => trivial))
                go_ret2
                exact DecodeOf.ok HF.out HD.out.2.1 RX.out RF.out.1
              · have HF := Lib.hid (show m = .error dn by have := HM5.out; rw [if_pos (by rw [HDN.out]; exact c6), HDN.out] at this; exact this)
                go_wp2_with (go_at_call 34; refine (pack_Done.calls g s e w _ HD.out.2.2.2.2.1.2.2.2 HD.out.2.2.2.2.2).mono ?_; rintro e5 w5 ⟨rfl, h1, h2, h3⟩; rw [HDN.out]; have RF := Lib.hid (And.intro h2 h3); clear h1 h2 h3)
                go_ret2
                exact DecodeOf.err HF.out RF.out.1
      · have HE := Lib.hid (show m = .error ne by have := HMM.out; rw [if_pos c3] at this; exact this)
        go_wp2_with (go_at_call 31; refine (pack_Reader_Err.calls g ns ne _ _ _ w _ R3.out.2.2.2 B3.out (err_f ns ne)).mono ?_; rintro e w4 ⟨rfl, h1, h2, h3⟩; have R4 := Lib.hid (R3.out.keep h1 h3); have B4 := Lib.hid h2; have c04 := R4.out.c0; clear h1 h2 h3)
        go_ret2
        exact DecodeOf.err HE.out B4.out
    · have HE := Lib.hid (show m = .error 8 by rw [HM.out]; unfold decodeR; rw [if_neg (by simpa using c1), if_pos c2])
      go_wp2_with (go_at_call 17; refine (chunk_Version.calls S _ _ _ HV.out).mono ?_; rintro e w1 ⟨rfl, hb⟩; have B1 := Lib.hid hb.below; clear hb)
      go_ret2
      exact DecodeOf.err HE.out B1.out
  · have HE := Lib.hid (show m = .error ve by rw [HM.out]; unfold decodeR; rw [if_pos c1])
    go_wp2_with (go_at_call 17; refine (chunk_Version.calls S _ _ _ HV.out).mono ?_; rintro e w1 ⟨rfl, hb⟩; have B1 := Lib.hid hb.below; clear hb)
    go_ret2
    exact DecodeOf.err HE.out B1.out
end Go.Proofs.Ytfcndhajcikgiaa.B
namespace Go.Proofs.Ytfcndhajcikgiaa.B
open Go.RowKit Go.Proofs.Sp Go.Proofs.Fl Go.Proofs.YtfcndhajcikgiaaW.PrintWords Go.Proofs.YtfcndhajcikgiaaW.PrintLast Go.Proofs.YtfcndhajcikgiaaW.PrintMore
theorem bt_nv (s : ByteArray) (i : Nat) (h : i < s.size) : bt s (i : Int) = (s[i].toNat : Int) := by
  unfold bt; rw [dif_pos (by simpa using h)]; rfl
def magicL : List UInt8 := [66, 78, 83, 73]
/-- The version of a file; an error. -/
def verS (S : ByteArray) : Int × Int := if S.data.toList.take 4 = magicL then (if S.size < 5 then (0, 2) else (bt S 4, 0)) else (0, 7)
theorem list_beq (a b : List UInt8) : (a == b) = decide (a = b) := by rw [Bool.eq_iff_iff]; simp
theorem ba_toList (s : ByteArray) : s.toList = s.data.toList := Lib.toList_data s
theorem ver_prog (S : ByteArray) : chunk_Version.f S = some (verS S) := by
  unfold chunk_Version.f strings_CutPrefix.f stringslite_CutPrefix.f stringslite_HasPrefix.f verS
  have hr := bt_range S 4
  have hlen := len_size S
  have hz : ((⟨#[66, 78, 83, 73]⟩ : ByteArray).size : Int) = 4 := rfl
  rw [hz]
  by_cases h4 : (S.size : Int) < 4
  · have hn : ¬ S.data.toList.take 4 = magicL := by
      intro hc
      have := congrArg List.length hc
      rw [List.length_take, hlen] at this
      simp [magicL] at this; omega
    rw [if_neg (by omega), if_neg hn]
    rfl
  · have e : (S.extract 0 (4 : Int).toNat).toList = S.data.toList.take 4 := by rw [ba_toList, extract_list, List.drop_zero]; rfl
    rw [if_pos (by omega), if_pos (by decide), if_pos (by omega), e]
    have em : (⟨#[66, 78, 83, 73]⟩ : ByteArray).toList = magicL := by rw [ba_toList]; rfl
    rw [em]
    simp only [Option.bind_some]
    by_cases hm : S.data.toList.take 4 = magicL
    · rw [if_pos hm, if_pos (by rw [hm]; rfl)]
      rw [if_pos (by decide), if_pos (by omega)]
      simp only [Option.bind_some, if_true]
      have e2 : (S.extract (4 : Int).toNat S.size).toList = S.data.toList.drop 4 := by rw [ba_toList, extract_list]; exact List.take_of_length_le (by rw [List.length_drop, hlen]; exact Nat.le_refl _)
      have e3 : (S.extract (4 : Int).toNat S.size).size = S.size - 4 := by rw [ByteArray.size_extract]; show min S.size S.size - 4 = _; omega
      rw [e2, e3]
      by_cases h5 : S.size < 5
      · rw [if_pos h5, if_pos (List.drop_eq_nil_of_le (by omega))]
      · rw [if_neg h5, if_neg (fun hc => by have := congrArg List.length hc; rw [List.length_drop, hlen] at this; simp at this; omega), if_pos (by omega)]
        have hb : bt (S.extract (4 : Int).toNat S.size) 0 = bt S 4 := by
          have h1 := bt_nv (S.extract (4 : Int).toNat S.size) 0 (by omega)
          have h2 := bt_nv S 4 (by omega)
          rw [show ((0 : Nat) : Int) = 0 from rfl] at h1
          rw [show ((4 : Nat) : Int) = 4 from rfl] at h2
          rw [h1, h2]
          congr 2
          exact ByteArray.getElem_extract (h := by rw [ByteArray.size_extract]; show 0 < min S.size S.size - 4; omega)
        rw [hb, show wrap64 (bt S 4) = bt S 4 by unfold wrap64; omega]
    · rw [if_neg hm, if_neg]
      · rfl
      · intro hc; exact hm (by simpa using hc)
theorem verS_one {S : ByteArray} (h : verS S = (1, 0)) : 5 ≤ S.size ∧ S.data.toList.take 5 = headL := by
  unfold verS at h
  split at h
  · rename_i hm
    split at h
    · simp at h
    · rename_i h5
      simp only [Prod.mk.injEq, and_true] at h
      refine ⟨by omega, ?_⟩
      have hl := len_size S
      have h4 : 4 < S.data.toList.length := by omega
      rw [List.take_succ_eq_append_getElem h4, hm]
      have h2 := bt_nv S 4 (by omega)
      rw [show ((4 : Nat) : Int) = 4 from rfl, h] at h2
      have h3 : (S.data.toList[4]'h4) = 1 := by
        have h5 : (S.data.toList[4]'h4) = S[4]'(by omega) := rfl
        rw [h5]; apply UInt8.toNat_inj.1; show _ = 1; omega
      rw [h3]; rfl
  · simp at h
theorem one_verS {S : ByteArray} (h : S.data.toList.take 5 = headL) : verS S = (1, 0) ∧ 5 ≤ S.size := by
  have hl := len_size S
  have h5 : 5 ≤ S.size := by have := congrArg List.length h; rw [List.length_take, hl] at this; simp [headL] at this; omega
  have h4 : 4 < S.data.toList.length := by omega
  have hm : S.data.toList.take 4 = magicL := by
    have := congrArg (List.take 4) h
    rw [List.take_take] at this; exact this
  refine ⟨?_, h5⟩
  unfold verS
  rw [if_pos hm, if_neg (by omega)]
  have h2 := bt_nv S 4 (by omega)
  rw [show ((4 : Nat) : Int) = 4 from rfl] at h2
  have h3 : (S.data.toList[4]'h4) = 1 := by
    rw [List.take_succ_eq_append_getElem h4, hm] at h
    have hc : [S.data.toList[4]'h4] = [1] := List.append_cancel_left h
    injection hc
  have h6 : S[4]'(by omega) = 1 := h3
  rw [h2, h6]; rfl
def decodeX (S : ByteArray) : Except Int (List MoveS) := decodeR S (verS S).1 (verS S).2
theorem decodeX_fwd {S : ByteArray} {ms : List MoveS} {r : List UInt8} (hS : S.size ≤ 140737488355328) (hm : MayS ms) (h : S.data.toList = headL ++ (bodyS ms ++ r)) : decodeX S = if r = [] then .ok ms else .error 5 := by
  obtain ⟨hv, h5⟩ := one_verS (S := S) (by rw [h]; rfl)
  unfold decodeX
  rw [hv]
  exact decodeR_fwd hS h5 hm (by rw [h]; rfl)
theorem decodeX_bwd {S : ByteArray} {ms : List MoveS} (hS : S.size ≤ 140737488355328) (h : decodeX S = .ok ms) : MayS ms ∧ S.data.toList = headL ++ bodyS ms := by
  unfold decodeX at h
  have hv : verS S = (1, 0) := by
    unfold decodeR at h
    split at h
    · cases h
    · rename_i c1
      split at h
      · cases h
      · rename_i c2
        have e1 : (verS S).2 = 0 := Classical.byContradiction fun hc => c1 hc
        have e2 : (verS S).1 = 1 := Classical.byContradiction fun hc => c2 hc
        exact Prod.ext e2 e1
  obtain ⟨h5, ht⟩ := verS_one hv
  rw [hv] at h
  obtain ⟨h1, h2⟩ := decodeR_bwd hS h5 h
  exact ⟨h1, by rw [← h2, ← ht, List.take_append_drop]⟩
theorem movesR_err : ∀ (S : ByteArray) (k : Nat) (acc : List MoveS) (q : ByteArray × Int) (er : Int), movesR S k acc q = .error er → er ≠ 0
  | S, 0, acc, q, er, h => by cases h
  | S, k + 1, acc, q, er, h => by
    rw [movesR] at h
    rcases moveR_cases S q with ⟨x, q2, hx⟩ | ⟨e, q2, he, hx⟩
    · rw [hx] at h
      dsimp only at h
      cases hl : acc.getLast? with
      | none => rw [hl] at h; exact movesR_err _ _ _ _ _ h
      | some y =>
        rw [hl] at h
        dsimp only at h
        split at h
        · exact movesR_err _ _ _ _ _ h
        · cases h; decide
    · rw [hx] at h
      cases h; exact he
theorem decodeX_err {S : ByteArray} {er : Int} (h : decodeX S = .error er) : er ≠ 0 := by
  unfold decodeX decodeR at h
  split at h
  · rename_i c; cases h; exact c
  · split at h
    · cases h; decide
    · dsimp only at h
      split at h
      · rename_i c; cases h; exact c
      · split at h
        · cases h; decide
        · split at h
          · rename_i e he; cases h; exact movesR_err _ _ _ _ _ he
          · split at h
            · rename_i c; cases h; exact c
            · cases h
/-- The moves of a file, none where it is none. -/
def decM (S : ByteArray) : List MoveS := match decodeX S with | .ok ms => ms | .error _ => []
def decE (S : ByteArray) : Int := match decodeX S with | .ok _ => 0 | .error e => e
def DecPost (S : ByteArray) (w : World) (e : Ending) (w' : World) : Prop :=
  ∃ A c xs, e = .returned (.tuple #[.slice A xs.length c, .int .i64 (decE S)]) ∧ Kd.C k30 w' A xs.length xs ∧ xs.length ≤ c ∧ xs.map toS = decM S ∧ Ranks xs ∧ Below w.heap.size w w'
theorem DecPost.of {S : ByteArray} {w w' : World} {e : Ending} (hS : S.size ≤ 140737488355328) (h : DecodeOf w (decodeX S) e w') : DecPost S w e w' := by
  obtain ⟨h, hb⟩ := h
  unfold DecPost decM decE
  cases hd : decodeX S with
  | error er =>
    rw [hd] at h
    obtain ⟨A, c, h1, h2, h3⟩ := Kd.R_reads (Kd.R_nil k30 30 w' w'.heap.size (fun _ => True))
    injection h1 with h4 h5 h6
    subst h4 h6
    exact ⟨none, 0, [], h, h3, Nat.le_refl _, rfl, (fun _ hx => by cases hx), hb⟩
  | ok ms =>
    rw [hd] at h
    obtain ⟨v, xs, rfl, hr, hl⟩ := h
    obtain ⟨A, c, rfl, h2, h3⟩ := Kd.R_reads hr
    obtain ⟨hm, -⟩ := decodeX_bwd hS hd
    obtain ⟨l1, l2⟩ := like_toS hl (fun m hmm => ⟨(hm.2.2 m hmm).2.1, (hm.2.2 m hmm).2.2⟩)
    exact ⟨A, c, xs, rfl, h3, h2, l1, l2, hb⟩
theorem verS_five {S : ByteArray} (h1 : (verS S).2 = 0) (h2 : (verS S).1 = 1) : 5 ≤ S.size := (verS_one (Prod.ext h2 h1)).1
theorem rows_Decode.file (S : ByteArray) (w : World) (hS : S.size ≤ 140737488355328) : Calls Try.prog 13 #[.string S] w (DecPost S w) :=
  (rows_Decode.calls S (verS S).1 (verS S).2 w (by omega) (ver_prog S) verS_five).mono fun _ _ h => DecPost.of hS h
end Go.Proofs.Ytfcndhajcikgiaa.B
