/- RowsWrites: for every input the law returns true, and the input reads behind the call as it read before. (Part 5 of 11.) -/
import Derived.Test.YtfcndhajcikgiaaKWrites4
set_option linter.unusedVariables false
set_option linter.unusedSimpArgs false
namespace Go.Proofs.Ytfcndhajcikgiaa.B
open Go.RowKit Go.Proofs.YtfcndhajcikgiaaW.PrintWords Go.Proofs.YtfcndhajcikgiaaW.PrintLast Go.Proofs.YtfcndhajcikgiaaW.PrintMore
theorem shr_small {k : IntKind} {x y j : Int} (h : shr k x y = j) (hy : y ≤ k.bits) : x / 2 ^ y.toNat = j := by
  have hm : min y.toNat k.bits = y.toNat := by omega
  rw [← h, shr, hm]
def pack_Fixed.l0 : Nat → Int → List Int → Int → Int → Option (ByteArray)
  | 0, _, _, _, _ => none
  | k + 1, x0, x3, x7, x8 => if x8 < x7 then (if 0 ≤ (wrap64 (8 * x8)) then (if 0 ≤ x8 then (if x8 < (x3.length : Int) then (pack_Fixed.l0 k x0 (x3.set (x8 : Int).toNat ((shr .u64 x0 (wrap64 (8 * x8))) % 256)) x7 (wrap64 (x8 + 1))) else (none)) else (none)) else (none)) else (some (strOfNums x3))
def pack_Fixed.f (k : Nat) (a0 : Int) : Option (ByteArray) := if 8 ≤ 281474976710656 then ((some (List.replicate 8 0 : List Int)).bind fun y350 => (pack_Fixed.l0 k a0 y350 (y350.length : Int) 0)) else (none)
theorem pack_Fixed.mono_l : ∀ k, (∀ y0 y1 y2 y3, LeO (pack_Fixed.l0 k y0 y1 y2 y3) (pack_Fixed.l0 (k + 1) y0 y1 y2 y3))
  | 0 => fun _ _ _ _ r h => by simp [pack_Fixed.l0] at h
  | k + 1 => by
    have ih0 := pack_Fixed.mono_l k
    · intro y0 y1 y2 y3
      unfold pack_Fixed.l0
      repeat' first
      | (with_reducible exact ih0 _ _ _ _)
      | (with_reducible exact LeO.refl _)
      | (with_reducible exact LeO.none _)
      | (with_reducible refine LeO.ite ?_ ?_)
      | (with_reducible refine LeO.bind ?_ (fun _ => ?_))
      | exact ih0 _ _ _ _
      | exact LeO.none _
      | refine LeO.ite ?_ ?_
      | refine LeO.bind ?_ (fun _ => ?_)
theorem pack_Fixed.mono : ∀ a0 k, LeO (pack_Fixed.f k a0) (pack_Fixed.f (k + 1) a0) := by
  intro a0 k
  have ih0 := pack_Fixed.mono_l k
  unfold pack_Fixed.f
  repeat' first
      | (with_reducible exact ih0 _ _ _ _)
      | (with_reducible exact LeO.refl _)
      | (with_reducible exact LeO.none _)
      | (with_reducible refine LeO.ite ?_ ?_)
      | (with_reducible refine LeO.bind ?_ (fun _ => ?_))
      | exact ih0 _ _ _ _
      | exact LeO.none _
      | refine LeO.ite ?_ ?_
      | refine LeO.bind ?_ (fun _ => ?_)
set_option maxHeartbeats 8000000 in
set_option maxRecDepth 100000 in
theorem pack_Fixed.calls (k : Nat) (a0 : Int) (r : ByteArray) (w : World) (h : pack_Fixed.f k a0 = some r) :
    Calls Try.prog 21 #[.int .u64 a0] w fun e w' => e = .returned (.string r) ∧ Below w.heap.size w w' := by
  have HB := Aside0.mk (Below.refl w.heap.size w)
  have H : (if 8 ≤ 281474976710656 then ((some (List.replicate 8 0 : List Int)).bind fun y350 => (pack_Fixed.l0 k a0 y350 (y350.length : Int) 0)) else (none)) = some r := h
  clear h
  by_cases c2 : 8 ≤ 281474976710656
  · rw [if_pos c2] at H
    have c2b0 := eq_true c2
    have c2b1 : decide (8 ≤ 281474976710656) = true := decide_eq_true c2
    clear c2
    obtain ⟨y350, hy350⟩ : ∃ y_ : List Int, y_ = (List.replicate 8 0) := ⟨_, rfl⟩
    replace H : (pack_Fixed.l0 k a0 y350 (y350.length : Int) 0) = some r := by first | (rw [hy350]; with_reducible exact H) | (have H2_ := (Option.bind_some _ _).symm.trans H; rw [hy350]; with_reducible exact H2_) | (have H2_ := (Option.bind_some _ _).symm.trans H; with_reducible exact H2_) | with_reducible exact H | (rw [hy350]; exact H) | exact H
    have Ny350 := Aside0.mk hy350
    clear hy350
    have H' := Aside0.mk H
    clear H
    go_enter Try.func21, Try.ntmps21
    go_wp2_with (first | ((with_reducible refine gate_dst (N := 5) rfl ?_); refine Kd.R_make (Kd.int .u8) _ 5 rfl (N := 5) rfl 42 _ _ rfl 8 rfl rfl Try.underlying42 (.int .u8 0) 1 info5 rfl (by decide) (by omega) 0 (ok := fun _ => True) (okp := fun _ => True) rfl (fun _ hk => hk) trivial (by omega) (by omega) (Below.refl _ _) (Nat.le_refl _) ?_; intro v351 w3 ho4 hb hg_ hnew_; clear hg_ hnew_; (first | rw [← Ny350.out] at ho4 | (simp only [Int.reduceToNat] at ho4; rw [← Ny350.out] at ho4)); have n0_ := Aside0.mk (Kd.R_lower ho4 (below_size (by repeat (first | (with_reducible first | exact HB.out | apply below_alloc | apply pw_below_drewN | apply below_drew1) | exact HB.out)))); have n1_ := Aside0.mk (below_step (by repeat (first | (with_reducible first | exact HB.out | apply below_alloc | apply pw_below_drewN | apply below_drew1) | exact HB.out)) hb); clear HB; have HO352 := n0_; have HB := n1_; clear n0_ n1_; clear hb ho4; obtain ⟨Ao5, co5, eo5⟩ := Kd.R_slice HO352.out; subst eo5))
    go_loopg [8] k (fun kq v8 w' => ∃ (x3_1 : List Int) (x8_1 : Int), v8 = .int .i64 x8_1 ∧ Aside0 (pack_Fixed.l0 kq a0 x3_1 (y350.length : Int) x8_1 = some r) ∧ Aside0 (kq ≤ k) ∧ Aside0 (Kd.R (Kd.int .u8) 5 w' w.heap.size (fun _ => True) (.slice Ao5 y350.length co5) x3_1) ∧ Aside0 (Below w.heap.size w w'))
    case atStart => exact ⟨(y350), (0), (by first | rfl | (simp; done) | (simp [*]; done)), H', ⟨Nat.le_refl _⟩, ⟨by (with_reducible repeat (first | apply Kd.R_alloc | apply Kd.R_drewN | apply Kd.R_drew)); exact HO352.out⟩, ⟨by repeat (first | (with_reducible first | exact HB.out | apply below_alloc | apply pw_below_drewN | apply below_drew1) | exact HB.out)⟩⟩
    case round =>
      clear H'
      try clear c2
      try clear c2b0
      try clear c2b1
      try clear p2
      obtain ⟨x3_1, x8_1, rfl, HA, HK1, HO_3, HB⟩ := hrel
      have hl3_1 := (Kd.R_reads' HO_3.out).1
      rw [hl3_1] at HO_3
      (try simp only [hl3_1])
      cases gk with
      | zero => exact absurd HA.out (by simp [pack_Fixed.l0])
      | succ k1 =>
        have H := HA.out
        clear HA
        simp only [pack_Fixed.l0] at H
        by_cases c6 : x8_1 < (y350.length : Int)
        · rw [if_pos c6] at H
          have c6b0 : decide (x8_1 < (y350.length : Int)) = true := decide_eq_true c6
          try simp only [hl3_1] at c6b0
          clear c6
          obtain ⟨ji7, hji7⟩ : ∃ j_ : Int, (wrap64 (8 * x8_1)) = j_ := ⟨_, rfl⟩
          replace H : (if 0 ≤ (ji7) then (if 0 ≤ x8_1 then (if x8_1 < (x3_1.length : Int) then (pack_Fixed.l0 k1 a0 (x3_1.set (x8_1 : Int).toNat ((shr .u64 a0 (ji7)) % 256)) (y350.length : Int) (wrap64 (x8_1 + 1))) else (none)) else (none)) else (none)) = some r := by first | (rw [hji7] at H; exact H) | (simp only [hji7] at H ⊢; exact H)
          have hji7w : (IntKind.i64.wrap (8 * x8_1)) = ji7 := (i64_w _).trans hji7
          by_cases c8 : 0 ≤ (ji7)
          · rw [if_pos c8] at H
            have c8b0 := eq_true c8
            have c8b1 : decide (0 ≤ (ji7)) = true := decide_eq_true c8
            clear c8
            obtain ⟨ji9, hji9⟩ : ∃ j_ : Int, (shr .u64 a0 (ji7)) = j_ := ⟨_, rfl⟩
            replace H : (if 0 ≤ x8_1 then (if x8_1 < (x3_1.length : Int) then (pack_Fixed.l0 k1 a0 (x3_1.set (x8_1 : Int).toNat ((ji9) % 256)) (y350.length : Int) (wrap64 (x8_1 + 1))) else (none)) else (none)) = some r := by first | (rw [hji9] at H; exact H) | (simp only [hji9] at H ⊢; exact H)
            have hji9_ : (a0 / 2 ^ min (ji7).toNat 64) = ji9 := hji9
            have hji9z : (ji7) ≤ 64 → (a0 / 2 ^ (ji7).toNat) = ji9 := shr_small hji9
            by_cases c10 : 0 ≤ x8_1
            · rw [if_pos c10] at H
              have c10b0 : decide (0 ≤ x8_1) = true := decide_eq_true c10
              clear c10
              by_cases c11 : x8_1 < (x3_1.length : Int)
              · rw [if_pos c11] at H
                have c11b0 : decide (x8_1 < (x3_1.length : Int)) = true := decide_eq_true c11
                clear c11
                obtain ⟨y353, hy353⟩ : ∃ y_ : List Int, y_ = (x3_1.set (x8_1 : Int).toNat ((ji9) % 256)) := ⟨_, rfl⟩
                replace H : (pack_Fixed.l0 k1 a0 y353 (y350.length : Int) (wrap64 (x8_1 + 1))) = some r := by first | (rw [hy353]; with_reducible exact H) | (have H2_ := (Option.bind_some _ _).symm.trans H; rw [hy353]; with_reducible exact H2_) | (have H2_ := (Option.bind_some _ _).symm.trans H; with_reducible exact H2_) | with_reducible exact H | (rw [hy353]; exact H) | exact H
                have Ny353 := Aside0.mk hy353
                clear hy353
                have H' := Aside0.mk H
                clear H
                have p12 : 0 ≤ (x8_1 : Int) := of_decide_eq_true (by first | (with_reducible assumption) | assumption)
                have q12 : (x8_1 : Int) < ((x3_1.length : Int) : Int) := of_decide_eq_true (by first | (with_reducible assumption) | assumption)
                obtain ⟨go12, co12, eo12, gb12, gl12, cl12, HG12⟩ := Kd.R_form HO_3.out (by omega)
                (first | cases eo12 | (injection eo12 with ea_ en_ ec_; (first | subst ea_ | (injection ea_ with ea_; subst ea_)); subst ec_; clear en_))
                have GB12 := Aside0.mk gb12
                have GG12 := Aside0.mk HG12
                clear gb12 gl12 HG12
                obtain ⟨hx12_0, hf12_0⟩ := Kd.R_celln 0 HO_3.out (x8_1 : Int) p12 q12
                replace p12 := eq_true p12
                replace q12 := eq_true q12
                have HP13 := Kd.R_putg HO_3.out (x8_1 : Int) ((ji9) % 256)
                go_wp2_with (first | ((with_reducible refine gate_store (t := 5) (p := 18) rfl ?_); refine store_event (t := 5) (p := 18) (v := ?vo_w14) (w1 := (wr.setCell ⟨go12, (x8_1 : Int).toNat, none⟩ (.int .u8 ((ji9) % 256)))) ?hg ?ho ?hn ?hr ?_; (case ho => rfl); (case hg => rfl); (case hn => rfl); (case hr => first | (go_simp; done) | (go_simp; rfl)); intro w14 hw; have hg : wr.grownBy w14 (some go12) := (by rw [hw]; exact HP13.2); have hp_ : Kd.R (Kd.int .u8) 5 w14 w.heap.size (fun _ => True) (.slice (some ⟨go12, 0, none⟩) x3_1.length co5) y353 := (by rw [hw, Ny353.out]; exact HP13.1); clear HP13; have n0_ := Aside0.mk (hp_); have n1_ := Aside0.mk ((by rw [hw]; exact below_set (HB.out) GB12.out : Below w.heap.size w w14)); clear HO_3; clear HB; have HO_3 := n0_; have HB := n1_; clear n0_ n1_; clear hg hw hp_))
                (try simp only [← hl3_1])
                go_roundg k1
                case measure => have := HK1.out; omega
                case rel => exact ⟨(y353), (wrap64 (x8_1 + 1)), (by first | rfl | (simp; done) | (simp [*]; done)), H', ⟨by have := HK1.out; omega⟩, ⟨by (try simp only [hl3_1]); (with_reducible repeat (first | apply Kd.R_alloc | apply Kd.R_drewN | apply Kd.R_drew)); exact HO_3.out⟩, ⟨by repeat (first | (with_reducible first | exact HB.out | apply below_alloc | apply pw_below_drewN | apply below_drew1) | exact HB.out)⟩⟩
              · rw [if_neg c11] at H
                exact absurd H (by simp)
            · rw [if_neg c10] at H
              exact absurd H (by simp)
          · rw [if_neg c8] at H
            exact absurd H (by simp)
        · rw [if_neg c6] at H
          have c6b0 : decide (x8_1 < (y350.length : Int)) = false := decide_eq_false c6
          try simp only [hl3_1] at c6b0
          clear c6
          obtain rfl := Option.some.inj H
          have hcv15 := own_string (P := Try.prog) Try.underlying42 Try.underlying5 Try.underlying9 (Kd.own_of_R HO_3.out)
          go_wp2
          go_ret
          exact ⟨by first | rfl | (simp [errW_none, errW_some] <;> rfl) | (simp [*, errW_none, errW_some] <;> rfl), by repeat (first | (with_reducible first | exact HB.out | apply below_alloc | apply pw_below_drewN | apply below_drew1) | exact HB.out)⟩
  · rw [if_neg c2] at H
    exact absurd H (by simp)
end Go.Proofs.Ytfcndhajcikgiaa.B
namespace Go.Proofs.Ytfcndhajcikgiaa.B
open Go.RowKit Go.Proofs.Fl Go.Proofs.YtfcndhajcikgiaaW.PrintWords
theorem IsBuilderF_below {T e : TypeId} {B b : Nat} {bs : List Value} {w w' : World} (h : Lib.IsBuilderF T e B b bs w) (hb : Below w.heap.size w w') : Lib.IsBuilderF T e B b bs w' := by
  have one : ∀ p, Lib.BuilderAtF T e B b p bs w → Lib.BuilderAtF T e B b p bs w' := by
    rintro p ⟨h1, v, h2, h3, h4⟩
    exact ⟨h1, v, (hb.block b (blk_lt h2)).trans h2, h3.kept (grown_of_below hb none) (by cases hv : v.ownBlock with | none => exact .inl rfl | some k => exact .inr (by simp)), h4⟩
  rcases h with h | h
  · exact .inl (one _ h)
  · exact .inr (one _ h)
/-- The builder in the midst of One, the move's own variable below it. -/
def BW (w W : World) (o : Obj) (l : List UInt8) : Prop :=
  Lib.IsBuilderF 45 5 (w.heap.size + 1) (w.heap.size + 1) (Lib.byteCells l) W ∧ Below w.heap.size w W ∧ W.heap[w.heap.size]? = some o ∧ w.heap.size + 1 ≤ W.heap.size
theorem BW.start (w : World) (o : Obj) : BW w ((w.alloc o).alloc (.cells #[.pointer none, .slice none 0 0] 45)) o [] := by
  have hb := heap_alloc_new (w.alloc o) (.cells #[.pointer none, .slice none 0 0] 45)
  rw [World.size_alloc] at hb
  refine ⟨.inl ⟨Nat.le_refl _, .slice none 0 0, hb, World.ownsRowF_nil _ _ _ _, by simp [Value.ownBlock]⟩, below_alloc (below_alloc (Below.refl _ _) _) _, (Below.heap_alloc _ _ _ (by simp)).trans (heap_alloc_new w o), by simp⟩
theorem BW.below {w W W2 : World} {o : Obj} {l : List UInt8} (h : BW w W o l) (hb : Below W.heap.size W W2) : BW w W2 o l :=
  ⟨IsBuilderF_below h.1 hb, h.2.1.trans (hb.mono h.2.1.size), (hb.block _ (blk_lt h.2.2.1)).trans h.2.2.1, by have := h.2.2.2; have := hb.size; omega⟩
theorem byteCells_append (l m : List UInt8) : Lib.byteCells l ++ Lib.byteCells m = Lib.byteCells (l ++ m) := by simp [Lib.byteCells]
theorem BW.write {w W W2 : World} {o : Obj} {l : List UInt8} {s : ByteArray} (h : BW w W o l) (h1 : Lib.IsBuilderF 45 5 (w.heap.size + 1) (w.heap.size + 1) (Lib.byteCells l ++ Lib.strCells s) W2) (h2 : Below (w.heap.size + 1) W W2) : BW w W2 o (l ++ s.data.toList) :=
  ⟨by rw [← byteCells_append]; exact h1, h.2.1.trans (h2.mono (by omega)), (h2.block _ (by omega)).trans h.2.2.1, by have := h.2.2.2; have := h2.size; omega⟩
theorem index_four0 (a b c d : Int) (W : World) : (Instr.index 46 (.agg #[.int .i64 a, .int .i64 b, .int .i64 c, .int .i64 d]) (.int .i64 0)).run Try.prog W = .ok (.int .i64 a) W := by kernel_rfl
theorem index_four1 (a b c d : Int) (W : World) : (Instr.index 46 (.agg #[.int .i64 a, .int .i64 b, .int .i64 c, .int .i64 d]) (.int .i64 1)).run Try.prog W = .ok (.int .i64 b) W := by kernel_rfl
theorem index_four2 (a b c d : Int) (W : World) : (Instr.index 46 (.agg #[.int .i64 a, .int .i64 b, .int .i64 c, .int .i64 d]) (.int .i64 2)).run Try.prog W = .ok (.int .i64 c) W := by kernel_rfl
theorem index_four3 (a b c d : Int) (W : World) : (Instr.index 46 (.agg #[.int .i64 a, .int .i64 b, .int .i64 c, .int .i64 d]) (.int .i64 3)).run Try.prog W = .ok (.int .i64 d) W := by kernel_rfl
def cum (b0 b1 b2 b3 : ByteArray) : Nat → List UInt8
  | 0 => []
  | 1 => [] ++ b0.data.toList
  | 2 => [] ++ b0.data.toList ++ b1.data.toList
  | 3 => [] ++ b0.data.toList ++ b1.data.toList ++ b2.data.toList
  | _ => [] ++ b0.data.toList ++ b1.data.toList ++ b2.data.toList ++ b3.data.toList
theorem byteCells_length (l : List UInt8) : (Lib.byteCells l).length = l.length := by simp [Lib.byteCells]
theorem arr_len (b : ByteArray) : b.data.toList.length = b.size := by simp
/-- rows.One, in the printed form. -/
def rows_One.f (c r p ch : Int) (name : ByteArray) (rank : Nat) : Option ByteArray :=
  (pack_Put.f 20 (IntKind.u64.wrap c)).bind fun b0 => (pack_Put.f 20 (IntKind.u64.wrap r)).bind fun b1 => (pack_Put.f 20 (IntKind.u64.wrap p)).bind fun b2 => (pack_Put.f 20 (IntKind.u64.wrap ch)).bind fun b3 =>
  (word_Put.f 20 name).bind fun b4 => (bits_Bits.f rank).bind fun x => (pack_Fixed.f 20 x).bind fun b5 =>
    if b0.size + b1.size + b2.size + b3.size + b4.size + b5.size ≤ 140737488355328 then some ⟨(b0.data.toList ++ b1.data.toList ++ b2.data.toList ++ b3.data.toList ++ b4.data.toList ++ b5.data.toList).toArray⟩ else none
set_option maxRecDepth 100000 in
set_option maxHeartbeats 2000000 in
theorem rows_One.calls (c r p ch : Int) (name : ByteArray) (rank : Nat) (res : ByteArray) (w : World) (h : rows_One.f c r p ch name rank = some res) :
    Calls Try.prog 9 #[.agg #[.int .i64 c, .int .i64 r, .int .i64 p, .int .i64 ch, .string name, .float .f64 rank]] w fun e w' => e = .returned (.string res) ∧ Below w.heap.size w w' := by
  obtain ⟨b0, h0, h⟩ := Option.bind_eq_some_iff.mp h
  obtain ⟨b1, h1, h⟩ := Option.bind_eq_some_iff.mp h
  obtain ⟨b2, h2, h⟩ := Option.bind_eq_some_iff.mp h
  obtain ⟨b3, h3, h⟩ := Option.bind_eq_some_iff.mp h
  obtain ⟨b4, h4, h⟩ := Option.bind_eq_some_iff.mp h
  obtain ⟨x, h5, h⟩ := Option.bind_eq_some_iff.mp h
  obtain ⟨b5, h6, h⟩ := Option.bind_eq_some_iff.mp h
  split at h
  case isFalse => cases h
  rename_i hsz
  obtain rfl := Option.some.inj h
  have H0 := Lib.hid h0
  have H1 := Lib.hid h1
  have H2 := Lib.hid h2
  have H3 := Lib.hid h3
  have H4 := Lib.hid h4
  have H5 := Lib.hid h5
  have H6 := Lib.hid h6
  clear h h0 h1 h2 h3 h4 h5 h6
  go_enter Try.func9, Try.ntmps9
  have i0 := index_four0 c r p ch
  have i1 := index_four1 c r p ch
  have i2 := index_four2 c r p ch
  have i3 := index_four3 c r p ch
  go_wp2
  go_loopw [17] (fun v wr => ∃ k : Nat, v = .int .i64 k ∧ k ≤ 4 ∧ BW w wr (.cells #[.int .i64 c, .int .i64 r, .int .i64 p, .int .i64 ch, .string name, .float .f64 rank] 30) (cum b0 b1 b2 b3 k)) (fun v _ => 4 - (intOf v).toNat)
  case atStart => exact ⟨0, rfl, by omega, BW.start w _⟩
  case round =>
    obtain ⟨k, rfl, hk, hbw⟩ := hrel
    have HBW := Lib.hid hbw
    clear hbw
    by_cases hk4 : k < 4
    · rcases (by omega : k = 0 ∨ k = 1 ∨ k = 2 ∨ k = 3) with rfl | rfl | rfl | rfl
      · go_wp2_with (first | (go_at_call 19; refine (pack_Put.calls 20 _ _ _ H0.out).mono ?_; rintro e wa ⟨rfl, hb⟩; have HP := Lib.hid (HBW.out.below hb); clear hb) | (go_at_call 18; refine (WriteString_k (w.heap.size + 1) (w.heap.size + 1) _ b0 _ HP.out.1 (by rw [byteCells_length]; simp only [cum, List.length_append, List.length_nil, arr_len]; omega) HP.out.2.2.2).mono ?_; rintro e wb ⟨rfl, hq1, hq2, -⟩; have HQ := Lib.hid (HP.out.write hq1 hq2); clear hq1 hq2))
        refine ⟨⟨1, rfl, by omega, HQ.out⟩, by simp [intOf]⟩
      · go_wp2_with (first | (go_at_call 19; refine (pack_Put.calls 20 _ _ _ H1.out).mono ?_; rintro e wa ⟨rfl, hb⟩; have HP := Lib.hid (HBW.out.below hb); clear hb) | (go_at_call 18; refine (WriteString_k (w.heap.size + 1) (w.heap.size + 1) _ b1 _ HP.out.1 (by rw [byteCells_length]; simp only [cum, List.length_append, List.length_nil, arr_len]; omega) HP.out.2.2.2).mono ?_; rintro e wb ⟨rfl, hq1, hq2, -⟩; have HQ := Lib.hid (HP.out.write hq1 hq2); clear hq1 hq2))
        refine ⟨⟨2, rfl, by omega, HQ.out⟩, by simp [intOf]⟩
      · go_wp2_with (first | (go_at_call 19; refine (pack_Put.calls 20 _ _ _ H2.out).mono ?_; rintro e wa ⟨rfl, hb⟩; have HP := Lib.hid (HBW.out.below hb); clear hb) | (go_at_call 18; refine (WriteString_k (w.heap.size + 1) (w.heap.size + 1) _ b2 _ HP.out.1 (by rw [byteCells_length]; simp only [cum, List.length_append, List.length_nil, arr_len]; omega) HP.out.2.2.2).mono ?_; rintro e wb ⟨rfl, hq1, hq2, -⟩; have HQ := Lib.hid (HP.out.write hq1 hq2); clear hq1 hq2))
        refine ⟨⟨3, rfl, by omega, HQ.out⟩, by simp [intOf]⟩
      · go_wp2_with (first | (go_at_call 19; refine (pack_Put.calls 20 _ _ _ H3.out).mono ?_; rintro e wa ⟨rfl, hb⟩; have HP := Lib.hid (HBW.out.below hb); clear hb) | (go_at_call 18; refine (WriteString_k (w.heap.size + 1) (w.heap.size + 1) _ b3 _ HP.out.1 (by rw [byteCells_length]; simp only [cum, List.length_append, List.length_nil, arr_len]; omega) HP.out.2.2.2).mono ?_; rintro e wb ⟨rfl, hq1, hq2, -⟩; have HQ := Lib.hid (HP.out.write hq1 hq2); clear hq1 hq2))
        refine ⟨⟨4, rfl, by omega, HQ.out⟩, by simp [intOf]⟩
    · obtain rfl : k = 4 := by omega
      have m4 : wr.cell? ⟨w.heap.size, 4, none⟩ = some (.string name) := (blk_cell HBW.out.2.2.1 4).trans rfl
      go_wp2_with (first
        | (go_at_call 20; refine (word_Put.calls 20 _ _ _ H4.out).mono ?_; rintro e wa ⟨rfl, hb⟩; have HP := Lib.hid (HBW.out.below hb); clear hb)
        | (go_at_call 18; refine (WriteString_k (w.heap.size + 1) (w.heap.size + 1) _ b4 _ HP.out.1 (by rw [byteCells_length]; simp only [cum, List.length_append, List.length_nil, arr_len]; omega) HP.out.2.2.2).mono ?_; rintro e wb ⟨rfl, hq1, hq2, -⟩; have HR4 := Lib.hid (HP.out.write hq1 hq2); have m5 : wb.cell? ⟨w.heap.size, 5, none⟩ = some (.float .f64 rank) := (blk_cell HR4.out.2.2.1 5).trans rfl; clear hq1 hq2))
      go_wp2_with (go_at_call 22; refine (bits_Bits.calls _ _ _ H5.out).mono ?_; rintro e wc ⟨rfl, hb⟩; have HS := Lib.hid (HR4.out.below hb); clear hb HP)
      go_wp2_with (first
        | (go_at_call 21; refine (pack_Fixed.calls 20 _ _ _ H6.out).mono ?_; rintro e wa ⟨rfl, hb⟩; have HP := Lib.hid (HS.out.below hb); clear hb)
        | (go_at_call 18; refine (WriteString_k (w.heap.size + 1) (w.heap.size + 1) _ b5 _ HP.out.1 (by rw [byteCells_length]; simp only [cum, List.length_append, List.length_nil, arr_len]; omega) HP.out.2.2.2).mono ?_; rintro e wb ⟨rfl, hq1, hq2, -⟩; have HR5 := Lib.hid (HP.out.write hq1 hq2); have m5 : wb.cell? ⟨w.heap.size, 5, none⟩ = some (.float .f64 rank) := (blk_cell HR5.out.2.2.1 5).trans rfl; clear hq1 hq2))
      go_wp2_with (go_at_call 23; refine (Try.Builder_String_any_k (w.heap.size + 1) (w.heap.size + 1) _ _ HR5.out.1 HR5.out.2.2.2).mono ?_; rintro e wd ⟨rfl, -, hb, -⟩; have HE := Lib.hid (HR5.out.2.1.trans (hb.mono (by omega))); clear hb)
      go_ret
      exact ⟨congrArg (fun l : List UInt8 => Ending.returned (.string ⟨l.toArray⟩)) (by simp only [cum, List.nil_append, List.append_assoc]), HE.out⟩
end Go.Proofs.Ytfcndhajcikgiaa.B
namespace Go.Proofs.Ytfcndhajcikgiaa.B
open Go.RowKit Go.Proofs.Fl Go.Proofs.YtfcndhajcikgiaaW.PrintWords Go.Proofs.YtfcndhajcikgiaaW.PrintLast Go.Proofs.YtfcndhajcikgiaaW.PrintMore
def onesM : List S30 → Option (List UInt8)
  | [] => some []
  | x :: r => (rows_One.f x.f0.f0 x.f0.f1 x.f1 x.f2 x.f3 x.f4).bind fun a => (onesM r).bind fun t => some (a.data.toList ++ t)
def headM : ByteArray := ⟨#[66, 78, 83, 73, 1]⟩
/-- rows.Encode, in the printed form. -/
def rows_Encode.f (l : List S30) : Option (ByteArray × Int) :=
  if mayM l then (pack_Put.f 20 (l.length : Int)).bind fun b0 => (onesM l).bind fun t =>
    if 5 + b0.size + t.length ≤ 140737488355328 then some (⟨(headM.data.toList ++ b0.data.toList ++ t).toArray⟩, 0) else none
  else some (⟨#[]⟩, 1)
/-- The builder in the midst of Encode. -/
def BE (w W : World) (b : Nat) (l : List UInt8) : Prop :=
  Lib.IsBuilderF 45 5 b b (Lib.byteCells l) W ∧ Below w.heap.size w W ∧ w.heap.size ≤ b ∧ b ≤ W.heap.size
theorem BE.start {w W : World} (h : Below w.heap.size w W) : BE w (W.alloc (.cells #[.pointer none, .slice none 0 0] 45)) W.heap.size [] :=
  ⟨.inl ⟨Nat.le_refl _, .slice none 0 0, heap_alloc_new _ _, World.ownsRowF_nil _ _ _ _, by simp [Value.ownBlock]⟩, below_alloc h _, h.size, by simp⟩
theorem BE.below {w W W2 : World} {b : Nat} {l : List UInt8} (h : BE w W b l) (hb : Below W.heap.size W W2) : BE w W2 b l :=
  ⟨IsBuilderF_below h.1 hb, h.2.1.trans (hb.mono h.2.1.size), h.2.2.1, by have := h.2.2.2; have := hb.size; omega⟩
theorem BE.write {w W W2 : World} {b : Nat} {l : List UInt8} {s : ByteArray} (h : BE w W b l) (h1 : Lib.IsBuilderF 45 5 b b (Lib.byteCells l ++ Lib.strCells s) W2) (h2 : Below b W W2) : BE w W2 b (l ++ s.data.toList) :=
  ⟨by rw [← byteCells_append]; exact h1, h.2.1.trans (h2.mono h.2.2.1), h.2.2.1, by have := h.2.2.2; have := h2.size; omega⟩
set_option maxRecDepth 100000 in
set_option maxHeartbeats 2000000 in
theorem rows_Encode.calls (A0 : Option Addr) (c0 : Nat) (l0 : List S30) (r1 : ByteArray) (r2 : Int) (w : World) (hr0 : Kd.C k30 w A0 l0.length l0) (hc0 : l0.length ≤ c0) (h : rows_Encode.f l0 = some (r1, r2)) :
    Calls Try.prog 11 #[.slice A0 l0.length c0] w fun e w' => e = .returned (.tuple #[.string r1, .int .i64 r2]) ∧ Below w.heap.size w w' := by
  have HR := Lib.hid hr0
  have hlen : l0.length ≤ 9223372036854775807 := hr0.2.1
  clear hr0
  unfold rows_Encode.f at h
  by_cases hm : mayM l0 = true
  · rw [if_pos hm] at h
    obtain ⟨b0, h0, h⟩ := Option.bind_eq_some_iff.mp h
    obtain ⟨t, h1, h⟩ := Option.bind_eq_some_iff.mp h
    split at h
    case isFalse => cases h
    rename_i hsz
    simp only [Option.some.injEq, Prod.mk.injEq] at h
    obtain ⟨rfl, rfl⟩ := h
    have H0 := Lib.hid h0
    have H1 := Lib.hid h1
    have HM := Lib.hid (show moves_May.f l0 = some true by unfold moves_May.f; rw [hm])
    clear h0 h1 hm
    go_enter Try.func11, Try.ntmps11
    go_wp2_with (go_at_call 28; refine (moves_May.calls A0 c0 l0 _ _ HR.out hc0 HM.out).mono ?_; rintro e w1 ⟨rfl, hb⟩; have S1 := Lib.hid (BE.start hb); clear hb)
    go_wp2_with (go_at_call 18; refine (WriteString_k w1.heap.size w1.heap.size _ headM _ S1.out.1 (by simp [Lib.byteCells, headM, ByteArray.size]) S1.out.2.2.2).mono ?_; rintro e w2 ⟨rfl, hq1, hq2, -⟩; have S2 := Lib.hid (S1.out.write hq1 hq2); clear hq1 hq2)
    go_wp2_with (first
      | (go_at_call 19; refine (pack_Put.calls 20 _ _ _ H0.out).mono ?_; rintro e w3 ⟨rfl, hb⟩; have S3 := Lib.hid (S2.out.below hb); clear hb)
      | (go_at_call 18; refine (WriteString_k w1.heap.size w1.heap.size _ b0 _ S3.out.1 (by rw [byteCells_length]; simp only [List.length_append, List.length_nil, arr_len]; show 0 + 5 + b0.size ≤ _; omega) S3.out.2.2.2).mono ?_; rintro e w4 ⟨rfl, hq1, hq2, -⟩; have S4 := Lib.hid (S3.out.write hq1 hq2); clear hq1 hq2))
    obtain ⟨B, hB⟩ : ∃ B, B = w1.heap.size := ⟨_, rfl⟩
    rw [← hB] at S4 ⊢
    clear S1 S2 S3 hB
    go_loopw [18] (fun v wr => ∃ (i : Nat) (pre suf : List UInt8), v = .int .i64 i ∧ i ≤ l0.length ∧ onesM (l0.drop i) = some suf ∧ t = pre ++ suf ∧ BE w wr B ([] ++ headM.data.toList ++ b0.data.toList ++ pre)) (fun v _ => l0.length - (intOf v).toNat)
    case atStart => exact ⟨0, [], t, rfl, by omega, H1.out, rfl, by rw [List.append_nil]; exact S4.out⟩
    case round =>
      obtain ⟨i, pre, suf, rfl, hi, hs, ht, hbe⟩ := hrel
      have HS := Lib.hid hs
      have HT := Lib.hid ht
      have HE := Lib.hid hbe
      clear hs ht hbe
      by_cases hlt : i < l0.length
      · obtain ⟨ad, rfl, x0, x1, x2, x3, x4, x5⟩ := at_T30 HR.out i (by omega) (by omega)
        replace x0 := (HE.out.2.1.cell (World.block_lt_of_cell? w _ x0)).trans x0
        replace x1 := (HE.out.2.1.cell (World.block_lt_of_cell? w _ x1)).trans x1
        replace x2 := (HE.out.2.1.cell (World.block_lt_of_cell? w _ x2)).trans x2
        replace x3 := (HE.out.2.1.cell (World.block_lt_of_cell? w _ x3)).trans x3
        replace x4 := (HE.out.2.1.cell (World.block_lt_of_cell? w _ x4)).trans x4
        replace x5 := (HE.out.2.1.cell (World.block_lt_of_cell? w _ x5)).trans x5
        rw [rd_get l0 i hlt] at x0 x1 x2 x3 x4 x5
        simp only [Int.toNat_natCast] at x0 x1 x2 x3 x4 x5
        have hs := HS.out
        rw [List.drop_eq_getElem_cons hlt, onesM] at hs
        obtain ⟨m, hm⟩ : ∃ m, m = l0[i] := ⟨_, rfl⟩
        rw [← hm] at x0 x1 x2 x3 x4 x5 hs
        obtain ⟨a, ha, hs⟩ := Option.bind_eq_some_iff.mp hs
        obtain ⟨tl, htl, hs⟩ := Option.bind_eq_some_iff.mp hs
        obtain rfl := Option.some.inj hs
        have HA := Lib.hid ha
        have HTL := Lib.hid htl
        have hsz2 : pre.length + a.size + tl.length = t.length := by
          have := congrArg List.length HT.out
          simp only [List.length_append, arr_len] at this; omega
        clear hm ha htl hs
        go_wp2_with (first
          | (go_at_call 9; refine (rows_One.calls _ _ _ _ _ _ a _ HA.out).mono ?_; rintro e w5 ⟨rfl, hb⟩; have S5 := Lib.hid ((HE.out.below (below_alloc (Below.refl _ _) _)).below hb); clear hb)
          | (go_at_call 18; refine (WriteString_k B B _ a _ S5.out.1 (by rw [byteCells_length]; simp only [List.length_append, List.length_nil, arr_len]; show 0 + 5 + b0.size + pre.length + a.size ≤ _; omega) S5.out.2.2.2).mono ?_; rintro e w6 ⟨rfl, hq1, hq2, -⟩; have S6 := Lib.hid (S5.out.write hq1 hq2); clear hq1 hq2))
        refine ⟨⟨i + 1, pre ++ a.data.toList, tl, by go_num, by omega, HTL.out, by rw [HT.out]; simp, by rw [← List.append_assoc]; exact S6.out⟩, ?_⟩
        simp [intOf]; omega
      · obtain rfl : i = l0.length := by omega
        have hsuf : suf = [] := by
          have := HS.out; rw [List.drop_length, onesM] at this; exact (Option.some.inj this).symm
        go_wp2_with (go_at_call 23; refine (Try.Builder_String_any_k B B _ _ HE.out.1 HE.out.2.2.2).mono ?_; rintro e wd ⟨rfl, -, hb, -⟩; have HF := Lib.hid (HE.out.2.1.trans (hb.mono HE.out.2.2.1)); clear hb)
        go_ret2
        exact ⟨congrArg (fun l : List UInt8 => Ending.returned (.tuple #[.string ⟨l.toArray⟩, .int .i64 0])) (by rw [HT.out, hsuf]; simp), HF.out⟩
  · rw [if_neg hm] at h
    simp only [Option.some.injEq, Prod.mk.injEq] at h
    obtain ⟨rfl, rfl⟩ := h
    have HM := Lib.hid (show moves_May.f l0 = some false by unfold moves_May.f; rw [Bool.eq_false_iff.mpr hm])
    clear hm
    go_enter Try.func11, Try.ntmps11
    go_wp2_with (go_at_call 28; refine (moves_May.calls A0 c0 l0 _ _ HR.out hc0 HM.out).mono ?_; rintro e w1 ⟨rfl, hb⟩; have HB := Lib.hid hb; clear hb)
    go_ret2
    exact ⟨rfl, HB.out⟩
end Go.Proofs.Ytfcndhajcikgiaa.B
namespace Go.Proofs.Ytfcndhajcikgiaa.B
open Go.RowKit Go.Proofs.Sp Go.Proofs.Fl Go.Proofs.YtfcndhajcikgiaaW.PrintWords Go.Proofs.YtfcndhajcikgiaaW.PrintLast Go.Proofs.YtfcndhajcikgiaaW.PrintMore
def ba (l : List UInt8) : ByteArray := ⟨l.toArray⟩
theorem ba_list (l : List UInt8) : (ba l).data.toList = l := rfl
theorem ba_size (l : List UInt8) : (ba l).size = l.length := by simp [ba, ByteArray.size]
theorem ba_append (a b : List UInt8) : ba a ++ ba b = ba (a ++ b) := by apply ba_ext; simp [ba]
theorem ba_self (s : ByteArray) : ba s.data.toList = s := ba_ext rfl
theorem ba_inj {a b : List UInt8} (h : ba a = ba b) : a = b := by have := congrArg (fun s : ByteArray => s.data.toList) h; exact this
def numsL (l : List UInt8) : List Int := l.map fun b => (b.toNat : Int)
theorem str_nums (l : List UInt8) : strOfNums (numsL l) = ba l := by
  unfold strOfNums numsL ba
  rw [List.map_map]
  congr 2
  exact (List.map_congr_left (fun b _ => by simp)).trans (List.map_id l)
theorem numsL_snoc (l : List UInt8) (n : Nat) (hn : n < 256) {x : Int} (hx : x = n) : numsL l ++ [x] = numsL (l ++ [UInt8.ofNat n]) := by
  unfold numsL; rw [List.map_append, hx]; simp; omega
theorem numsL_length (l : List UInt8) : (numsL l).length = l.length := by simp [numsL]
theorem or_128 : ∀ n : Fin 256, Go.bits .or .u8 ((n.val : Nat) : Int) 128 = ((n.val % 128 + 128 : Nat) : Int) := by decide +kernel
theorem pack_put_l : ∀ (f v k : Nat) (pre : List UInt8), v < 128 ^ (f + 1) → f + 1 ≤ k → pre.length + f ≤ 1000 → pack_Put.l0 k v (numsL pre) = some (ba (pre ++ putF (f + 1) v)) := by
  intro f
  induction f with
  | zero =>
    intro v k pre hv hk hp
    obtain ⟨k, rfl⟩ : ∃ m, k = m + 1 := ⟨k - 1, by omega⟩
    have hs : v < 128 := by omega
    rw [pack_Put.l0, putF, if_neg (by omega), if_pos (by rw [numsL_length]; omega), if_pos hs, numsL_snoc pre v (by omega) (by omega), str_nums]
  | succ f ih =>
    intro v k pre hv hk hp
    obtain ⟨k, rfl⟩ : ∃ m, k = m + 1 := ⟨k - 1, by omega⟩
    rw [pack_Put.l0, putF]
    by_cases hs : v < 128
    · rw [if_neg (by omega), if_pos (by rw [numsL_length]; omega), if_pos hs, numsL_snoc pre v (by omega) (by omega), str_nums]
    · rw [if_pos (by omega), if_pos (by rw [numsL_length]; omega), if_neg hs]
      have e1 : (v : Int) % 256 = (((⟨v % 256, Nat.mod_lt _ (by decide)⟩ : Fin 256).val : Nat) : Int) := by simp
      rw [e1, or_128, numsL_snoc pre (v % 128 + 128) (by omega) (by simp), show (v : Int) / 128 = ((v / 128 : Nat) : Int) by omega,
        ih (v / 128) k _ (by rw [Nat.pow_succ] at hv; omega) (by omega) (by simp; omega), List.append_assoc]
      rfl
theorem pack_put_f {v : Nat} (hv : v < 2 ^ 64) (k : Nat) (hk : 10 ≤ k) : pack_Put.f k v = some (ba (putL v)) :=
  pack_put_l 9 v k [] (Nat.lt_of_lt_of_le hv (by decide)) hk (by decide)
theorem fixF_snoc : ∀ i v, fixF (i + 1) v = fixF i v ++ [UInt8.ofNat (v / 256 ^ i % 256)]
  | 0, v => by simp [fixF]
  | i + 1, v => by
    rw [fixF, fixF_snoc i (v / 256)]
    rw [show v / 256 / 256 ^ i = v / 256 ^ (i + 1) by rw [Nat.div_div_eq_div_mul, Nat.pow_succ, Nat.mul_comm]]
    rfl
theorem pack_fix_l : ∀ (f i v k : Nat), i + f = 8 → f + 1 ≤ k → pack_Fixed.l0 k v (numsL (fixF i v) ++ List.replicate f 0) 8 i = some (ba (fixL v))
  | 0, i, v, k, hi, hk => by
    obtain ⟨k, rfl⟩ : ∃ m, k = m + 1 := ⟨k - 1, by omega⟩
    obtain rfl : i = 8 := by omega
    rw [pack_Fixed.l0, if_neg (by omega), List.replicate_zero, List.append_nil, str_nums]; rfl
  | f + 1, i, v, k, hi, hk => by
    obtain ⟨k, rfl⟩ : ∃ m, k = m + 1 := ⟨k - 1, by omega⟩
    have hl : (numsL (fixF i v) ++ List.replicate (f + 1) (0 : Int)).length = 8 := by rw [List.length_append, numsL_length, fixF_length, List.length_replicate]; omega
    rw [pack_Fixed.l0, if_pos (by omega), w64 (n := 8 * (i : Int)) (by omega) (by omega), if_pos (by omega), if_pos (by omega), if_pos (by rw [hl]; omega), w64 (n := (i : Int) + 1) (by omega) (by omega)]
    have e1 : shr .u64 (v : Int) (8 * (i : Int)) % 256 = ((v / 256 ^ i % 256 : Nat) : Int) := by
      unfold shr
      rw [show (8 * (i : Int)).toNat = 8 * i by omega, show min (8 * i) (IntKind.u64.bits) = 8 * i by simp [IntKind.bits]; omega, Int.natCast_emod, Int.natCast_ediv, show ((256 ^ i : Nat) : Int) = 2 ^ (8 * i) by rw [show (256 : Nat) ^ i = 2 ^ (8 * i) by rw [Nat.pow_mul], Int.natCast_pow]; rfl]
      rfl
    have e2 : (numsL (fixF i v) ++ List.replicate (f + 1) (0 : Int)).set (i : Int).toNat (shr .u64 (v : Int) (8 * (i : Int)) % 256) = numsL (fixF (i + 1) v) ++ List.replicate f 0 := by
      rw [Int.toNat_natCast, List.set_append_right _ _ (by rw [numsL_length, fixF_length]; exact Nat.le_refl _), numsL_length, fixF_length, Nat.sub_self, List.replicate_succ, List.set_cons_zero, fixF_snoc,
        ← numsL_snoc _ (v / 256 ^ i % 256) (Nat.mod_lt _ (by decide)) e1, List.append_assoc]
      rfl
    rw [e2]
    exact pack_fix_l f (i + 1) v k (by omega) (by omega)
theorem pack_fix_f {v : Nat} (k : Nat) (hk : 10 ≤ k) : pack_Fixed.f k v = some (ba (fixL v)) := by
  unfold pack_Fixed.f
  rw [if_pos (by decide)]
  simp only [Option.bind_some]
  exact pack_fix_l 8 0 v k rfl (by omega)
theorem putL_le (v : Nat) : (putL v).length ≤ 10 := putF_le 10 v
theorem pack_text_f {s : ByteArray} (hs : s.size ≤ 1000000) (k : Nat) (hk : 10 ≤ k) : word_Put.f k s = some (ba (putL s.size ++ s.data.toList)) := by
  unfold word_Put.f
  have := putL_le s.size
  rw [pack_put_f (by omega) k hk]
  simp only [Option.bind_some]
  rw [if_pos (by rw [ba_size]; omega)]
  congr 1
/-- A move as it lies in memory, by its bytes. -/
def toS (x : S30) : MoveS := { c := x.f0.f0, r := x.f0.f1, p := x.f1, ch := x.f2, name := x.f3, rank := (canon x.f4).toNat }
def w64u (n : Int) : Nat := (IntKind.u64.wrap n).toNat
theorem w64u_lt (n : Int) : w64u n < 2 ^ 64 ∧ ((w64u n : Nat) : Int) = IntKind.u64.wrap n := by
  unfold w64u
  have h : IntKind.u64.wrap n = n % 18446744073709551616 := by simp [IntKind.wrap, IntKind.bits, IntKind.signed]
  rw [h]
  omega
theorem w64u_id {n : Int} (h0 : 0 ≤ n) (h1 : n ≤ 9223372036854775807) : w64u n = n.toNat := by unfold w64u; rw [u64w h0 h1]
theorem canon_nat {b : Nat} (h : b < 2 ^ 64) : (((canon b).toNat : Nat) : Int) = canon b ∧ (canon b).toNat < 2 ^ 64 := by
  unfold canon; split <;> omega
/-- Any move's bytes. -/
def encX (x : S30) : List UInt8 := putL (w64u x.f0.f0) ++ (putL (w64u x.f0.f1) ++ (putL (w64u x.f1) ++ (putL (w64u x.f2) ++ ((putL x.f3.size ++ x.f3.data.toList) ++ fixL (canon x.f4).toNat))))
theorem fixL_length (v : Nat) : (fixL v).length = 8 := fixF_length 8 v
theorem encX_le (x : S30) : (encX x).length ≤ 58 + x.f3.size := by
  have h0 := putL_le (w64u x.f0.f0); have h1 := putL_le (w64u x.f0.f1); have h2 := putL_le (w64u x.f1); have h3 := putL_le (w64u x.f2); have h4 := putL_le x.f3.size
  unfold encX
  simp only [List.length_append, fixL_length, len_size]; omega
theorem one_f_ {x : S30} (hr : x.f4 < 2 ^ 64) (hn : x.f3.size ≤ 1000) : rows_One.f x.f0.f0 x.f0.f1 x.f1 x.f2 x.f3 x.f4 = some (ba (encX x)) := by
  have hl := encX_le x
  unfold rows_One.f
  rw [← (w64u_lt x.f0.f0).2, ← (w64u_lt x.f0.f1).2, ← (w64u_lt x.f1).2, ← (w64u_lt x.f2).2, pack_put_f (w64u_lt _).1 20 (by omega), pack_put_f (w64u_lt _).1 20 (by omega), pack_put_f (w64u_lt _).1 20 (by omega), pack_put_f (w64u_lt _).1 20 (by omega), pack_text_f (by omega) 20 (by omega)]
  unfold bits_Bits.f
  rw [if_pos hr, ← (canon_nat hr).1]
  simp only [Option.bind_some]
  rw [pack_fix_f 20 (by omega)]
  simp only [Option.bind_some]
  have h0 := putL_le (w64u x.f0.f0); have h1 := putL_le (w64u x.f0.f1); have h2 := putL_le (w64u x.f1); have h3 := putL_le (w64u x.f2); have h4 := putL_le x.f3.size
  rw [if_pos (by simp only [ba_size, List.length_append, fixL_length, len_size]; omega)]
  congr 1
  apply ba_ext
  simp only [ba_list]
  unfold encX
  simp only [List.append_assoc]
theorem encX_enc {x : S30} (h : oneM x = true) : encX x = encM (toS x) := by
  unfold oneM oneB at h
  simp only [Bool.and_eq_true, decide_eq_true_eq] at h
  obtain ⟨⟨⟨⟨⟨⟨⟨⟨⟨a, b⟩, c⟩, d⟩, e⟩, f⟩, g⟩, h⟩, i⟩, j⟩ := h
  unfold encX encM toS
  rw [w64u_id (by omega) (by omega), w64u_id (by omega) (by omega), w64u_id (by omega) (by omega), w64u_id (by omega) (by omega)]
  simp only [List.append_assoc]
theorem canonB_canon (b : Nat) (h : b < 2 ^ 64) : canonB (canon b).toNat = true := by
  unfold canonB canon
  split
  · rename_i hc; rw [Int.toNat_natCast, decide_eq_true hc]; rfl
  · rfl
theorem ok_one {x : S30} (hr : x.f4 < 2 ^ 64) (h : oneM x = true) : OkM (toS x) := ⟨h, canonB_canon _ hr, (canon_nat hr).2⟩
theorem ord_toS : ∀ l : List S30, ordM l = ordS (l.map toS)
  | [] => rfl
  | [a] => rfl
  | a :: b :: r => by
    have ih := ord_toS (b :: r)
    rw [List.map_cons] at ih
    rw [List.map_cons, List.map_cons, ordM, ordS, ih]; rfl
/-- Every number of the list is one of its kind. -/
def Ranks (l : List S30) : Prop := ∀ x ∈ l, x.f4 < 2 ^ 64
theorem may_toS {l : List S30} (hr : Ranks l) (h : mayM l = true) : MayS (l.map toS) := by
  unfold mayM at h
  simp only [Bool.and_eq_true, decide_eq_true_eq, List.all_eq_true] at h
  obtain ⟨⟨h1, h2⟩, h3⟩ := h
  refine ⟨by rw [← ord_toS]; exact h1, by rw [List.length_map]; exact h2, ?_⟩
  intro m hm
  obtain ⟨x, hx, rfl⟩ := List.mem_map.1 hm
  exact ok_one (hr x hx) (h3 x hx)
theorem flat_enc : ∀ l : List S30, (∀ x ∈ l, oneM x = true) → l.flatMap encX = (l.map toS).flatMap encM
  | [], _ => rfl
  | x :: r, h => by rw [List.flatMap_cons, List.map_cons, List.flatMap_cons, encX_enc (h x (by simp)), flat_enc r (fun y hy => h y (by simp [hy]))]
end Go.Proofs.Ytfcndhajcikgiaa.B
namespace Go.Proofs.Ytfcndhajcikgiaa.B
open Go.RowKit Go.Proofs.YtfcndhajcikgiaaW.PrintWords Go.Proofs.YtfcndhajcikgiaaW.PrintLast Go.Proofs.YtfcndhajcikgiaaW.PrintMore
theorem eqA27 (d : Nat) (w : World) (x0 y0 : Int) (x1 y1 : Int) :
    (Op.equalIn (d + 2) 27 (.agg #[.int .i64 x0, .int .i64 x1]) (.agg #[.int .i64 y0, .int .i64 y1])).run Try.prog w = .ok (x0 == y0 && (x1 == y1)) w := by
  refine eqA_of Try.underlying27 (by kernel_rfl) ?_
  refine eqf_cons (by rfl) (by go_simp; rfl) (by go_simp; rfl) (by go_simp) ?_
  exact eqf_last (by rfl) (by go_simp; rfl) (by go_simp; rfl) (by go_simp)
end Go.Proofs.Ytfcndhajcikgiaa.B
namespace Go.Proofs.Ytfcndhajcikgiaa.B
open Go.RowKit Go.Proofs.YtfcndhajcikgiaaW.PrintWords Go.Proofs.YtfcndhajcikgiaaW.PrintLast Go.Proofs.YtfcndhajcikgiaaW.PrintMore
def bonsairef13_Row.f (a0_0 : Int) (a0_1 : Int) (a0_2 : Int) (a0_3 : Int) (a0_4 : ByteArray) (a0_5 : Nat) : Option (Int × Int × ByteArray × Nat) := some (a0_3, a0_2, a0_4, a0_5)
set_option maxHeartbeats 8000000 in
set_option maxRecDepth 100000 in
theorem bonsairef13_Row.calls (a0_0 : Int) (a0_1 : Int) (a0_2 : Int) (a0_3 : Int) (a0_4 : ByteArray) (a0_5 : Nat) (r1 : Int) (r2 : Int) (r3 : ByteArray) (r4 : Nat) (w : World) (h : bonsairef13_Row.f a0_0 a0_1 a0_2 a0_3 a0_4 a0_5 = some (r1, r2, r3, r4)) :
    Calls Try.prog 74 #[.agg #[.int .i64 a0_0, .int .i64 a0_1, .int .i64 a0_2, .int .i64 a0_3, .string a0_4, .float .f64 a0_5]] w fun e w' => e = .returned (.agg #[.int .i64 r1, .int .i64 r2, .string r3, .float .f64 r4]) ∧ Below w.heap.size w w' := by
  have hu30 := Try.underlying30
  have hu96 := Try.underlying96
  have HB := Aside0.mk (Below.refl w.heap.size w)
  have H : (some (a0_3, a0_2, a0_4, a0_5)) = some (r1, r2, r3, r4) := h
  clear h
  simp only [Option.some.injEq, Prod.mk.injEq] at H
  obtain ⟨rfl, rfl, rfl, rfl⟩ := H
  go_enter Try.func74, Try.ntmps74
  go_wp2_with (first | ((with_reducible refine gate_dst (N := 1) rfl ?_); refine box_event ?hg (N := 1) ?hd (cs := #[.int .i64 a0_0, .int .i64 a0_1, .int .i64 a0_2, .int .i64 a0_3, .string a0_4, .float .f64 a0_5]) (t := 30) ?hr ?_; (case hd => rfl); (case hg => rfl); (case hr => first | (go_simp; done) | (go_simp; rfl)); intro gb180 hg w2 hbox hb; have n0_ := Aside0.mk (below_step (by repeat (first | (with_reducible first | exact HB.out | apply below_alloc | apply pw_below_drewN | apply below_drew1) | exact HB.out)) hb); have n1_ := Aside0.mk (hbox); have n2_ := Aside0.mk ((by rw [hg]; exact (below_size (by repeat (first | (with_reducible first | exact HB.out | apply below_alloc | apply pw_below_drewN | apply below_drew1) | exact HB.out))) : w.heap.size ≤ gb180)); have n3_ := Aside0.mk ((by rw [hg]; exact (below_size (by repeat (first | (with_reducible first | exact HB.out | apply below_alloc | apply pw_below_drewN | apply below_drew1) | exact HB.out))) : w.heap.size ≤ gb180)); clear HB; have HB := n0_; have BK180 := n1_; have GW180 := n2_; have GE180 := n3_; clear n0_ n1_ n2_ n3_; clear hb hbox hg) | ((with_reducible refine gate_dst (N := 2) rfl ?_); refine box_event ?hg (N := 2) ?hd (cs := #[.int .i64 0, .int .i64 0, .string (⟨#[]⟩ : ByteArray), .float .f64 (0 : Nat)]) (t := 96) ?hr ?_; (case hd => rfl); (case hg => rfl); (case hr => first | (go_simp; done) | (go_simp; rfl)); intro gb181 hg w3 hbox hb; have n0_ := Aside0.mk (blk_below (g := gb180) (o := .cells #[.int .i64 a0_0, .int .i64 a0_1, .int .i64 a0_2, .int .i64 a0_3, .string a0_4, .float .f64 a0_5] 30 (0, 0)) (by (with_reducible repeat (first | refine blk_drewN ?_ _ | refine blk_drew ?_ | refine blk_alloc ?_ _)); exact BK180.out) hb); have n1_ := Aside0.mk (below_step (by repeat (first | (with_reducible first | exact HB.out | apply below_alloc | apply pw_below_drewN | apply below_drew1 | refine below_set ?_ GE180.out) | exact HB.out)) hb); have n2_ := Aside0.mk (hbox); have n3_ := Aside0.mk ((by rw [hg]; exact (below_size (by repeat (first | (with_reducible first | exact HB.out | apply below_alloc | apply pw_below_drewN | apply below_drew1 | refine below_set ?_ GE180.out) | exact HB.out))) : w.heap.size ≤ gb181)); have n4_ := Aside0.mk ((by rw [hg]; exact (below_size (by repeat (first | (with_reducible first | exact HB.out | apply below_alloc | apply pw_below_drewN | apply below_drew1 | refine below_set ?_ GE180.out) | exact HB.out))) : w.heap.size ≤ gb181)); have n5_ := Aside0.mk ((by rw [hg]; exact Nat.ne_of_lt (blk_lt (g := gb180) (o := .cells #[.int .i64 a0_0, .int .i64 a0_1, .int .i64 a0_2, .int .i64 a0_3, .string a0_4, .float .f64 a0_5] 30 (0, 0)) (by (with_reducible repeat (first | refine blk_drewN ?_ _ | refine blk_drew ?_ | refine blk_alloc ?_ _)); exact BK180.out)) : gb180 ≠ gb181)); have n6_ := Aside0.mk ((by rw [hg]; exact Nat.ne_of_gt (blk_lt (g := gb180) (o := .cells #[.int .i64 a0_0, .int .i64 a0_1, .int .i64 a0_2, .int .i64 a0_3, .string a0_4, .float .f64 a0_5] 30 (0, 0)) (by (with_reducible repeat (first | refine blk_drewN ?_ _ | refine blk_drew ?_ | refine blk_alloc ?_ _)); exact BK180.out)) : gb181 ≠ gb180)); clear BK180; clear HB; have BK180 := n0_; have HB := n1_; have BK181 := n2_; have GW181 := n3_; have GE181 := n4_; have NB180_181 := n5_; have NB181_180 := n6_; clear n0_ n1_ n2_ n3_ n4_ n5_ n6_; clear hb hbox hg; have hnb4 := NB180_181.out; have hnc4 := NB181_180.out; have hcz5_0 : w3.cell? ⟨gb180, 0, none⟩ = some (.int .i64 a0_0) := (blk_cell BK180.out 0).trans rfl; have hcz5_1 : w3.cell? ⟨gb180, 1, none⟩ = some (.int .i64 a0_1) := (blk_cell BK180.out 1).trans rfl; have hcz5_2 : w3.cell? ⟨gb180, 2, none⟩ = some (.int .i64 a0_2) := (blk_cell BK180.out 2).trans rfl; have hcz5_3 : w3.cell? ⟨gb180, 3, none⟩ = some (.int .i64 a0_3) := (blk_cell BK180.out 3).trans rfl; have hcz5_4 : w3.cell? ⟨gb180, 4, none⟩ = some (.string a0_4) := (blk_cell BK180.out 4).trans rfl; have hcz5_5 : w3.cell? ⟨gb180, 5, none⟩ = some (.float .f64 a0_5) := (blk_cell BK180.out 5).trans rfl; have hfz5_0 := blk_frozen BK180.out 0; have hfz5_1 := blk_frozen BK180.out 1; have hfz5_2 := blk_frozen BK180.out 2; have hfz5_3 := blk_frozen BK180.out 3; have hfz5_4 := blk_frozen BK180.out 4; have hfz5_5 := blk_frozen BK180.out 5; have hcz6_0 : w3.cell? ⟨gb181, 0, none⟩ = some (.int .i64 0) := (blk_cell BK181.out 0).trans rfl; have hcz6_1 : w3.cell? ⟨gb181, 1, none⟩ = some (.int .i64 0) := (blk_cell BK181.out 1).trans rfl; have hcz6_2 : w3.cell? ⟨gb181, 2, none⟩ = some (.string (⟨#[]⟩ : ByteArray)) := (blk_cell BK181.out 2).trans rfl; have hcz6_3 : w3.cell? ⟨gb181, 3, none⟩ = some (.float .f64 (0 : Nat)) := (blk_cell BK181.out 3).trans rfl; have hfz6_0 := blk_frozen BK181.out 0; have hfz6_1 := blk_frozen BK181.out 1; have hfz6_2 := blk_frozen BK181.out 2; have hfz6_3 := blk_frozen BK181.out 3))
  refine bodyPost_ret (results_cell_row rfl _ _ gb181 96 #[.int .i64 a0_3, .int .i64 a0_2, .string a0_4, .float .f64 a0_5] (0, 0) _ rfl (by (with_reducible repeat (first | refine blk_drewN ?_ _ | refine blk_drew ?_ | refine blk_alloc ?_ _)); refine blk_put (cs := #[.int .i64 a0_3, .int .i64 a0_2, .string a0_4, .float .f64 (0 : Nat)]) ?_ 3 _ rfl; (with_reducible repeat (first | refine blk_drewN ?_ _ | refine blk_drew ?_ | refine blk_alloc ?_ _)); refine blk_put (cs := #[.int .i64 a0_3, .int .i64 a0_2, .string (⟨#[]⟩ : ByteArray), .float .f64 (0 : Nat)]) ?_ 2 _ rfl; (with_reducible repeat (first | refine blk_drewN ?_ _ | refine blk_drew ?_ | refine blk_alloc ?_ _)); refine blk_put (cs := #[.int .i64 a0_3, .int .i64 0, .string (⟨#[]⟩ : ByteArray), .float .f64 (0 : Nat)]) ?_ 1 _ rfl; (with_reducible repeat (first | refine blk_drewN ?_ _ | refine blk_drew ?_ | refine blk_alloc ?_ _)); refine blk_put (cs := #[.int .i64 0, .int .i64 0, .string (⟨#[]⟩ : ByteArray), .float .f64 (0 : Nat)]) ?_ 0 _ rfl; (with_reducible repeat (first | refine blk_drewN ?_ _ | refine blk_drew ?_ | refine blk_alloc ?_ _)); exact BK181.out) Try.underlying96 rfl (by kernel_rfl)) rfl ?_
  exact ⟨by first | rfl | (simp [errW_none, errW_some] <;> rfl) | (simp [*, errW_none, errW_some] <;> rfl), by repeat (first | (with_reducible first | exact HB.out | apply below_alloc | apply pw_below_drewN | apply below_drew1 | refine below_set ?_ GE180.out | refine below_set ?_ GE181.out) | exact HB.out)⟩
end Go.Proofs.Ytfcndhajcikgiaa.B
namespace Go.Proofs.Ytfcndhajcikgiaa.B
open Go.RowKit Go.Proofs.YtfcndhajcikgiaaW.PrintWords Go.Proofs.YtfcndhajcikgiaaW.PrintLast Go.Proofs.YtfcndhajcikgiaaW.PrintMore
def bonsairef01_Same.f (a0 : Nat) (a1 : Nat) : Option (Bool) := (bonsairef01_Bits.f a0).bind fun t301 => ((bonsairef01_Bits.f a1).bind fun t302 => (some (t301 == t302)))
set_option maxHeartbeats 8000000 in
set_option maxRecDepth 100000 in
theorem bonsairef01_Same.calls (a0 : Nat) (a1 : Nat) (r : Bool) (w : World) (h : bonsairef01_Same.f a0 a1 = some r) :
    Calls Try.prog 89 #[.float .f64 a0, .float .f64 a1] w fun e w' => e = .returned (.bool r) ∧ Below w.heap.size w w' := by
  have HB := Aside0.mk (Below.refl w.heap.size w)
  have H : ((bonsairef01_Bits.f a0).bind fun t301 => ((bonsairef01_Bits.f a1).bind fun t302 => (some (t301 == t302)))) = some r := h
  clear h
  replace H := Option.bind_eq_some_iff.mp H
  obtain ⟨t301, A30, H⟩ := H
  replace H : ((bonsairef01_Bits.f a1).bind fun t302 => (some (t301 == t302))) = some r := H
  have A3 := Aside0.mk A30
  clear A30
  replace H := Option.bind_eq_some_iff.mp H
  obtain ⟨t302, A40, H⟩ := H
  replace H : (some (t301 == t302)) = some r := H
  have A4 := Aside0.mk A40
  clear A40
  obtain rfl := Option.some.inj H
  go_enter Try.func89, Try.ntmps89
  go_wp2_with (first | ((with_reducible refine gate_callee (f := 27) rfl ?_); refine goesL_ (some 6) rfl rfl Try.func27 (by kernel_rfl) rfl #[.float .f64 a0] rfl (by (try simp only [List.map_toArray, List.map_cons, List.map_nil]); first | done | rfl | (simp only [List.length_drop, List.length_take]; rfl)) ?_; (with_reducible refine (bonsairef01_Bits.calls a0 t301 _ A3.out).mono ?_); rintro e w5 ⟨rfl, hb⟩; refine ⟨_, rfl, ?_⟩; have n0_ := Aside0.mk (below_step (by repeat (first | (with_reducible first | exact HB.out | apply below_alloc | apply pw_below_drewN | apply below_drew1) | exact HB.out)) hb); clear HB; have HB := n0_; clear n0_; (try clear hb); (try clear hb2); (try clear hk); (try clear hi)) | ((with_reducible refine gate_callee (f := 27) rfl ?_); refine goesL_ (some 8) rfl rfl Try.func27 (by kernel_rfl) rfl #[.float .f64 a1] rfl (by (try simp only [List.map_toArray, List.map_cons, List.map_nil]); first | done | rfl | (simp only [List.length_drop, List.length_take]; rfl)) ?_; (with_reducible refine (bonsairef01_Bits.calls a1 t302 _ A4.out).mono ?_); rintro e w6 ⟨rfl, hb⟩; refine ⟨_, rfl, ?_⟩; have n0_ := Aside0.mk (below_step (by repeat (first | (with_reducible first | exact HB.out | apply below_alloc | apply pw_below_drewN | apply below_drew1) | exact HB.out)) hb); clear HB; have HB := n0_; clear n0_; (try clear hb); (try clear hb2); (try clear hk); (try clear hi)))
  go_ret
  exact ⟨by first | rfl | (simp [errW_none, errW_some] <;> rfl) | (simp [*, errW_none, errW_some] <;> rfl), by repeat (first | (with_reducible first | exact HB.out | apply below_alloc | apply pw_below_drewN | apply below_drew1) | exact HB.out)⟩
end Go.Proofs.Ytfcndhajcikgiaa.B
namespace Go.Proofs.Ytfcndhajcikgiaa.B
open Go.RowKit Go.Proofs.YtfcndhajcikgiaaW.PrintWords Go.Proofs.YtfcndhajcikgiaaW.PrintLast Go.Proofs.YtfcndhajcikgiaaW.PrintMore
def bonsairef12_Alike.f (a0_0 : Int) (a0_1 : Int) (a0_2 : ByteArray) (a0_3 : Nat) (a1_0 : Int) (a1_1 : Int) (a1_2 : ByteArray) (a1_3 : Nat) : Option (Bool) := if a0_0 = a1_0 then (if a0_1 = a1_1 then (if a0_2.toList = a1_2.toList then ((bonsairef01_Same.f a0_3 a1_3).bind fun t305 => (some t305)) else (some false)) else (some false)) else (some false)
set_option maxHeartbeats 8000000 in
set_option maxRecDepth 100000 in
theorem bonsairef12_Alike.calls (a0_0 : Int) (a0_1 : Int) (a0_2 : ByteArray) (a0_3 : Nat) (a1_0 : Int) (a1_1 : Int) (a1_2 : ByteArray) (a1_3 : Nat) (r : Bool) (w : World) (h : bonsairef12_Alike.f a0_0 a0_1 a0_2 a0_3 a1_0 a1_1 a1_2 a1_3 = some r) :
    Calls Try.prog 75 #[.agg #[.int .i64 a0_0, .int .i64 a0_1, .string a0_2, .float .f64 a0_3], .agg #[.int .i64 a1_0, .int .i64 a1_1, .string a1_2, .float .f64 a1_3]] w fun e w' => e = .returned (.bool r) ∧ Below w.heap.size w w' := by
  have hu96 := Try.underlying96
  have HB := Aside0.mk (Below.refl w.heap.size w)
  have H : (if a0_0 = a1_0 then (if a0_1 = a1_1 then (if a0_2.toList = a1_2.toList then ((bonsairef01_Same.f a0_3 a1_3).bind fun t305 => (some t305)) else (some false)) else (some false)) else (some false)) = some r := h
  clear h
  by_cases c3 : a0_0 = a1_0
  · rw [if_pos c3] at H
    have c3b0 : (a0_0 == a1_0) = true := beq_iff_eq.mpr c3
    have c3b1 : (a0_0 != a1_0) = false := bne_eq_false_iff_eq.mpr c3
    clear c3
    by_cases c4 : a0_1 = a1_1
    · rw [if_pos c4] at H
      have c4b0 : (a0_1 == a1_1) = true := beq_iff_eq.mpr c4
      have c4b1 : (a0_1 != a1_1) = false := bne_eq_false_iff_eq.mpr c4
      clear c4
      by_cases c5 : a0_2.toList = a1_2.toList
      · rw [if_pos c5] at H
        have c5b0 : (a0_2.toList == a1_2.toList) = true := beq_iff_eq.mpr c5
        have c5b1 : (a0_2.toList != a1_2.toList) = false := bne_eq_false_iff_eq.mpr c5
        clear c5
        replace H := Option.bind_eq_some_iff.mp H
        obtain ⟨t305, A60, H⟩ := H
        replace H : (some t305) = some r := H
        have A6 := Aside0.mk A60
        clear A60
        obtain rfl := Option.some.inj H
        go_enter Try.func75, Try.ntmps75
        go_wp2_with (first | ((with_reducible refine gate_dst (N := 2) rfl ?_); refine box_event ?hg (N := 2) ?hd (cs := #[.int .i64 a0_0, .int .i64 a0_1, .string a0_2, .float .f64 a0_3]) (t := 96) ?hr ?_; (case hd => rfl); (case hg => rfl); (case hr => first | (go_simp; done) | (go_simp; rfl)); intro gb303 hg w7 hbox hb; have n0_ := Aside0.mk (below_step (by repeat (first | (with_reducible first | exact HB.out | apply below_alloc | apply pw_below_drewN | apply below_drew1) | exact HB.out)) hb); have n1_ := Aside0.mk (hbox); have n2_ := Aside0.mk ((by rw [hg]; exact (below_size (by repeat (first | (with_reducible first | exact HB.out | apply below_alloc | apply pw_below_drewN | apply below_drew1) | exact HB.out))) : w.heap.size ≤ gb303)); have n3_ := Aside0.mk ((by rw [hg]; exact (below_size (by repeat (first | (with_reducible first | exact HB.out | apply below_alloc | apply pw_below_drewN | apply below_drew1) | exact HB.out))) : w.heap.size ≤ gb303)); clear HB; have HB := n0_; have BK303 := n1_; have GW303 := n2_; have GE303 := n3_; clear n0_ n1_ n2_ n3_; clear hb hbox hg) | ((with_reducible refine gate_dst (N := 3) rfl ?_); refine box_event ?hg (N := 3) ?hd (cs := #[.int .i64 a1_0, .int .i64 a1_1, .string a1_2, .float .f64 a1_3]) (t := 96) ?hr ?_; (case hd => rfl); (case hg => rfl); (case hr => first | (go_simp; done) | (go_simp; rfl)); intro gb304 hg w8 hbox hb; have n0_ := Aside0.mk (blk_below (g := gb303) (o := .cells #[.int .i64 a0_0, .int .i64 a0_1, .string a0_2, .float .f64 a0_3] 96 (0, 0)) (by (with_reducible repeat (first | refine blk_drewN ?_ _ | refine blk_drew ?_ | refine blk_alloc ?_ _)); exact BK303.out) hb); have n1_ := Aside0.mk (below_step (by repeat (first | (with_reducible first | exact HB.out | apply below_alloc | apply pw_below_drewN | apply below_drew1 | refine below_set ?_ GE303.out) | exact HB.out)) hb); have n2_ := Aside0.mk (hbox); have n3_ := Aside0.mk ((by rw [hg]; exact (below_size (by repeat (first | (with_reducible first | exact HB.out | apply below_alloc | apply pw_below_drewN | apply below_drew1 | refine below_set ?_ GE303.out) | exact HB.out))) : w.heap.size ≤ gb304)); have n4_ := Aside0.mk ((by rw [hg]; exact (below_size (by repeat (first | (with_reducible first | exact HB.out | apply below_alloc | apply pw_below_drewN | apply below_drew1 | refine below_set ?_ GE303.out) | exact HB.out))) : w.heap.size ≤ gb304)); have n5_ := Aside0.mk ((by rw [hg]; exact Nat.ne_of_lt (blk_lt (g := gb303) (o := .cells #[.int .i64 a0_0, .int .i64 a0_1, .string a0_2, .float .f64 a0_3] 96 (0, 0)) (by (with_reducible repeat (first | refine blk_drewN ?_ _ | refine blk_drew ?_ | refine blk_alloc ?_ _)); exact BK303.out)) : gb303 ≠ gb304)); have n6_ := Aside0.mk ((by rw [hg]; exact Nat.ne_of_gt (blk_lt (g := gb303) (o := .cells #[.int .i64 a0_0, .int .i64 a0_1, .string a0_2, .float .f64 a0_3] 96 (0, 0)) (by (with_reducible repeat (first | refine blk_drewN ?_ _ | refine blk_drew ?_ | refine blk_alloc ?_ _)); exact BK303.out)) : gb304 ≠ gb303)); clear BK303; clear HB; have BK303 := n0_; have HB := n1_; have BK304 := n2_; have GW304 := n3_; have GE304 := n4_; have NB303_304 := n5_; have NB304_303 := n6_; clear n0_ n1_ n2_ n3_ n4_ n5_ n6_; clear hb hbox hg; have hnb9 := NB303_304.out; have hnc9 := NB304_303.out; have hcz10_0 : w8.cell? ⟨gb303, 0, none⟩ = some (.int .i64 a0_0) := (blk_cell BK303.out 0).trans rfl; have hcz10_1 : w8.cell? ⟨gb303, 1, none⟩ = some (.int .i64 a0_1) := (blk_cell BK303.out 1).trans rfl; have hcz10_2 : w8.cell? ⟨gb303, 2, none⟩ = some (.string a0_2) := (blk_cell BK303.out 2).trans rfl; have hcz10_3 : w8.cell? ⟨gb303, 3, none⟩ = some (.float .f64 a0_3) := (blk_cell BK303.out 3).trans rfl; have hfz10_0 := blk_frozen BK303.out 0; have hfz10_1 := blk_frozen BK303.out 1; have hfz10_2 := blk_frozen BK303.out 2; have hfz10_3 := blk_frozen BK303.out 3; have hcz11_0 : w8.cell? ⟨gb304, 0, none⟩ = some (.int .i64 a1_0) := (blk_cell BK304.out 0).trans rfl; have hcz11_1 : w8.cell? ⟨gb304, 1, none⟩ = some (.int .i64 a1_1) := (blk_cell BK304.out 1).trans rfl; have hcz11_2 : w8.cell? ⟨gb304, 2, none⟩ = some (.string a1_2) := (blk_cell BK304.out 2).trans rfl; have hcz11_3 : w8.cell? ⟨gb304, 3, none⟩ = some (.float .f64 a1_3) := (blk_cell BK304.out 3).trans rfl; have hfz11_0 := blk_frozen BK304.out 0; have hfz11_1 := blk_frozen BK304.out 1; have hfz11_2 := blk_frozen BK304.out 2; have hfz11_3 := blk_frozen BK304.out 3) | (go_at_call 89; (with_reducible refine (bonsairef01_Same.calls a0_3 a1_3 t305 _ A6.out).mono ?_); rintro e w12 ⟨rfl, hb⟩; have n0_ := Aside0.mk (blk_below (g := gb303) (o := .cells #[.int .i64 a0_0, .int .i64 a0_1, .string a0_2, .float .f64 a0_3] 96 (0, 0)) (by (with_reducible repeat (first | refine blk_drewN ?_ _ | refine blk_drew ?_ | refine blk_alloc ?_ _)); exact BK303.out) hb); have n1_ := Aside0.mk (blk_below (g := gb304) (o := .cells #[.int .i64 a1_0, .int .i64 a1_1, .string a1_2, .float .f64 a1_3] 96 (0, 0)) (by (with_reducible repeat (first | refine blk_drewN ?_ _ | refine blk_drew ?_ | refine blk_alloc ?_ _)); exact BK304.out) hb); have n2_ := Aside0.mk (below_step (by repeat (first | (with_reducible first | exact HB.out | apply below_alloc | apply pw_below_drewN | apply below_drew1 | refine below_set ?_ GE303.out | refine below_set ?_ GE304.out) | exact HB.out)) hb); clear BK303; clear BK304; clear HB; have BK303 := n0_; have BK304 := n1_; have HB := n2_; clear n0_ n1_ n2_; (try clear hb); (try clear hb2); (try clear hk); (try clear hi)))
        go_ret
        exact ⟨by first | rfl | (simp [errW_none, errW_some] <;> rfl) | (simp [*, errW_none, errW_some] <;> rfl), by repeat (first | (with_reducible first | exact HB.out | apply below_alloc | apply pw_below_drewN | apply below_drew1 | refine below_set ?_ GE303.out | refine below_set ?_ GE304.out) | exact HB.out)⟩
      · rw [if_neg c5] at H
        have c5b0 : (a0_2.toList == a1_2.toList) = false := beq_eq_false_iff_ne.mpr c5
        have c5b1 : (a0_2.toList != a1_2.toList) = true := bne_iff_ne.mpr c5
        obtain rfl := Option.some.inj H
        go_enter Try.func75, Try.ntmps75
        go_wp2_with (first | ((with_reducible refine gate_dst (N := 2) rfl ?_); refine box_event ?hg (N := 2) ?hd (cs := #[.int .i64 a0_0, .int .i64 a0_1, .string a0_2, .float .f64 a0_3]) (t := 96) ?hr ?_; (case hd => rfl); (case hg => rfl); (case hr => first | (go_simp; done) | (go_simp; rfl)); intro gb303 hg w13 hbox hb; have n0_ := Aside0.mk (below_step (by repeat (first | (with_reducible first | exact HB.out | apply below_alloc | apply pw_below_drewN | apply below_drew1) | exact HB.out)) hb); have n1_ := Aside0.mk (hbox); have n2_ := Aside0.mk ((by rw [hg]; exact (below_size (by repeat (first | (with_reducible first | exact HB.out | apply below_alloc | apply pw_below_drewN | apply below_drew1) | exact HB.out))) : w.heap.size ≤ gb303)); have n3_ := Aside0.mk ((by rw [hg]; exact (below_size (by repeat (first | (with_reducible first | exact HB.out | apply below_alloc | apply pw_below_drewN | apply below_drew1) | exact HB.out))) : w.heap.size ≤ gb303)); clear HB; have HB := n0_; have BK303 := n1_; have GW303 := n2_; have GE303 := n3_; clear n0_ n1_ n2_ n3_; clear hb hbox hg) | ((with_reducible refine gate_dst (N := 3) rfl ?_); refine box_event ?hg (N := 3) ?hd (cs := #[.int .i64 a1_0, .int .i64 a1_1, .string a1_2, .float .f64 a1_3]) (t := 96) ?hr ?_; (case hd => rfl); (case hg => rfl); (case hr => first | (go_simp; done) | (go_simp; rfl)); intro gb304 hg w14 hbox hb; have n0_ := Aside0.mk (blk_below (g := gb303) (o := .cells #[.int .i64 a0_0, .int .i64 a0_1, .string a0_2, .float .f64 a0_3] 96 (0, 0)) (by (with_reducible repeat (first | refine blk_drewN ?_ _ | refine blk_drew ?_ | refine blk_alloc ?_ _)); exact BK303.out) hb); have n1_ := Aside0.mk (below_step (by repeat (first | (with_reducible first | exact HB.out | apply below_alloc | apply pw_below_drewN | apply below_drew1 | refine below_set ?_ GE303.out) | exact HB.out)) hb); have n2_ := Aside0.mk (hbox); have n3_ := Aside0.mk ((by rw [hg]; exact (below_size (by repeat (first | (with_reducible first | exact HB.out | apply below_alloc | apply pw_below_drewN | apply below_drew1 | refine below_set ?_ GE303.out) | exact HB.out))) : w.heap.size ≤ gb304)); have n4_ := Aside0.mk ((by rw [hg]; exact (below_size (by repeat (first | (with_reducible first | exact HB.out | apply below_alloc | apply pw_below_drewN | apply below_drew1 | refine below_set ?_ GE303.out) | exact HB.out))) : w.heap.size ≤ gb304)); have n5_ := Aside0.mk ((by rw [hg]; exact Nat.ne_of_lt (blk_lt (g := gb303) (o := .cells #[.int .i64 a0_0, .int .i64 a0_1, .string a0_2, .float .f64 a0_3] 96 (0, 0)) (by (with_reducible repeat (first | refine blk_drewN ?_ _ | refine blk_drew ?_ | refine blk_alloc ?_ _)); exact BK303.out)) : gb303 ≠ gb304)); have n6_ := Aside0.mk ((by rw [hg]; exact Nat.ne_of_gt (blk_lt (g := gb303) (o := .cells #[.int .i64 a0_0, .int .i64 a0_1, .string a0_2, .float .f64 a0_3] 96 (0, 0)) (by (with_reducible repeat (first | refine blk_drewN ?_ _ | refine blk_drew ?_ | refine blk_alloc ?_ _)); exact BK303.out)) : gb304 ≠ gb303)); clear BK303; clear HB; have BK303 := n0_; have HB := n1_; have BK304 := n2_; have GW304 := n3_; have GE304 := n4_; have NB303_304 := n5_; have NB304_303 := n6_; clear n0_ n1_ n2_ n3_ n4_ n5_ n6_; clear hb hbox hg; have hnb15 := NB303_304.out; have hnc15 := NB304_303.out; have hcz16_0 : w14.cell? ⟨gb303, 0, none⟩ = some (.int .i64 a0_0) := (blk_cell BK303.out 0).trans rfl; have hcz16_1 : w14.cell? ⟨gb303, 1, none⟩ = some (.int .i64 a0_1) := (blk_cell BK303.out 1).trans rfl; have hcz16_2 : w14.cell? ⟨gb303, 2, none⟩ = some (.string a0_2) := (blk_cell BK303.out 2).trans rfl; have hcz16_3 : w14.cell? ⟨gb303, 3, none⟩ = some (.float .f64 a0_3) := (blk_cell BK303.out 3).trans rfl; have hfz16_0 := blk_frozen BK303.out 0; have hfz16_1 := blk_frozen BK303.out 1; have hfz16_2 := blk_frozen BK303.out 2; have hfz16_3 := blk_frozen BK303.out 3; have hcz17_0 : w14.cell? ⟨gb304, 0, none⟩ = some (.int .i64 a1_0) := (blk_cell BK304.out 0).trans rfl; have hcz17_1 : w14.cell? ⟨gb304, 1, none⟩ = some (.int .i64 a1_1) := (blk_cell BK304.out 1).trans rfl; have hcz17_2 : w14.cell? ⟨gb304, 2, none⟩ = some (.string a1_2) := (blk_cell BK304.out 2).trans rfl; have hcz17_3 : w14.cell? ⟨gb304, 3, none⟩ = some (.float .f64 a1_3) := (blk_cell BK304.out 3).trans rfl; have hfz17_0 := blk_frozen BK304.out 0; have hfz17_1 := blk_frozen BK304.out 1; have hfz17_2 := blk_frozen BK304.out 2; have hfz17_3 := blk_frozen BK304.out 3))
        go_ret
        exact ⟨by first | rfl | (simp [errW_none, errW_some] <;> rfl) | (simp [*, errW_none, errW_some] <;> rfl), by repeat (first | (with_reducible first | exact HB.out | apply below_alloc | apply pw_below_drewN | apply below_drew1 | refine below_set ?_ GE303.out | refine below_set ?_ GE304.out) | exact HB.out)⟩
    · rw [if_neg c4] at H
      have c4b0 : (a0_1 == a1_1) = false := beq_eq_false_iff_ne.mpr c4
      have c4b1 : (a0_1 != a1_1) = true := bne_iff_ne.mpr c4
      obtain rfl := Option.some.inj H
      go_enter Try.func75, Try.ntmps75
      go_wp2_with (first | ((with_reducible refine gate_dst (N := 2) rfl ?_); refine box_event ?hg (N := 2) ?hd (cs := #[.int .i64 a0_0, .int .i64 a0_1, .string a0_2, .float .f64 a0_3]) (t := 96) ?hr ?_; (case hd => rfl); (case hg => rfl); (case hr => first | (go_simp; done) | (go_simp; rfl)); intro gb303 hg w18 hbox hb; have n0_ := Aside0.mk (below_step (by repeat (first | (with_reducible first | exact HB.out | apply below_alloc | apply pw_below_drewN | apply below_drew1) | exact HB.out)) hb); have n1_ := Aside0.mk (hbox); have n2_ := Aside0.mk ((by rw [hg]; exact (below_size (by repeat (first | (with_reducible first | exact HB.out | apply below_alloc | apply pw_below_drewN | apply below_drew1) | exact HB.out))) : w.heap.size ≤ gb303)); have n3_ := Aside0.mk ((by rw [hg]; exact (below_size (by repeat (first | (with_reducible first | exact HB.out | apply below_alloc | apply pw_below_drewN | apply below_drew1) | exact HB.out))) : w.heap.size ≤ gb303)); clear HB; have HB := n0_; have BK303 := n1_; have GW303 := n2_; have GE303 := n3_; clear n0_ n1_ n2_ n3_; clear hb hbox hg) | ((with_reducible refine gate_dst (N := 3) rfl ?_); refine box_event ?hg (N := 3) ?hd (cs := #[.int .i64 a1_0, .int .i64 a1_1, .string a1_2, .float .f64 a1_3]) (t := 96) ?hr ?_; (case hd => rfl); (case hg => rfl); (case hr => first | (go_simp; done) | (go_simp; rfl)); intro gb304 hg w19 hbox hb; have n0_ := Aside0.mk (blk_below (g := gb303) (o := .cells #[.int .i64 a0_0, .int .i64 a0_1, .string a0_2, .float .f64 a0_3] 96 (0, 0)) (by (with_reducible repeat (first | refine blk_drewN ?_ _ | refine blk_drew ?_ | refine blk_alloc ?_ _)); exact BK303.out) hb); have n1_ := Aside0.mk (below_step (by repeat (first | (with_reducible first | exact HB.out | apply below_alloc | apply pw_below_drewN | apply below_drew1 | refine below_set ?_ GE303.out) | exact HB.out)) hb); have n2_ := Aside0.mk (hbox); have n3_ := Aside0.mk ((by rw [hg]; exact (below_size (by repeat (first | (with_reducible first | exact HB.out | apply below_alloc | apply pw_below_drewN | apply below_drew1 | refine below_set ?_ GE303.out) | exact HB.out))) : w.heap.size ≤ gb304)); have n4_ := Aside0.mk ((by rw [hg]; exact (below_size (by repeat (first | (with_reducible first | exact HB.out | apply below_alloc | apply pw_below_drewN | apply below_drew1 | refine below_set ?_ GE303.out) | exact HB.out))) : w.heap.size ≤ gb304)); have n5_ := Aside0.mk ((by rw [hg]; exact Nat.ne_of_lt (blk_lt (g := gb303) (o := .cells #[.int .i64 a0_0, .int .i64 a0_1, .string a0_2, .float .f64 a0_3] 96 (0, 0)) (by (with_reducible repeat (first | refine blk_drewN ?_ _ | refine blk_drew ?_ | refine blk_alloc ?_ _)); exact BK303.out)) : gb303 ≠ gb304)); have n6_ := Aside0.mk ((by rw [hg]; exact Nat.ne_of_gt (blk_lt (g := gb303) (o := .cells #[.int .i64 a0_0, .int .i64 a0_1, .string a0_2, .float .f64 a0_3] 96 (0, 0)) (by (with_reducible repeat (first | refine blk_drewN ?_ _ | refine blk_drew ?_ | refine blk_alloc ?_ _)); exact BK303.out)) : gb304 ≠ gb303)); clear BK303; clear HB; have BK303 := n0_; have HB := n1_; have BK304 := n2_; have GW304 := n3_; have GE304 := n4_; have NB303_304 := n5_; have NB304_303 := n6_; clear n0_ n1_ n2_ n3_ n4_ n5_ n6_; clear hb hbox hg; have hnb20 := NB303_304.out; have hnc20 := NB304_303.out; have hcz21_0 : w19.cell? ⟨gb303, 0, none⟩ = some (.int .i64 a0_0) := (blk_cell BK303.out 0).trans rfl; have hcz21_1 : w19.cell? ⟨gb303, 1, none⟩ = some (.int .i64 a0_1) := (blk_cell BK303.out 1).trans rfl; have hcz21_2 : w19.cell? ⟨gb303, 2, none⟩ = some (.string a0_2) := (blk_cell BK303.out 2).trans rfl; have hcz21_3 : w19.cell? ⟨gb303, 3, none⟩ = some (.float .f64 a0_3) := (blk_cell BK303.out 3).trans rfl; have hfz21_0 := blk_frozen BK303.out 0; have hfz21_1 := blk_frozen BK303.out 1; have hfz21_2 := blk_frozen BK303.out 2; have hfz21_3 := blk_frozen BK303.out 3; have hcz22_0 : w19.cell? ⟨gb304, 0, none⟩ = some (.int .i64 a1_0) := (blk_cell BK304.out 0).trans rfl; have hcz22_1 : w19.cell? ⟨gb304, 1, none⟩ = some (.int .i64 a1_1) := (blk_cell BK304.out 1).trans rfl; have hcz22_2 : w19.cell? ⟨gb304, 2, none⟩ = some (.string a1_2) := (blk_cell BK304.out 2).trans rfl; have hcz22_3 : w19.cell? ⟨gb304, 3, none⟩ = some (.float .f64 a1_3) := (blk_cell BK304.out 3).trans rfl; have hfz22_0 := blk_frozen BK304.out 0; have hfz22_1 := blk_frozen BK304.out 1; have hfz22_2 := blk_frozen BK304.out 2; have hfz22_3 := blk_frozen BK304.out 3))
      go_ret
      exact ⟨by first | rfl | (simp [errW_none, errW_some] <;> rfl) | (simp [*, errW_none, errW_some] <;> rfl), by repeat (first | (with_reducible first | exact HB.out | apply below_alloc | apply pw_below_drewN | apply below_drew1 | refine below_set ?_ GE303.out | refine below_set ?_ GE304.out) | exact HB.out)⟩
  · rw [if_neg c3] at H
    have c3b0 : (a0_0 == a1_0) = false := beq_eq_false_iff_ne.mpr c3
    have c3b1 : (a0_0 != a1_0) = true := bne_iff_ne.mpr c3
    obtain rfl := Option.some.inj H
    go_enter Try.func75, Try.ntmps75
    go_wp2_with (first | ((with_reducible refine gate_dst (N := 2) rfl ?_); refine box_event ?hg (N := 2) ?hd (cs := #[.int .i64 a0_0, .int .i64 a0_1, .string a0_2, .float .f64 a0_3]) (t := 96) ?hr ?_; (case hd => rfl); (case hg => rfl); (case hr => first | (go_simp; done) | (go_simp; rfl)); intro gb303 hg w23 hbox hb; have n0_ := Aside0.mk (below_step (by repeat (first | (with_reducible first | exact HB.out | apply below_alloc | apply pw_below_drewN | apply below_drew1) | exact HB.out)) hb); have n1_ := Aside0.mk (hbox); have n2_ := Aside0.mk ((by rw [hg]; exact (below_size (by repeat (first | (with_reducible first | exact HB.out | apply below_alloc | apply pw_below_drewN | apply below_drew1) | exact HB.out))) : w.heap.size ≤ gb303)); have n3_ := Aside0.mk ((by rw [hg]; exact (below_size (by repeat (first | (with_reducible first | exact HB.out | apply below_alloc | apply pw_below_drewN | apply below_drew1) | exact HB.out))) : w.heap.size ≤ gb303)); clear HB; have HB := n0_; have BK303 := n1_; have GW303 := n2_; have GE303 := n3_; clear n0_ n1_ n2_ n3_; clear hb hbox hg) | ((with_reducible refine gate_dst (N := 3) rfl ?_); refine box_event ?hg (N := 3) ?hd (cs := #[.int .i64 a1_0, .int .i64 a1_1, .string a1_2, .float .f64 a1_3]) (t := 96) ?hr ?_; (case hd => rfl); (case hg => rfl); (case hr => first | (go_simp; done) | (go_simp; rfl)); intro gb304 hg w24 hbox hb; have n0_ := Aside0.mk (blk_below (g := gb303) (o := .cells #[.int .i64 a0_0, .int .i64 a0_1, .string a0_2, .float .f64 a0_3] 96 (0, 0)) (by (with_reducible repeat (first | refine blk_drewN ?_ _ | refine blk_drew ?_ | refine blk_alloc ?_ _)); exact BK303.out) hb); have n1_ := Aside0.mk (below_step (by repeat (first | (with_reducible first | exact HB.out | apply below_alloc | apply pw_below_drewN | apply below_drew1 | refine below_set ?_ GE303.out) | exact HB.out)) hb); have n2_ := Aside0.mk (hbox); have n3_ := Aside0.mk ((by rw [hg]; exact (below_size (by repeat (first | (with_reducible first | exact HB.out | apply below_alloc | apply pw_below_drewN | apply below_drew1 | refine below_set ?_ GE303.out) | exact HB.out))) : w.heap.size ≤ gb304)); have n4_ := Aside0.mk ((by rw [hg]; exact (below_size (by repeat (first | (with_reducible first | exact HB.out | apply below_alloc | apply pw_below_drewN | apply below_drew1 | refine below_set ?_ GE303.out) | exact HB.out))) : w.heap.size ≤ gb304)); have n5_ := Aside0.mk ((by rw [hg]; exact Nat.ne_of_lt (blk_lt (g := gb303) (o := .cells #[.int .i64 a0_0, .int .i64 a0_1, .string a0_2, .float .f64 a0_3] 96 (0, 0)) (by (with_reducible repeat (first | refine blk_drewN ?_ _ | refine blk_drew ?_ | refine blk_alloc ?_ _)); exact BK303.out)) : gb303 ≠ gb304)); have n6_ := Aside0.mk ((by rw [hg]; exact Nat.ne_of_gt (blk_lt (g := gb303) (o := .cells #[.int .i64 a0_0, .int .i64 a0_1, .string a0_2, .float .f64 a0_3] 96 (0, 0)) (by (with_reducible repeat (first | refine blk_drewN ?_ _ | refine blk_drew ?_ | refine blk_alloc ?_ _)); exact BK303.out)) : gb304 ≠ gb303)); clear BK303; clear HB; have BK303 := n0_; have HB := n1_; have BK304 := n2_; have GW304 := n3_; have GE304 := n4_; have NB303_304 := n5_; have NB304_303 := n6_; clear n0_ n1_ n2_ n3_ n4_ n5_ n6_; clear hb hbox hg; have hnb25 := NB303_304.out; have hnc25 := NB304_303.out; have hcz26_0 : w24.cell? ⟨gb303, 0, none⟩ = some (.int .i64 a0_0) := (blk_cell BK303.out 0).trans rfl; have hcz26_1 : w24.cell? ⟨gb303, 1, none⟩ = some (.int .i64 a0_1) := (blk_cell BK303.out 1).trans rfl; have hcz26_2 : w24.cell? ⟨gb303, 2, none⟩ = some (.string a0_2) := (blk_cell BK303.out 2).trans rfl; have hcz26_3 : w24.cell? ⟨gb303, 3, none⟩ = some (.float .f64 a0_3) := (blk_cell BK303.out 3).trans rfl; have hfz26_0 := blk_frozen BK303.out 0; have hfz26_1 := blk_frozen BK303.out 1; have hfz26_2 := blk_frozen BK303.out 2; have hfz26_3 := blk_frozen BK303.out 3; have hcz27_0 : w24.cell? ⟨gb304, 0, none⟩ = some (.int .i64 a1_0) := (blk_cell BK304.out 0).trans rfl; have hcz27_1 : w24.cell? ⟨gb304, 1, none⟩ = some (.int .i64 a1_1) := (blk_cell BK304.out 1).trans rfl; have hcz27_2 : w24.cell? ⟨gb304, 2, none⟩ = some (.string a1_2) := (blk_cell BK304.out 2).trans rfl; have hcz27_3 : w24.cell? ⟨gb304, 3, none⟩ = some (.float .f64 a1_3) := (blk_cell BK304.out 3).trans rfl; have hfz27_0 := blk_frozen BK304.out 0; have hfz27_1 := blk_frozen BK304.out 1; have hfz27_2 := blk_frozen BK304.out 2; have hfz27_3 := blk_frozen BK304.out 3))
    go_ret
    exact ⟨by first | rfl | (simp [errW_none, errW_some] <;> rfl) | (simp [*, errW_none, errW_some] <;> rfl), by repeat (first | (with_reducible first | exact HB.out | apply below_alloc | apply pw_below_drewN | apply below_drew1 | refine below_set ?_ GE303.out | refine below_set ?_ GE304.out) | exact HB.out)⟩
end Go.Proofs.Ytfcndhajcikgiaa.B
namespace Go.Proofs.Ytfcndhajcikgiaa.B
open Go.RowKit Go.Proofs.YtfcndhajcikgiaaW.PrintWords Go.Proofs.YtfcndhajcikgiaaW.PrintLast Go.Proofs.YtfcndhajcikgiaaW.PrintMore
attribute [local go_sem high] eqA27
def bonsairef13_Alike.f (a0_0 : Int) (a0_1 : Int) (a0_2 : Int) (a0_3 : Int) (a0_4 : ByteArray) (a0_5 : Nat) (a1_0 : Int) (a1_1 : Int) (a1_2 : Int) (a1_3 : Int) (a1_4 : ByteArray) (a1_5 : Nat) : Option (Bool) := if (a0_0 == a1_0 && (a0_1 == a1_1)) = true then ((bonsairef13_Row.f a0_0 a0_1 a0_2 a0_3 a0_4 a0_5).bind fun bt308 => ((bonsairef13_Row.f a1_0 a1_1 a1_2 a1_3 a1_4 a1_5).bind fun bt312 => ((bonsairef12_Alike.f bt308.1 bt308.2.1 bt308.2.2.1 bt308.2.2.2 bt312.1 bt312.2.1 bt312.2.2.1 bt312.2.2.2).bind fun t316 => (some t316)))) else (some false)
def bonsairef13_Alike.T1 : Bool × List (List Nat × List Nat) := (true, [([], []), ([0], [0]), ([], []), ([2], [2]), ([1, 3], [1, 3]), ([4], [4]), ([5], [5]), ([6, 5, 5], [5, 6]), ([5], [5]), ([8, 7, 5], [5, 8]), ([7, 9, 9, 5], [5, 7, 9]), ([5, 10], [5, 10]), ([11, 10, 0, 1, 2, 3, 4, 5, 6, 7, 8, 9, 10, 11], [11])])
def bonsairef13_Alike.B1 : List Nat := [0, 1, 0, 4, 15, 31, 63, 127, 63, 511, 1023, 2047, 4095]
theorem bonsairef13_Alike.tab1 : rtab .any (opsOf Try.f44 1) = bonsairef13_Alike.T1 := by kernel_rfl
theorem bonsairef13_Alike.bits1 : waitsOk bonsairef13_Alike.T1.2 bonsairef13_Alike.B1 = true := by kernel_rfl
set_option maxHeartbeats 8000000 in
set_option maxRecDepth 100000 in
theorem bonsairef13_Alike.calls (a0_0 : Int) (a0_1 : Int) (a0_2 : Int) (a0_3 : Int) (a0_4 : ByteArray) (a0_5 : Nat) (a1_0 : Int) (a1_1 : Int) (a1_2 : Int) (a1_3 : Int) (a1_4 : ByteArray) (a1_5 : Nat) (r : Bool) (w : World) (h : bonsairef13_Alike.f a0_0 a0_1 a0_2 a0_3 a0_4 a0_5 a1_0 a1_1 a1_2 a1_3 a1_4 a1_5 = some r) :
    Calls Try.prog 44 #[.agg #[.int .i64 a0_0, .int .i64 a0_1, .int .i64 a0_2, .int .i64 a0_3, .string a0_4, .float .f64 a0_5], .agg #[.int .i64 a1_0, .int .i64 a1_1, .int .i64 a1_2, .int .i64 a1_3, .string a1_4, .float .f64 a1_5]] w fun e w' => e = .returned (.bool r) ∧ Below w.heap.size w w' := by
  have hu30 := Try.underlying30
  have hu27 := Try.underlying27
  have HB := Aside0.mk (Below.refl w.heap.size w)
  have H : (if (a0_0 == a1_0 && (a0_1 == a1_1)) = true then ((bonsairef13_Row.f a0_0 a0_1 a0_2 a0_3 a0_4 a0_5).bind fun bt308 => ((bonsairef13_Row.f a1_0 a1_1 a1_2 a1_3 a1_4 a1_5).bind fun bt312 => ((bonsairef12_Alike.f bt308.1 bt308.2.1 bt308.2.2.1 bt308.2.2.2 bt312.1 bt312.2.1 bt312.2.2.1 bt312.2.2.2).bind fun t316 => (some t316)))) else (some false)) = some r := h
  clear h
  by_cases c3 : (a0_0 == a1_0 && (a0_1 == a1_1)) = true
  · rw [if_pos c3] at H
    have c3b0 : (a0_0 == a1_0 && (a0_1 == a1_1)) = true := c3
    (try (have c3b1 : decide (a0_0 = a1_0 && (a0_1 == a1_1)) = true := by simpa using c3))
    (try (have c3b2 : (a0_0 == a1_0 && (a0_1 == a1_1)) = true := by simpa using c3))
    clear c3
    replace H := Option.bind_eq_some_iff.mp H
    obtain ⟨⟨t308, t309, t310, t311⟩, A40, H⟩ := H
    replace H : ((bonsairef13_Row.f a1_0 a1_1 a1_2 a1_3 a1_4 a1_5).bind fun bt312 => ((bonsairef12_Alike.f t308 t309 t310 t311 bt312.1 bt312.2.1 bt312.2.2.1 bt312.2.2.2).bind fun t316 => (some t316))) = some r := H
    have A4 := Aside0.mk A40
    clear A40
    replace H := Option.bind_eq_some_iff.mp H
    obtain ⟨⟨t312, t313, t314, t315⟩, A50, H⟩ := H
    replace H : ((bonsairef12_Alike.f t308 t309 t310 t311 t312 t313 t314 t315).bind fun t316 => (some t316)) = some r := H
    have A5 := Aside0.mk A50
    clear A50
    replace H := Option.bind_eq_some_iff.mp H
    obtain ⟨t316, A60, H⟩ := H
    replace H : (some t316) = some r := H
    have A6 := Aside0.mk A60
    clear A60
    obtain rfl := Option.some.inj H
    go_enter Try.func44, Try.ntmps44
    try go_wp2_with (first | ((with_reducible refine gate_dst (N := 2) rfl ?_); refine box_event ?hg (N := 2) ?hd (cs := #[.int .i64 a0_0, .int .i64 a0_1, .int .i64 a0_2, .int .i64 a0_3, .string a0_4, .float .f64 a0_5]) (t := 30) ?hr ?_; (case hd => rfl); (case hg => rfl); (case hr => first | (go_simp; done) | (go_simp; rfl)); intro gb306 hg w7 hbox hb; have n0_ := Aside0.mk (below_step (by repeat (first | (with_reducible first | exact HB.out | apply below_alloc | apply pw_below_drewN | apply below_drew1) | exact HB.out)) hb); have n1_ := Aside0.mk (hbox); have n2_ := Aside0.mk ((by rw [hg]; exact (below_size (by repeat (first | (with_reducible first | exact HB.out | apply below_alloc | apply pw_below_drewN | apply below_drew1) | exact HB.out))) : w.heap.size ≤ gb306)); have n3_ := Aside0.mk ((by rw [hg]; exact (below_size (by repeat (first | (with_reducible first | exact HB.out | apply below_alloc | apply pw_below_drewN | apply below_drew1) | exact HB.out))) : w.heap.size ≤ gb306)); clear HB; have HB := n0_; have BK306 := n1_; have GW306 := n2_; have GE306 := n3_; clear n0_ n1_ n2_ n3_; clear hb hbox hg) | ((with_reducible refine gate_dst (N := 3) rfl ?_); refine box_event ?hg (N := 3) ?hd (cs := #[.int .i64 a1_0, .int .i64 a1_1, .int .i64 a1_2, .int .i64 a1_3, .string a1_4, .float .f64 a1_5]) (t := 30) ?hr ?_; (case hd => rfl); (case hg => rfl); (case hr => first | (go_simp; done) | (go_simp; rfl)); intro gb307 hg w8 hbox hb; have n0_ := Aside0.mk (blk_below (g := gb306) (o := .cells #[.int .i64 a0_0, .int .i64 a0_1, .int .i64 a0_2, .int .i64 a0_3, .string a0_4, .float .f64 a0_5] 30 (0, 0)) (by (with_reducible repeat (first | refine blk_drewN ?_ _ | refine blk_drew ?_ | refine blk_alloc ?_ _)); exact BK306.out) hb); have n1_ := Aside0.mk (below_step (by repeat (first | (with_reducible first | exact HB.out | apply below_alloc | apply pw_below_drewN | apply below_drew1 | refine below_set ?_ GE306.out) | exact HB.out)) hb); have n2_ := Aside0.mk (hbox); have n3_ := Aside0.mk ((by rw [hg]; exact (below_size (by repeat (first | (with_reducible first | exact HB.out | apply below_alloc | apply pw_below_drewN | apply below_drew1 | refine below_set ?_ GE306.out) | exact HB.out))) : w.heap.size ≤ gb307)); have n4_ := Aside0.mk ((by rw [hg]; exact (below_size (by repeat (first | (with_reducible first | exact HB.out | apply below_alloc | apply pw_below_drewN | apply below_drew1 | refine below_set ?_ GE306.out) | exact HB.out))) : w.heap.size ≤ gb307)); have n5_ := Aside0.mk ((by rw [hg]; exact Nat.ne_of_lt (blk_lt (g := gb306) (o := .cells #[.int .i64 a0_0, .int .i64 a0_1, .int .i64 a0_2, .int .i64 a0_3, .string a0_4, .float .f64 a0_5] 30 (0, 0)) (by (with_reducible repeat (first | refine blk_drewN ?_ _ | refine blk_drew ?_ | refine blk_alloc ?_ _)); exact BK306.out)) : gb306 ≠ gb307)); have n6_ := Aside0.mk ((by rw [hg]; exact Nat.ne_of_gt (blk_lt (g := gb306) (o := .cells #[.int .i64 a0_0, .int .i64 a0_1, .int .i64 a0_2, .int .i64 a0_3, .string a0_4, .float .f64 a0_5] 30 (0, 0)) (by (with_reducible repeat (first | refine blk_drewN ?_ _ | refine blk_drew ?_ | refine blk_alloc ?_ _)); exact BK306.out)) : gb307 ≠ gb306)); clear BK306; clear HB; have BK306 := n0_; have HB := n1_; have BK307 := n2_; have GW307 := n3_; have GE307 := n4_; have NB306_307 := n5_; have NB307_306 := n6_; clear n0_ n1_ n2_ n3_ n4_ n5_ n6_; clear hb hbox hg))
    have n0_ := Aside0.mk (blk_drew BK306.out)
    have n1_ := Aside0.mk (blk_drew BK307.out)
    have n2_ := Aside0.mk (below_drew1 HB.out)
    clear BK306
    clear BK307
    clear HB
    have BK306 := n0_
    have BK307 := n1_
    have HB := n2_
    clear n0_ n1_ n2_
    refine start_ (n := 13) (S := fun w' => w'.cell? ⟨gb306, 0, none⟩ = some (.int .i64 a0_0) ∧ w'.cell? ⟨gb306, 1, none⟩ = some (.int .i64 a0_1) ∧ w'.cell? ⟨gb306, 2, none⟩ = some (.int .i64 a0_2) ∧ w'.cell? ⟨gb306, 3, none⟩ = some (.int .i64 a0_3) ∧ w'.cell? ⟨gb306, 4, none⟩ = some (.string a0_4) ∧ w'.cell? ⟨gb306, 5, none⟩ = some (.float .f64 a0_5) ∧ w'.cell? ⟨gb307, 0, none⟩ = some (.int .i64 a1_0) ∧ w'.cell? ⟨gb307, 1, none⟩ = some (.int .i64 a1_1) ∧ w'.cell? ⟨gb307, 2, none⟩ = some (.int .i64 a1_2) ∧ w'.cell? ⟨gb307, 3, none⟩ = some (.int .i64 a1_3) ∧ w'.cell? ⟨gb307, 4, none⟩ = some (.string a1_4) ∧ w'.cell? ⟨gb307, 5, none⟩ = some (.float .f64 a1_5)) (ds := []) #[false, false, false, false, false, false, false, false, false, false, false, false, false] (by kernel_rfl) rfl rfl ⟨(blk_cell BK306.out 0).trans rfl, (blk_cell BK306.out 1).trans rfl, (blk_cell BK306.out 2).trans rfl, (blk_cell BK306.out 3).trans rfl, (blk_cell BK306.out 4).trans rfl, (blk_cell BK306.out 5).trans rfl, (blk_cell BK307.out 0).trans rfl, (blk_cell BK307.out 1).trans rfl, (blk_cell BK307.out 2).trans rfl, (blk_cell BK307.out 3).trans rfl, (blk_cell BK307.out 4).trans rfl, (blk_cell BK307.out 5).trans rfl⟩ (fun hHeld => ?_); refine with_tabW bonsairef13_Alike.tab1 bonsairef13_Alike.bits1 (fun HT_ HW_ => ?_)
    generalize w8.drew = w9 at BK306 BK307 HB hHeld ⊢
    refine pure_ (i := 0) (N := some 5) (v := ?_) (a' := ?_) #[true, false, false, false, false, false, false, false, false, false, false, false, false] rfl rfl (any_of HT_.out (by kernel_rfl)) (fun _ _ _ h => h) (Or.inl ⟨by rfl, ?_⟩) ?_ ?_
    rotate_left
    · intro w'
      go_simp
      with_reducible rfl
    rotate_left
    · simp only [Act.put, List.setIfInBounds_toArray, List.set_cons_zero, List.set_cons_succ, i64_w, i32_w]
      rfl
    refine pure_ (i := 2) (N := some 7) (v := ?_) (a' := ?_) #[true, false, true, false, false, false, false, false, false, false, false, false, false] rfl rfl (any_of HT_.out (by kernel_rfl)) (fun _ _ _ h => h) (Or.inl ⟨by rfl, ?_⟩) ?_ ?_
    rotate_left
    · intro w'
      go_simp
      with_reducible rfl
    rotate_left
    · simp only [Act.put, List.setIfInBounds_toArray, List.set_cons_zero, List.set_cons_succ, i64_w, i32_w]
      rfl
    refine take_ (i := 1) (N := some 6) (v := ?_) (a' := ?_) #[true, true, true, false, false, false, false, false, false, false, false, false, false] rfl rfl (take_ofW HT_.out HW_.out (by kernel_rfl)) (fun _ _ _ h => h) (Or.inl ⟨by rfl, ?_⟩) hHeld ?_ ?_
    rotate_left
    · rintro w' ⟨s0, s1, s2, s3, s4, s5, s6, s7, s8, s9, s10, s11⟩
      go_simp
      with_reducible rfl
    rotate_left
    · simp only [Act.put, List.setIfInBounds_toArray, List.set_cons_zero, List.set_cons_succ, i64_w, i32_w]
      rfl
    refine take_ (i := 3) (N := some 8) (v := ?_) (a' := ?_) #[true, true, true, true, false, false, false, false, false, false, false, false, false] rfl rfl (take_ofW HT_.out HW_.out (by kernel_rfl)) (fun _ _ _ h => h) (Or.inl ⟨by rfl, ?_⟩) hHeld ?_ ?_
    rotate_left
    · rintro w' ⟨s0, s1, s2, s3, s4, s5, s6, s7, s8, s9, s10, s11⟩
      go_simp
      with_reducible rfl
    rotate_left
    · simp only [Act.put, List.setIfInBounds_toArray, List.set_cons_zero, List.set_cons_succ, i64_w, i32_w]
      rfl
    refine pure_ (i := 4) (N := some 9) (v := ?_) (a' := ?_) #[true, true, true, true, true, false, false, false, false, false, false, false, false] rfl rfl (any_of HT_.out (by kernel_rfl)) (fun _ _ _ h => h) (Or.inl ⟨by rfl, ?_⟩) ?_ ?_
    rotate_left
    · intro w'
      go_simp
      with_reducible rfl
    rotate_left
    · simp only [Act.put, List.setIfInBounds_toArray, List.set_cons_zero, List.set_cons_succ, i64_w, i32_w]
      rfl
    refine pure_ (i := 5) (N := some 10) (v := ?_) (a' := ?_) #[true, true, true, true, true, true, false, false, false, false, false, false, false] rfl rfl (any_of HT_.out (by kernel_rfl)) (fun _ _ _ h => h) (Or.inl ⟨by rfl, ?_⟩) ?_ ?_
    rotate_left
    · intro w'
      go_simp
      with_reducible rfl
    rotate_left
    · simp only [Act.put, List.setIfInBounds_toArray, List.set_cons_zero, List.set_cons_succ, i64_w, i32_w]
      rfl
    refine take_ (i := 6) (N := some 11) (v := ?_) (a' := ?_) #[true, true, true, true, true, true, true, false, false, false, false, false, false] rfl rfl (take_ofW HT_.out HW_.out (by kernel_rfl)) (fun _ _ _ h => h) (Or.inl ⟨by rfl, ?_⟩) hHeld ?_ ?_
    rotate_left
    · rintro w' ⟨s0, s1, s2, s3, s4, s5, s6, s7, s8, s9, s10, s11⟩
      go_simp
      with_reducible rfl
    rotate_left
    · simp only [Act.put, List.setIfInBounds_toArray, List.set_cons_zero, List.set_cons_succ, i64_w, i32_w]
      rfl
    refine take_ (i := 8) (N := some 13) (v := ?_) (a' := ?_) #[true, true, true, true, true, true, true, false, true, false, false, false, false] rfl rfl (take_ofW HT_.out HW_.out (by kernel_rfl)) (fun _ _ _ h => h) (Or.inl ⟨by rfl, ?_⟩) hHeld ?_ ?_
    rotate_left
    · rintro w' ⟨s0, s1, s2, s3, s4, s5, s6, s7, s8, s9, s10, s11⟩
      go_simp
      with_reducible rfl
    rotate_left
    · simp only [Act.put, List.setIfInBounds_toArray, List.set_cons_zero, List.set_cons_succ, i64_w, i32_w]
      rfl
    refine one_ (i := 7) (N := some 12) #[true, true, true, true, true, true, true, true, true, false, false, false, false] rfl rfl (one_of HT_.out (by kernel_rfl)) (by decide) (fun K hK => ?_)
    refine goes_ Try.func74 (by kernel_rfl) rfl #[.agg #[.int .i64 a0_0, .int .i64 a0_1, .int .i64 a0_2, .int .i64 a0_3, .string a0_4, .float .f64 a0_5]] (by rfl) rfl rfl (by (try simp only [List.map_toArray, List.map_cons, List.map_nil]); first | done | rfl | (simp only [List.length_drop, List.length_take]; rfl)) ?_
    with_reducible refine (bonsairef13_Row.calls a0_0 a0_1 a0_2 a0_3 a0_4 a0_5 t308 t309 t310 t311 _ A4.out).mono ?_
    rintro e w10 ⟨rfl, hb⟩
    refine ⟨_, rfl, ?_⟩
    have n0_ := Aside0.mk (blk_below (g := gb306) (o := .cells #[.int .i64 a0_0, .int .i64 a0_1, .int .i64 a0_2, .int .i64 a0_3, .string a0_4, .float .f64 a0_5] 30 (0, 0)) (by (with_reducible repeat (first | refine blk_drewN ?_ _ | refine blk_drew ?_ | refine blk_alloc ?_ _)); exact BK306.out) hb)
    have n1_ := Aside0.mk (blk_below (g := gb307) (o := .cells #[.int .i64 a1_0, .int .i64 a1_1, .int .i64 a1_2, .int .i64 a1_3, .string a1_4, .float .f64 a1_5] 30 (0, 0)) (by (with_reducible repeat (first | refine blk_drewN ?_ _ | refine blk_drew ?_ | refine blk_alloc ?_ _)); exact BK307.out) hb)
    have n2_ := Aside0.mk (below_step (by repeat (first | (with_reducible first | exact HB.out | apply below_alloc | apply pw_below_drewN | apply below_drew1 | refine below_set ?_ GE306.out | refine below_set ?_ GE307.out) | exact HB.out)) hb)
    clear BK306
    clear BK307
    clear HB
    have BK306 := n0_
    have BK307 := n1_
    have HB := n2_
    clear n0_ n1_ n2_
    (try clear hb)
    (try clear hb2)
    (try clear hk)
    (try clear hi)
    refine hK.out _ _ ⟨(blk_cell BK306.out 0).trans rfl, (blk_cell BK306.out 1).trans rfl, (blk_cell BK306.out 2).trans rfl, (blk_cell BK306.out 3).trans rfl, (blk_cell BK306.out 4).trans rfl, (blk_cell BK306.out 5).trans rfl, (blk_cell BK307.out 0).trans rfl, (blk_cell BK307.out 1).trans rfl, (blk_cell BK307.out 2).trans rfl, (blk_cell BK307.out 3).trans rfl, (blk_cell BK307.out 4).trans rfl, (blk_cell BK307.out 5).trans rfl⟩ (fun hHeld => ?_)
    clear hK K
    refine norm_ (a' := ?_) ?_ ?_
    rotate_left
    · show Act.put _ (some 12) _ = _
      simp only [Act.put, List.setIfInBounds_toArray, List.set_cons_zero, List.set_cons_succ, i64_w, i32_w]
      rfl
    refine one_ (i := 9) (N := some 14) #[true, true, true, true, true, true, true, true, true, true, false, false, false] rfl rfl (one_of HT_.out (by kernel_rfl)) (by decide) (fun K hK => ?_)
    refine goes_ Try.func74 (by kernel_rfl) rfl #[.agg #[.int .i64 a1_0, .int .i64 a1_1, .int .i64 a1_2, .int .i64 a1_3, .string a1_4, .float .f64 a1_5]] (by rfl) rfl rfl (by (try simp only [List.map_toArray, List.map_cons, List.map_nil]); first | done | rfl | (simp only [List.length_drop, List.length_take]; rfl)) ?_
    with_reducible refine (bonsairef13_Row.calls a1_0 a1_1 a1_2 a1_3 a1_4 a1_5 t312 t313 t314 t315 _ A5.out).mono ?_
    rintro e w11 ⟨rfl, hb⟩
    refine ⟨_, rfl, ?_⟩
    have n0_ := Aside0.mk (blk_below (g := gb306) (o := .cells #[.int .i64 a0_0, .int .i64 a0_1, .int .i64 a0_2, .int .i64 a0_3, .string a0_4, .float .f64 a0_5] 30 (0, 0)) (by (with_reducible repeat (first | refine blk_drewN ?_ _ | refine blk_drew ?_ | refine blk_alloc ?_ _)); exact BK306.out) hb)
    have n1_ := Aside0.mk (blk_below (g := gb307) (o := .cells #[.int .i64 a1_0, .int .i64 a1_1, .int .i64 a1_2, .int .i64 a1_3, .string a1_4, .float .f64 a1_5] 30 (0, 0)) (by (with_reducible repeat (first | refine blk_drewN ?_ _ | refine blk_drew ?_ | refine blk_alloc ?_ _)); exact BK307.out) hb)
    have n2_ := Aside0.mk (below_step (by repeat (first | (with_reducible first | exact HB.out | apply below_alloc | apply pw_below_drewN | apply below_drew1 | refine below_set ?_ GE306.out | refine below_set ?_ GE307.out) | exact HB.out)) hb)
    clear BK306
    clear BK307
    clear HB
    have BK306 := n0_
    have BK307 := n1_
    have HB := n2_
    clear n0_ n1_ n2_
    (try clear hb)
    (try clear hb2)
    (try clear hk)
    (try clear hi)
    refine hK.out _ _ ⟨(blk_cell BK306.out 0).trans rfl, (blk_cell BK306.out 1).trans rfl, (blk_cell BK306.out 2).trans rfl, (blk_cell BK306.out 3).trans rfl, (blk_cell BK306.out 4).trans rfl, (blk_cell BK306.out 5).trans rfl, (blk_cell BK307.out 0).trans rfl, (blk_cell BK307.out 1).trans rfl, (blk_cell BK307.out 2).trans rfl, (blk_cell BK307.out 3).trans rfl, (blk_cell BK307.out 4).trans rfl, (blk_cell BK307.out 5).trans rfl⟩ (fun hHeld => ?_)
    clear hK K
    refine norm_ (a' := ?_) ?_ ?_
    rotate_left
    · show Act.put _ (some 14) _ = _
      simp only [Act.put, List.setIfInBounds_toArray, List.set_cons_zero, List.set_cons_succ, i64_w, i32_w]
      rfl
    refine one_ (i := 10) (N := some 15) #[true, true, true, true, true, true, true, true, true, true, true, false, false] rfl rfl (one_of HT_.out (by kernel_rfl)) (by decide) (fun K hK => ?_)
    refine goes_ Try.func75 (by kernel_rfl) rfl #[.agg #[.int .i64 t308, .int .i64 t309, .string t310, .float .f64 t311], .agg #[.int .i64 t312, .int .i64 t313, .string t314, .float .f64 t315]] (by rfl) rfl rfl (by (try simp only [List.map_toArray, List.map_cons, List.map_nil]); first | done | rfl | (simp only [List.length_drop, List.length_take]; rfl)) ?_
    with_reducible refine (bonsairef12_Alike.calls t308 t309 t310 t311 t312 t313 t314 t315 t316 _ A6.out).mono ?_
    rintro e w12 ⟨rfl, hb⟩
    refine ⟨_, rfl, ?_⟩
    have n0_ := Aside0.mk (blk_below (g := gb306) (o := .cells #[.int .i64 a0_0, .int .i64 a0_1, .int .i64 a0_2, .int .i64 a0_3, .string a0_4, .float .f64 a0_5] 30 (0, 0)) (by (with_reducible repeat (first | refine blk_drewN ?_ _ | refine blk_drew ?_ | refine blk_alloc ?_ _)); exact BK306.out) hb)
    have n1_ := Aside0.mk (blk_below (g := gb307) (o := .cells #[.int .i64 a1_0, .int .i64 a1_1, .int .i64 a1_2, .int .i64 a1_3, .string a1_4, .float .f64 a1_5] 30 (0, 0)) (by (with_reducible repeat (first | refine blk_drewN ?_ _ | refine blk_drew ?_ | refine blk_alloc ?_ _)); exact BK307.out) hb)
    have n2_ := Aside0.mk (below_step (by repeat (first | (with_reducible first | exact HB.out | apply below_alloc | apply pw_below_drewN | apply below_drew1 | refine below_set ?_ GE306.out | refine below_set ?_ GE307.out) | exact HB.out)) hb)
    clear BK306
    clear BK307
    clear HB
    have BK306 := n0_
    have BK307 := n1_
    have HB := n2_
    clear n0_ n1_ n2_
    (try clear hb)
    (try clear hb2)
    (try clear hk)
    (try clear hi)
    refine hK.out _ _ ⟨(blk_cell BK306.out 0).trans rfl, (blk_cell BK306.out 1).trans rfl, (blk_cell BK306.out 2).trans rfl, (blk_cell BK306.out 3).trans rfl, (blk_cell BK306.out 4).trans rfl, (blk_cell BK306.out 5).trans rfl, (blk_cell BK307.out 0).trans rfl, (blk_cell BK307.out 1).trans rfl, (blk_cell BK307.out 2).trans rfl, (blk_cell BK307.out 3).trans rfl, (blk_cell BK307.out 4).trans rfl, (blk_cell BK307.out 5).trans rfl⟩ (fun hHeld => ?_)
    clear hK K
    refine norm_ (a' := ?_) ?_ ?_
    rotate_left
    · show Act.put _ (some 15) _ = _
      simp only [Act.put, List.setIfInBounds_toArray, List.set_cons_zero, List.set_cons_succ, i64_w, i32_w]
      rfl
    refine pure_ (i := 11) (N := some 16) (v := ?_) (a' := ?_) #[true, true, true, true, true, true, true, true, true, true, true, true, false] rfl rfl (any_of HT_.out (by kernel_rfl)) (fun _ _ _ h => h) (Or.inl ⟨by rfl, ?_⟩) ?_ ?_
    rotate_left
    · intro w'
      go_simp
      with_reducible rfl
    rotate_left
    · simp only [Act.put, List.setIfInBounds_toArray, List.set_cons_zero, List.set_cons_succ, i64_w, i32_w]
      rfl
    refine pure_ (i := 12) (N := some 4) (v := ?_) (a' := ?_) #[true, true, true, true, true, true, true, true, true, true, true, true, true] rfl rfl (any_of HT_.out (by kernel_rfl)) (fun _ _ _ h => h) (Or.inl ⟨by rfl, ?_⟩) ?_ ?_
    rotate_left
    · intro w'
      go_simp
      with_reducible rfl
    rotate_left
    · simp only [Act.put, List.setIfInBounds_toArray, List.set_cons_zero, List.set_cons_succ, i64_w, i32_w]
      rfl
    refine done_ (done_of HT_.out (by kernel_rfl)) ?_
    try go_wp2
    go_ret
    exact ⟨by first | rfl | (simp [errW_none, errW_some] <;> rfl) | (simp [*, errW_none, errW_some] <;> rfl), by repeat (first | (with_reducible first | exact HB.out | apply below_alloc | apply pw_below_drewN | apply below_drew1 | refine below_set ?_ GE306.out | refine below_set ?_ GE307.out) | exact HB.out)⟩
  · rw [if_neg c3] at H
    have c3b0 : (a0_0 == a1_0 && (a0_1 == a1_1)) = false := by simpa using c3
    (try (have c3b1 : decide (a0_0 = a1_0 && (a0_1 == a1_1)) = false := by simpa using c3))
    (try (have c3b2 : (a0_0 == a1_0 && (a0_1 == a1_1)) = false := by simpa using c3))
    (try (have c3b3 : ¬ (a0_0 = a1_0 && (a0_1 == a1_1)) := by simpa using c3))
    clear c3
    obtain rfl := Option.some.inj H
    go_enter Try.func44, Try.ntmps44
    try go_wp2_with (first | ((with_reducible refine gate_dst (N := 2) rfl ?_); refine box_event ?hg (N := 2) ?hd (cs := #[.int .i64 a0_0, .int .i64 a0_1, .int .i64 a0_2, .int .i64 a0_3, .string a0_4, .float .f64 a0_5]) (t := 30) ?hr ?_; (case hd => rfl); (case hg => rfl); (case hr => first | (go_simp; done) | (go_simp; rfl)); intro gb306 hg w13 hbox hb; have n0_ := Aside0.mk (below_step (by repeat (first | (with_reducible first | exact HB.out | apply below_alloc | apply pw_below_drewN | apply below_drew1) | exact HB.out)) hb); have n1_ := Aside0.mk (hbox); have n2_ := Aside0.mk ((by rw [hg]; exact (below_size (by repeat (first | (with_reducible first | exact HB.out | apply below_alloc | apply pw_below_drewN | apply below_drew1) | exact HB.out))) : w.heap.size ≤ gb306)); have n3_ := Aside0.mk ((by rw [hg]; exact (below_size (by repeat (first | (with_reducible first | exact HB.out | apply below_alloc | apply pw_below_drewN | apply below_drew1) | exact HB.out))) : w.heap.size ≤ gb306)); clear HB; have HB := n0_; have BK306 := n1_; have GW306 := n2_; have GE306 := n3_; clear n0_ n1_ n2_ n3_; clear hb hbox hg) | ((with_reducible refine gate_dst (N := 3) rfl ?_); refine box_event ?hg (N := 3) ?hd (cs := #[.int .i64 a1_0, .int .i64 a1_1, .int .i64 a1_2, .int .i64 a1_3, .string a1_4, .float .f64 a1_5]) (t := 30) ?hr ?_; (case hd => rfl); (case hg => rfl); (case hr => first | (go_simp; done) | (go_simp; rfl)); intro gb307 hg w14 hbox hb; have n0_ := Aside0.mk (blk_below (g := gb306) (o := .cells #[.int .i64 a0_0, .int .i64 a0_1, .int .i64 a0_2, .int .i64 a0_3, .string a0_4, .float .f64 a0_5] 30 (0, 0)) (by (with_reducible repeat (first | refine blk_drewN ?_ _ | refine blk_drew ?_ | refine blk_alloc ?_ _)); exact BK306.out) hb); have n1_ := Aside0.mk (below_step (by repeat (first | (with_reducible first | exact HB.out | apply below_alloc | apply pw_below_drewN | apply below_drew1 | refine below_set ?_ GE306.out) | exact HB.out)) hb); have n2_ := Aside0.mk (hbox); have n3_ := Aside0.mk ((by rw [hg]; exact (below_size (by repeat (first | (with_reducible first | exact HB.out | apply below_alloc | apply pw_below_drewN | apply below_drew1 | refine below_set ?_ GE306.out) | exact HB.out))) : w.heap.size ≤ gb307)); have n4_ := Aside0.mk ((by rw [hg]; exact (below_size (by repeat (first | (with_reducible first | exact HB.out | apply below_alloc | apply pw_below_drewN | apply below_drew1 | refine below_set ?_ GE306.out) | exact HB.out))) : w.heap.size ≤ gb307)); have n5_ := Aside0.mk ((by rw [hg]; exact Nat.ne_of_lt (blk_lt (g := gb306) (o := .cells #[.int .i64 a0_0, .int .i64 a0_1, .int .i64 a0_2, .int .i64 a0_3, .string a0_4, .float .f64 a0_5] 30 (0, 0)) (by (with_reducible repeat (first | refine blk_drewN ?_ _ | refine blk_drew ?_ | refine blk_alloc ?_ _)); exact BK306.out)) : gb306 ≠ gb307)); have n6_ := Aside0.mk ((by rw [hg]; exact Nat.ne_of_gt (blk_lt (g := gb306) (o := .cells #[.int .i64 a0_0, .int .i64 a0_1, .int .i64 a0_2, .int .i64 a0_3, .string a0_4, .float .f64 a0_5] 30 (0, 0)) (by (with_reducible repeat (first | refine blk_drewN ?_ _ | refine blk_drew ?_ | refine blk_alloc ?_ _)); exact BK306.out)) : gb307 ≠ gb306)); clear BK306; clear HB; have BK306 := n0_; have HB := n1_; have BK307 := n2_; have GW307 := n3_; have GE307 := n4_; have NB306_307 := n5_; have NB307_306 := n6_; clear n0_ n1_ n2_ n3_ n4_ n5_ n6_; clear hb hbox hg))
    have n0_ := Aside0.mk (blk_drew BK306.out)
    have n1_ := Aside0.mk (blk_drew BK307.out)
    have n2_ := Aside0.mk (below_drew1 HB.out)
    clear BK306
    clear BK307
    clear HB
    have BK306 := n0_
    have BK307 := n1_
    have HB := n2_
    clear n0_ n1_ n2_
    refine start_ (n := 13) (S := fun w' => w'.cell? ⟨gb306, 0, none⟩ = some (.int .i64 a0_0) ∧ w'.cell? ⟨gb306, 1, none⟩ = some (.int .i64 a0_1) ∧ w'.cell? ⟨gb306, 2, none⟩ = some (.int .i64 a0_2) ∧ w'.cell? ⟨gb306, 3, none⟩ = some (.int .i64 a0_3) ∧ w'.cell? ⟨gb306, 4, none⟩ = some (.string a0_4) ∧ w'.cell? ⟨gb306, 5, none⟩ = some (.float .f64 a0_5) ∧ w'.cell? ⟨gb307, 0, none⟩ = some (.int .i64 a1_0) ∧ w'.cell? ⟨gb307, 1, none⟩ = some (.int .i64 a1_1) ∧ w'.cell? ⟨gb307, 2, none⟩ = some (.int .i64 a1_2) ∧ w'.cell? ⟨gb307, 3, none⟩ = some (.int .i64 a1_3) ∧ w'.cell? ⟨gb307, 4, none⟩ = some (.string a1_4) ∧ w'.cell? ⟨gb307, 5, none⟩ = some (.float .f64 a1_5)) (ds := []) #[false, false, false, false, false, false, false, false, false, false, false, false, false] (by kernel_rfl) rfl rfl ⟨(blk_cell BK306.out 0).trans rfl, (blk_cell BK306.out 1).trans rfl, (blk_cell BK306.out 2).trans rfl, (blk_cell BK306.out 3).trans rfl, (blk_cell BK306.out 4).trans rfl, (blk_cell BK306.out 5).trans rfl, (blk_cell BK307.out 0).trans rfl, (blk_cell BK307.out 1).trans rfl, (blk_cell BK307.out 2).trans rfl, (blk_cell BK307.out 3).trans rfl, (blk_cell BK307.out 4).trans rfl, (blk_cell BK307.out 5).trans rfl⟩ (fun hHeld => ?_); refine with_tabW bonsairef13_Alike.tab1 bonsairef13_Alike.bits1 (fun HT_ HW_ => ?_)
    generalize w14.drew = w15 at BK306 BK307 HB hHeld ⊢
    refine pure_ (i := 0) (N := some 5) (v := ?_) (a' := ?_) #[true, false, false, false, false, false, false, false, false, false, false, false, false] rfl rfl (any_of HT_.out (by kernel_rfl)) (fun _ _ _ h => h) (Or.inl ⟨by rfl, ?_⟩) ?_ ?_
    rotate_left
    · intro w'
      go_simp
      with_reducible rfl
    rotate_left
    · simp only [Act.put, List.setIfInBounds_toArray, List.set_cons_zero, List.set_cons_succ, i64_w, i32_w]
      rfl
    refine pure_ (i := 2) (N := some 7) (v := ?_) (a' := ?_) #[true, false, true, false, false, false, false, false, false, false, false, false, false] rfl rfl (any_of HT_.out (by kernel_rfl)) (fun _ _ _ h => h) (Or.inl ⟨by rfl, ?_⟩) ?_ ?_
    rotate_left
    · intro w'
      go_simp
      with_reducible rfl
    rotate_left
    · simp only [Act.put, List.setIfInBounds_toArray, List.set_cons_zero, List.set_cons_succ, i64_w, i32_w]
      rfl
    refine take_ (i := 1) (N := some 6) (v := ?_) (a' := ?_) #[true, true, true, false, false, false, false, false, false, false, false, false, false] rfl rfl (take_ofW HT_.out HW_.out (by kernel_rfl)) (fun _ _ _ h => h) (Or.inl ⟨by rfl, ?_⟩) hHeld ?_ ?_
    rotate_left
    · rintro w' ⟨s0, s1, s2, s3, s4, s5, s6, s7, s8, s9, s10, s11⟩
      go_simp
      with_reducible rfl
    rotate_left
    · simp only [Act.put, List.setIfInBounds_toArray, List.set_cons_zero, List.set_cons_succ, i64_w, i32_w]
      rfl
    refine take_ (i := 3) (N := some 8) (v := ?_) (a' := ?_) #[true, true, true, true, false, false, false, false, false, false, false, false, false] rfl rfl (take_ofW HT_.out HW_.out (by kernel_rfl)) (fun _ _ _ h => h) (Or.inl ⟨by rfl, ?_⟩) hHeld ?_ ?_
    rotate_left
    · rintro w' ⟨s0, s1, s2, s3, s4, s5, s6, s7, s8, s9, s10, s11⟩
      go_simp
      with_reducible rfl
    rotate_left
    · simp only [Act.put, List.setIfInBounds_toArray, List.set_cons_zero, List.set_cons_succ, i64_w, i32_w]
      rfl
    refine pure_ (i := 4) (N := some 9) (v := ?_) (a' := ?_) #[true, true, true, true, true, false, false, false, false, false, false, false, false] rfl rfl (any_of HT_.out (by kernel_rfl)) (fun _ _ _ h => h) (Or.inl ⟨by rfl, ?_⟩) ?_ ?_
    rotate_left
    · intro w'
      go_simp
      with_reducible rfl
    rotate_left
    · simp only [Act.put, List.setIfInBounds_toArray, List.set_cons_zero, List.set_cons_succ, i64_w, i32_w]
      rfl
    refine pure_ (i := 5) (N := some 10) (v := ?_) (a' := ?_) #[true, true, true, true, true, true, false, false, false, false, false, false, false] rfl rfl (any_of HT_.out (by kernel_rfl)) (fun _ _ _ h => h) (Or.inl ⟨by rfl, ?_⟩) ?_ ?_
    rotate_left
    · intro w'
      go_simp
      with_reducible rfl
    rotate_left
    · simp only [Act.put, List.setIfInBounds_toArray, List.set_cons_zero, List.set_cons_succ, i64_w, i32_w]
      rfl
    refine pure_ (i := 6) (N := some 11) (v := undef) (a' := ?_) #[true, true, true, true, true, true, true, false, false, false, false, false, false] rfl rfl (any_of HT_.out (by kernel_rfl)) (fun _ _ _ h => h) (Or.inr ⟨by rfl, rfl⟩) ?_ ?_
    rotate_left
    · simp only [Act.put, List.setIfInBounds_toArray, List.set_cons_zero, List.set_cons_succ, i64_w, i32_w]
      rfl
    refine pure_ (i := 7) (N := some 12) (v := undef) (a' := ?_) #[true, true, true, true, true, true, true, true, false, false, false, false, false] rfl rfl (any_of HT_.out (by kernel_rfl)) (fun _ _ _ h => h) (Or.inr ⟨by rfl, rfl⟩) ?_ ?_
    rotate_left
    · simp only [Act.put, List.setIfInBounds_toArray, List.set_cons_zero, List.set_cons_succ, i64_w, i32_w]
      rfl
    refine pure_ (i := 8) (N := some 13) (v := undef) (a' := ?_) #[true, true, true, true, true, true, true, true, true, false, false, false, false] rfl rfl (any_of HT_.out (by kernel_rfl)) (fun _ _ _ h => h) (Or.inr ⟨by rfl, rfl⟩) ?_ ?_
    rotate_left
    · simp only [Act.put, List.setIfInBounds_toArray, List.set_cons_zero, List.set_cons_succ, i64_w, i32_w]
      rfl
    refine pure_ (i := 9) (N := some 14) (v := undef) (a' := ?_) #[true, true, true, true, true, true, true, true, true, true, false, false, false] rfl rfl (any_of HT_.out (by kernel_rfl)) (fun _ _ _ h => h) (Or.inr ⟨by rfl, rfl⟩) ?_ ?_
    rotate_left
    · simp only [Act.put, List.setIfInBounds_toArray, List.set_cons_zero, List.set_cons_succ, i64_w, i32_w]
      rfl
    refine pure_ (i := 10) (N := some 15) (v := undef) (a' := ?_) #[true, true, true, true, true, true, true, true, true, true, true, false, false] rfl rfl (any_of HT_.out (by kernel_rfl)) (fun _ _ _ h => h) (Or.inr ⟨by rfl, rfl⟩) ?_ ?_
    rotate_left
    · simp only [Act.put, List.setIfInBounds_toArray, List.set_cons_zero, List.set_cons_succ, i64_w, i32_w]
      rfl
    refine pure_ (i := 11) (N := some 16) (v := ?_) (a' := ?_) #[true, true, true, true, true, true, true, true, true, true, true, true, false] rfl rfl (any_of HT_.out (by kernel_rfl)) (fun _ _ _ h => h) (Or.inl ⟨by rfl, ?_⟩) ?_ ?_
    rotate_left
    · intro w'
      go_simp
      with_reducible rfl
    rotate_left
    · simp only [Act.put, List.setIfInBounds_toArray, List.set_cons_zero, List.set_cons_succ, i64_w, i32_w]
      rfl
    refine pure_ (i := 12) (N := some 4) (v := ?_) (a' := ?_) #[true, true, true, true, true, true, true, true, true, true, true, true, true] rfl rfl (any_of HT_.out (by kernel_rfl)) (fun _ _ _ h => h) (Or.inl ⟨by rfl, ?_⟩) ?_ ?_
    rotate_left
    · intro w'
      go_simp
      with_reducible rfl
    rotate_left
    · simp only [Act.put, List.setIfInBounds_toArray, List.set_cons_zero, List.set_cons_succ, i64_w, i32_w]
      rfl
    refine done_ (done_of HT_.out (by kernel_rfl)) ?_
    try go_wp2
    go_ret
    exact ⟨by first | rfl | (simp [errW_none, errW_some] <;> rfl) | (simp [*, errW_none, errW_some] <;> rfl), by repeat (first | (with_reducible first | exact HB.out | apply below_alloc | apply pw_below_drewN | apply below_drew1 | refine below_set ?_ GE306.out | refine below_set ?_ GE307.out) | exact HB.out)⟩
end Go.Proofs.Ytfcndhajcikgiaa.B
