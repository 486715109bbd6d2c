/- RowsReads: for every input the law returns true, and the input reads behind the call as it read before. (Part 9 of 10.) -/
import Derived.Test.YtfcndhajcikgiaaKReads8
set_option linter.unusedVariables false
set_option linter.unusedSimpArgs false
namespace Go.Proofs.Ytfcndhajcikgiaa.B
open Go.RowKit Go.Proofs.Sp Go.Proofs.Fl Go.Proofs.YtfcndhajcikgiaaW.PrintWords Go.Proofs.YtfcndhajcikgiaaW.PrintLast Go.Proofs.YtfcndhajcikgiaaW.PrintMore
def TakeOf (w : World) (m : ByteArray × Int × Int) (e : Ending) (w' : World) : Prop :=
  e = .returned (.tuple #[.string m.1, .int .i64 m.2.1, .int .i64 m.2.2]) ∧ Below w.heap.size w w'
theorem TakeOf.mk {w w' : World} {m : ByteArray × Int × Int} {a : ByteArray} {b c : Int} (h : m = (a, b, c)) (hb : Below w.heap.size w w') : TakeOf w m (.returned (.tuple #[.string a, .int .i64 b, .int .i64 c])) w' := by subst h; exact ⟨rfl, hb⟩
theorem takeS_at {S : ByteArray} {a : Int} (h : 0 ≤ a) (h2 : a ≤ S.size) : a = (S.size : Int) - (S.extract a.toNat S.size).size := by rw [ByteArray.size_extract]; omega
theorem IsS68.drawn {w0 W W1 : World} {g : Nat} {f0 : ByteArray} {f1 f2 : Int} (h : IsS68 w0 W g f0 f1 f2) (hd : Drawn0 W W1) : IsS68 w0 W1 g f0 f1 f2 := by
  obtain ⟨n, rfl⟩ := hd.out
  exact ⟨h.1, h.2⟩
theorem below_drawn0 {w0 W W1 : World} {B : Nat} (h : Below B w0 W) (hd : Drawn0 W W1) : Below B w0 W1 := by
  obtain ⟨n, rfl⟩ := hd.out
  exact pw_below_drewN h n
set_option maxRecDepth 100000 in
set_option maxHeartbeats 2000000 in
theorem bonsairef04_Take.calls (S : ByteArray) (at_ : Int) (w : World) (hS : S.size ≤ 140737488355328) :
    Calls Try.prog 37 #[.string S, .int .i64 at_, .int .i64 64] w (TakeOf w (takeS S at_)) := by
  obtain ⟨m, hm⟩ : ∃ m, m = takeS S at_ := ⟨_, rfl⟩
  rw [← hm]
  unfold takeS at hm
  have HM := Lib.hid hm
  clear hm
  by_cases c1 : at_ < 0
  · have HF := Lib.hid (show m = (⟨#[]⟩, 0, 1) by rw [HM.out, if_pos (.inl c1)])
    go_enter Try.func37, Try.ntmps37
    go_wp2
    go_ret3
    exact TakeOf.mk HF.out (Below.refl _ _)
  · by_cases c2 : (S.size : Int) < at_
    · have HF := Lib.hid (show m = (⟨#[]⟩, 0, 1) by rw [HM.out, if_pos (.inr c2)])
      go_enter Try.func37, Try.ntmps37
      go_wp2
      go_ret3
      exact TakeOf.mk HF.out (Below.refl _ _)
    · have hE := HM.out
      rw [if_neg (by omega)] at hE
      have hat := takeS_at (S := S) (a := at_) (by omega) (by omega)
      have hsuf := Suf.from S at_.toNat (by omega)
      have hnum := rnum_f S (S.extract at_.toNat S.size, 0) hsuf hS 30 (by omega)
      have hnn := numR_nonneg (S.extract at_.toNat S.size, 0)
      have hsuf1 := numR_suf (q := (S.extract at_.toNat S.size, 0)) hsuf
      dsimp only at hnum
      rw [← hat] at hnum
      obtain ⟨q, hq⟩ : ∃ q, q = numR (S.extract at_.toNat S.size, 0) := ⟨_, rfl⟩
      rw [← hq] at hnum hnn hsuf1 hE
      clear hq hat hsuf HM
      obtain ⟨n, s1, e1⟩ := q
      dsimp only at hnum hnn hsuf1 hE
      obtain ⟨A1, hA1⟩ : ∃ a : Int, a = (S.size : Int) - s1.size := ⟨_, rfl⟩
      rw [← hA1] at hnum
      have h1 := hsuf1.1
      have HL := Lib.hid (show bonsairef03_Reader_Left.f S A1 e1 = some ((s1.size : Int), S, A1, e1) by
        unfold bonsairef03_Reader_Left.f; rw [show wrap64 ((S.size : Int) - A1) = s1.size by unfold wrap64; omega])
      have HN := Lib.hid hnum
      have HE := Lib.hid hE
      have HA1 := Lib.hid hA1
      have HSF := Lib.hid hsuf1
      clear hnum hA1 hsuf1 hE
      go_enter Try.func37, Try.ntmps37
      by_cases c3 : e1 = 0
      · subst c3
        have hE := HE.out
        rw [if_neg (by decide)] at hE
        have HE2 := Lib.hid hE
        clear hE HE
        have HE := HE2
        clear HE2
        by_cases c4 : 64 < n
        · have HF := Lib.hid (show m = (⟨#[]⟩, 0, 10) by rw [HE.out, if_pos c4])
          go_wp2_with (go_at_call 36; refine (bonsairef03_Reader_Num.calls 30 _ S at_ 0 _ _ _ _ w _ (IsS68.new w _ S at_ 0 (Below.refl _ _)) (below_alloc (Below.refl _ _) _) HN.out).mono ?_; rintro e w2 ⟨rfl, hq1, hq2, -⟩; have I2 := Lib.hid hq1; have B2 := Lib.hid hq2; have k1 := cellS68_1 I2.out.1; have k2 := cellS68_2 I2.out.1; clear hq1 hq2)
          go_ret3
          exact TakeOf.mk HF.out B2.out
        · have hE := HE.out
          rw [if_neg c4] at hE
          have HE2 := Lib.hid hE
          clear hE HE
          have HE := HE2
          clear HE2
          have hn64 : n ≤ 64 := by omega
          have hn0 : (0 : Int) ≤ n := hnn
          by_cases c5 : (s1.size : Int) < n
          · have HF := Lib.hid (show m = (⟨#[]⟩, 0, 2) by rw [HE.out, if_pos c5])
            go_wp2_with (first | (go_at_call 36; refine (bonsairef03_Reader_Num.calls 30 _ S at_ 0 _ _ _ _ w _ (IsS68.new w _ S at_ 0 (Below.refl _ _)) (below_alloc (Below.refl _ _) _) HN.out).mono ?_; rintro e w2 ⟨rfl, hq1, hq2, -⟩; have I2 := Lib.hid hq1; have B2 := Lib.hid hq2; have k1 := cellS68_1 I2.out.1; have k2 := cellS68_2 I2.out.1; clear hq1 hq2) | (go_at_call 43; refine (bonsairef03_Reader_Left.calls _ S A1 0 _ _ _ _ w _ I2.out B2.out HL.out).mono ?_; rintro e w3 ⟨rfl, hq1, hq2, -⟩; have I3 := Lib.hid hq1; have B3 := Lib.hid hq2; clear k1 k2 hq1 hq2))
            go_ret3
            exact TakeOf.mk HF.out B3.out
          · have hE := HE.out
            rw [if_neg c5] at hE
            have ht := rtake_f S (s1, 0) n HSF.out hS (by omega) 1 (Nat.le_refl _)
            unfold takeR at ht
            rw [if_pos rfl, if_pos ⟨hn0, show n ≤ ((s1.size : Nat) : Int) by omega⟩] at ht
            dsimp only at ht
            rw [← HA1.out] at ht
            obtain ⟨t, htt⟩ : ∃ t, t = s1.extract 0 n.toNat := ⟨_, rfl⟩
            obtain ⟨r, hr⟩ : ∃ r, r = s1.extract n.toNat s1.size := ⟨_, rfl⟩
            rw [← htt, ← hr] at hE
            rw [← htt, ← hr] at ht
            have htz : t.size ≤ 64 := by rw [htt, ByteArray.size_extract]; omega
            have hrz : r.size ≤ S.size := by rw [hr, ByteArray.size_extract]; omega
            obtain ⟨A2, hA2⟩ : ∃ a : Int, a = (S.size : Int) - r.size := ⟨_, rfl⟩
            rw [w64 (by omega) (by omega), ← hA2] at hE
            rw [← hA2] at ht
            have HT := Lib.hid ht
            have HV := Lib.hid (valid_f t 100 (by omega) (by omega))
            clear HE
            have HE := Lib.hid hE
            clear ht hE htt hr hA2 htz hrz
            cases hvd : validS t.data.toList with
            | false =>
              have HF := Lib.hid (show m = (⟨#[]⟩, 0, 4) by rw [HE.out, hvd]; rfl)
              rw [hvd] at HV
              clear hvd
              go_wp2_with (first | (go_at_call 36; refine (bonsairef03_Reader_Num.calls 30 _ S at_ 0 _ _ _ _ w _ (IsS68.new w _ S at_ 0 (Below.refl _ _)) (below_alloc (Below.refl _ _) _) HN.out).mono ?_; rintro e w2 ⟨rfl, hq1, hq2, -⟩; have I2 := Lib.hid hq1; have B2 := Lib.hid hq2; have k1 := cellS68_1 I2.out.1; have k2 := cellS68_2 I2.out.1; clear hq1 hq2) | (go_at_call 43; refine (bonsairef03_Reader_Left.calls _ S A1 0 _ _ _ _ w _ I2.out B2.out HL.out).mono ?_; rintro e w3 ⟨rfl, hq1, hq2, -⟩; have I3 := Lib.hid hq1; have B3 := Lib.hid hq2; clear k1 k2 hq1 hq2) | (go_at_call 70; refine (bonsairef03_Reader_Take.calls 1 _ S A1 0 n _ _ _ _ w _ I3.out B3.out HT.out).mono ?_; rintro e w4 ⟨rfl, hq1, hq2, -⟩; have I4 := Lib.hid hq1; have B4 := Lib.hid hq2; clear hq1 hq2) | (go_at_call 71; refine (bonsairef04_Valid.calls 100 _ _ _ HV.out).mono ?_; rintro e w5 ⟨rfl, hd⟩; have I5 := Lib.hid (show IsS68 w w5 w.heap.size S A2 0 from I4.out.drawn hd); have B5 := Lib.hid (below_drawn0 B4.out hd); have k1 := cellS68_1 I5.out.1; clear hd))
              go_ret3
              exact TakeOf.mk HF.out B5.out
            | true =>
              have HF := Lib.hid (show m = (t, A2, 0) by rw [HE.out, hvd]; rfl)
              rw [hvd] at HV
              clear hvd
              go_wp2_with (first | (go_at_call 36; refine (bonsairef03_Reader_Num.calls 30 _ S at_ 0 _ _ _ _ w _ (IsS68.new w _ S at_ 0 (Below.refl _ _)) (below_alloc (Below.refl _ _) _) HN.out).mono ?_; rintro e w2 ⟨rfl, hq1, hq2, -⟩; have I2 := Lib.hid hq1; have B2 := Lib.hid hq2; have k1 := cellS68_1 I2.out.1; have k2 := cellS68_2 I2.out.1; clear hq1 hq2) | (go_at_call 43; refine (bonsairef03_Reader_Left.calls _ S A1 0 _ _ _ _ w _ I2.out B2.out HL.out).mono ?_; rintro e w3 ⟨rfl, hq1, hq2, -⟩; have I3 := Lib.hid hq1; have B3 := Lib.hid hq2; clear k1 k2 hq1 hq2) | (go_at_call 70; refine (bonsairef03_Reader_Take.calls 1 _ S A1 0 n _ _ _ _ w _ I3.out B3.out HT.out).mono ?_; rintro e w4 ⟨rfl, hq1, hq2, -⟩; have I4 := Lib.hid hq1; have B4 := Lib.hid hq2; clear hq1 hq2) | (go_at_call 71; refine (bonsairef04_Valid.calls 100 _ _ _ HV.out).mono ?_; rintro e w5 ⟨rfl, hd⟩; have I5 := Lib.hid (show IsS68 w w5 w.heap.size S A2 0 from I4.out.drawn hd); have B5 := Lib.hid (below_drawn0 B4.out hd); have k1 := cellS68_1 I5.out.1; clear hd))
              go_region
              all_goals go_wp2
              all_goals go_ret3
              all_goals exact TakeOf.mk HF.out (below_drew1 B5.out)
      · have HF := Lib.hid (show m = (⟨#[]⟩, 0, e1) by rw [HE.out, if_pos c3])
        go_wp2_with (go_at_call 36; refine (bonsairef03_Reader_Num.calls 30 _ S at_ 0 _ _ _ _ w _ (IsS68.new w _ S at_ 0 (Below.refl _ _)) (below_alloc (Below.refl _ _) _) HN.out).mono ?_; rintro e w2 ⟨rfl, hq1, hq2, -⟩; have I2 := Lib.hid hq1; have B2 := Lib.hid hq2; have k1 := cellS68_1 I2.out.1; have k2 := cellS68_2 I2.out.1; clear hq1 hq2)
        go_region
        all_goals go_wp2
        all_goals go_ret3
        all_goals exact TakeOf.mk HF.out (below_drew1 B2.out)
end Go.Proofs.Ytfcndhajcikgiaa.B
namespace Go.Proofs.Ytfcndhajcikgiaa.B
open Go.RowKit Go.Proofs.YtfcndhajcikgiaaW.PrintWords Go.Proofs.YtfcndhajcikgiaaW.PrintLast Go.Proofs.YtfcndhajcikgiaaW.PrintMore
def bonsairef01_top.f  : Option (Int) := some 9223372036854775808
set_option maxHeartbeats 8000000 in
set_option maxRecDepth 100000 in
theorem bonsairef01_top.calls  (r : Int) (w : World) (h : bonsairef01_top.f  = some r) :
    Calls Try.prog 51 #[] w fun e w' => e = .returned (.int .u64 r) ∧ Drawn0 w w' := by
  have H : (some 9223372036854775808) = some r := h
  clear h
  obtain rfl := Option.some.inj H
  go_enter Try.func51, Try.ntmps51
  go_wp2
  go_ret
  exact ⟨by first | rfl | (simp; done) | (simp [*]; done), by repeat (first | exact Drawn0.refl _ | apply Drawn0.step)⟩
end Go.Proofs.Ytfcndhajcikgiaa.B
namespace Go.Proofs.Ytfcndhajcikgiaa.B
open Go.RowKit Go.Proofs.Fl
set_option maxHeartbeats 2000000 in
set_option maxRecDepth 100000 in
/-- A number that is no tiny one. -/
theorem bonsairef01_Float.plain (Z : Int) (e d m u x : Nat) (s : Bool) (w : World) (hZ : 0 ≤ Z) (h1 : Z / 4503599627370496 % 2048 = (e : Int)) (h2 : Z % 4503599627370496 = (d : Int)) 
    (he : ((e : Int) == 2047) = false) (he0 : 0 < e) (hel : e < 2047) (hm : (d : Int) + 4503599627370496 = (m : Int)) (hml : m < 9007199254740992) (hcv : floatOfInt .f64 (m : Int) = rung u) (hr : Rel u ((e : Int) - 1075) x) (hs0 : s = decide (9223372036854775808 ≤ Z)) :
    Calls Try.prog 40 #[.int .u64 Z] w fun e w' => SignedOf (rung x) s w e w' := by
  have HR := Lib.hid hr
  have hs := Lib.hid hs0
  clear hr hs0
  go_enter Try.func40, Try.ntmps40
  go_wp2
  go_loop [5, 7] (fun f i => ∃ (v : Nat) (j : Int), f = .float .f64 (rung v) ∧ i = .int .i64 j ∧ 0 ≤ j ∧ (j = 0 ∨ j ≤ 1075 - (e : Int)) ∧ Rel v (j - (1075 - (e : Int))) x) (fun _ i => (2000 - intOf i).toNat)
  case atStart => exact ⟨u, 0, rfl, rfl, by omega, .inl rfl, by have := HR.out; rw [show (0 : Int) - (1075 - (e : Int)) = (e : Int) - 1075 by omega]; exact this⟩
  case round =>
    clear HR
    obtain ⟨u, j, rfl, rfl, hj0, hj1, hr⟩ := hrel
    have HR := Lib.hid hr
    have hb1 := hr.2.2.1
    have hb2 := hr.2.2.2.1
    clear hr
    by_cases c1 : j < 1075 - (e : Int)
    · obtain ⟨u', hmul, hr'⟩ := HR.out.down (p := 1) (by omega) (by omega) (by omega)
      have hm2 : ∀ t w, (binOp .mul t (.float .f64 (rung u)) (.float .f64 4602678819172646912)).run Try.prog w = .ok (.float .f64 (rung u')) w := fun t w => run_mul (P := Try.prog) hmul t w
      have HR' := Lib.hid hr'
      clear hmul hr'
      go_wp2
      go_round
      case rel => exact ⟨u', j + 1, rfl, rfl, by omega, .inr (by omega), by have := HR'.out; rw [show j + 1 - (1075 - (e : Int)) = j - (1075 - (e : Int)) + (1 : Nat) by omega]; exact this⟩
      case measure => simp [intOf]; omega
    · go_wp2
      go_loop [5, 8] (fun f i => ∃ (v : Nat) (j m : Int), f = .float .f64 (rung v) ∧ i = .int .i64 j ∧ 0 ≤ j ∧ ((0 ≤ 1075 - (e : Int) ∧ m = 0) ∨ (1075 - (e : Int) < 0 ∧ m = -(1075 - (e : Int)) - j ∧ j ≤ -(1075 - (e : Int)))) ∧ Rel v m x) (fun _ i => (2000 - intOf i).toNat)
      case atStart => exact ⟨u, 0, j - (1075 - (e : Int)), rfl, rfl, by omega, by omega, HR.out⟩
      case round =>
        clear HR hb1 hb2 hj0 hj1 c1
        obtain ⟨u, j, m, rfl, rfl, hj0, hj1, hr⟩ := hrel
        have HR := Lib.hid hr
        have hb1 := hr.2.2.1
        have hb2 := hr.2.2.2.1
        clear hr
        by_cases c2 : j < -(1075 - (e : Int))
        · obtain ⟨u', hmul, hr'⟩ := HR.out.up (p := 1) (by omega) (by omega) (by omega)
          have hm2 : ∀ t w, (binOp .mul t (.float .f64 (rung u)) (.float .f64 4611686018427387904)).run Try.prog w = .ok (.float .f64 (rung u')) w := fun t w => run_mul (P := Try.prog) hmul t w
          have HR' := Lib.hid hr'
          clear hmul hr'
          go_wp2
          go_round
          case rel => exact ⟨u', j + 1, m - 1, rfl, rfl, by omega, by omega, HR'.out⟩
          case measure => simp [intOf]; omega
        · have hm0 : m = 0 := by omega
          subst hm0
          obtain rfl := HR.out.zero
          clear HR hb1 hb2 hj1
          by_cases c3 : (9223372036854775808 : Int) ≤ Z
          · have hst := Lib.hid (show s = true by rw [hs.out]; exact decide_eq_true c3)
            go_wp2_with (go_at_call 51; refine (bonsairef01_top.calls 9223372036854775808 _ rfl).mono ?_; rintro e w' ⟨rfl, hb⟩; have HB := Lib.hid hb.below; clear hb)
            go_ret
            rw [hst.out]
            exact SignedOf.neg HB.out
          · have hst := Lib.hid (show s = false by rw [hs.out]; exact decide_eq_false c3)
            go_wp2_with (go_at_call 51; refine (bonsairef01_top.calls 9223372036854775808 _ rfl).mono ?_; rintro e w' ⟨rfl, hb⟩; have HB := Lib.hid hb.below; clear hb)
            go_ret
            rw [hst.out]
            exact SignedOf.pos HB.out
set_option maxHeartbeats 2000000 in
set_option maxRecDepth 100000 in
/-- A tiny one. -/
theorem bonsairef01_Float.tiny (Z : Int) (d u x : Nat) (s : Bool) (w : World) (hZ : 0 ≤ Z) (h1 : Z / 4503599627370496 % 2048 = 0) (h2 : Z % 4503599627370496 = (d : Int)) 
    (hml : d < 9007199254740992) (hcv : floatOfInt .f64 (d : Int) = rung u) (hr : Rel u (-1074) x) (hs0 : s = decide (9223372036854775808 ≤ Z)) :
    Calls Try.prog 40 #[.int .u64 Z] w fun e w' => SignedOf (rung x) s w e w' := by
  have HR := Lib.hid hr
  have hs := Lib.hid hs0
  clear hr hs0
  go_enter Try.func40, Try.ntmps40
  go_wp2
  go_loop [5, 7] (fun f i => ∃ (v : Nat) (j : Int), f = .float .f64 (rung v) ∧ i = .int .i64 j ∧ 0 ≤ j ∧ (j = 0 ∨ j ≤ 1074) ∧ Rel v (j - (1074)) x) (fun _ i => (2000 - intOf i).toNat)
  case atStart => exact ⟨u, 0, rfl, rfl, by omega, .inl rfl, by have := HR.out; rw [show (0 : Int) - (1074) = -1074 by omega]; exact this⟩
  case round =>
    clear HR
    obtain ⟨u, j, rfl, rfl, hj0, hj1, hr⟩ := hrel
    have HR := Lib.hid hr
    have hb1 := hr.2.2.1
    have hb2 := hr.2.2.2.1
    clear hr
    by_cases c1 : j < 1074
    · obtain ⟨u', hmul, hr'⟩ := HR.out.down (p := 1) (by omega) (by omega) (by omega)
      have hm2 : ∀ t w, (binOp .mul t (.float .f64 (rung u)) (.float .f64 4602678819172646912)).run Try.prog w = .ok (.float .f64 (rung u')) w := fun t w => run_mul (P := Try.prog) hmul t w
      have HR' := Lib.hid hr'
      clear hmul hr'
      go_wp2
      go_round
      case rel => exact ⟨u', j + 1, rfl, rfl, by omega, .inr (by omega), by have := HR'.out; rw [show j + 1 - (1074) = j - (1074) + (1 : Nat) by omega]; exact this⟩
      case measure => simp [intOf]; omega
    · go_wp2
      go_loop [5, 8] (fun f i => ∃ (v : Nat) (j m : Int), f = .float .f64 (rung v) ∧ i = .int .i64 j ∧ 0 ≤ j ∧ ((0 ≤ 1074 ∧ m = 0) ∨ (1074 < 0 ∧ m = -(1074) - j ∧ j ≤ -(1074))) ∧ Rel v m x) (fun _ i => (2000 - intOf i).toNat)
      case atStart => exact ⟨u, 0, j - (1074), rfl, rfl, by omega, by omega, HR.out⟩
      case round =>
        clear HR hb1 hb2 hj0 hj1 c1
        obtain ⟨u, j, m, rfl, rfl, hj0, hj1, hr⟩ := hrel
        have HR := Lib.hid hr
        have hb1 := hr.2.2.1
        have hb2 := hr.2.2.2.1
        clear hr
        by_cases c2 : j < -(1074)
        · obtain ⟨u', hmul, hr'⟩ := HR.out.up (p := 1) (by omega) (by omega) (by omega)
          have hm2 : ∀ t w, (binOp .mul t (.float .f64 (rung u)) (.float .f64 4611686018427387904)).run Try.prog w = .ok (.float .f64 (rung u')) w := fun t w => run_mul (P := Try.prog) hmul t w
          have HR' := Lib.hid hr'
          clear hmul hr'
          go_wp2
          go_round
          case rel => exact ⟨u', j + 1, m - 1, rfl, rfl, by omega, by omega, HR'.out⟩
          case measure => simp [intOf]; omega
        · have hm0 : m = 0 := by omega
          subst hm0
          obtain rfl := HR.out.zero
          clear HR hb1 hb2 hj1
          by_cases c3 : (9223372036854775808 : Int) ≤ Z
          · have hst := Lib.hid (show s = true by rw [hs.out]; exact decide_eq_true c3)
            go_wp2_with (go_at_call 51; refine (bonsairef01_top.calls 9223372036854775808 _ rfl).mono ?_; rintro e w' ⟨rfl, hb⟩; have HB := Lib.hid hb.below; clear hb)
            go_ret
            rw [hst.out]
            exact SignedOf.neg HB.out
          · have hst := Lib.hid (show s = false by rw [hs.out]; exact decide_eq_false c3)
            go_wp2_with (go_at_call 51; refine (bonsairef01_top.calls 9223372036854775808 _ rfl).mono ?_; rintro e w' ⟨rfl, hb⟩; have HB := Lib.hid hb.below; clear hb)
            go_ret
            rw [hst.out]
            exact SignedOf.pos HB.out
set_option maxHeartbeats 2000000 in
set_option maxRecDepth 100000 in
/-- One without end. -/
theorem bonsairef01_Float.inf (Z : Int) (s : Bool) (w : World) (hZ : 0 ≤ Z) (h1 : Z / 4503599627370496 % 2048 = 2047) (h2 : Z % 4503599627370496 = 0) (hs0 : s = decide (9223372036854775808 ≤ Z)) :
    Calls Try.prog 40 #[.int .u64 Z] w fun e w' => SignedOf 9218868437227405312 s w e w' := by
  have hs := Lib.hid hs0
  clear hs0
  have hq : ∀ t W, (binOp .quo t (.float .f64 4607182418800017408) (.float .f64 0)).run Try.prog W = .ok (.float .f64 9218868437227405312) W := fun t W => run_div_zero W t false
  go_enter Try.func40, Try.ntmps40
  by_cases c3 : (9223372036854775808 : Int) ≤ Z
  · have hst := Lib.hid (show s = true by rw [hs.out]; exact decide_eq_true c3)
    go_wp2_with (go_at_call 51; refine (bonsairef01_top.calls 9223372036854775808 _ rfl).mono ?_; rintro e w' ⟨rfl, hb⟩; have HB := Lib.hid hb.below; clear hb)
    go_ret
    rw [hst.out]
    exact SignedOf.neg HB.out
  · have hst := Lib.hid (show s = false by rw [hs.out]; exact decide_eq_false c3)
    go_wp2_with (go_at_call 51; refine (bonsairef01_top.calls 9223372036854775808 _ rfl).mono ?_; rintro e w' ⟨rfl, hb⟩; have HB := Lib.hid hb.below; clear hb)
    go_ret
    rw [hst.out]
    exact SignedOf.pos HB.out
set_option maxHeartbeats 2000000 in
set_option maxRecDepth 100000 in
/-- One that is no number. -/
theorem bonsairef01_Float.nan (Z : Int) (d : Nat) (w : World) (hZ : 0 ≤ Z) (h1 : Z / 4503599627370496 % 2048 = 2047) (h2 : Z % 4503599627370496 = (d : Int)) (hd : ((d : Int) != 0) = true) :
    Calls Try.prog 40 #[.int .u64 Z] w fun e w' => ∃ y : Nat, y < 2 ^ 64 ∧ 2047 * 2 ^ 52 < y % 2 ^ 63 ∧ e = .returned (.float .f64 y) ∧ Below w.heap.size w w' := by
  obtain ⟨y, hy1, hy2, hq⟩ := run_nan (P := Try.prog) w 28
  have HY := Lib.hid (And.intro hy1 hy2)
  clear hy1 hy2
  go_enter Try.func40, Try.ntmps40
  go_wp2
  go_ret
  exact ⟨y, HY.out.1, HY.out.2, rfl, (Below.refl _ _).drew⟩
theorem bonsairef01_Float.calls (B : Nat) (hB : B < 2 ^ 64) (w : World) :
    Calls Try.prog 40 #[.int .u64 (B : Int)] w fun e w' => ∃ y : Nat, FloatOf B y ∧ e = .returned (.float .f64 y) ∧ Below w.heap.size w w' := by
  have hZ : (0 : Int) ≤ (B : Int) := Int.natCast_nonneg _
  have h1 : (B : Int) / 4503599627370496 % 2048 = ((B / 2 ^ 52 % 2 ^ 11 : Nat) : Int) := by omega
  have h2 : (B : Int) % 4503599627370496 = ((B % 2 ^ 52 : Nat) : Int) := by omega
  have h3 : decide (2 ^ 63 ≤ B) = decide ((9223372036854775808 : Int) ≤ (B : Int)) := by
    by_cases h : 2 ^ 63 ≤ B
    · rw [decide_eq_true h, decide_eq_true (by omega)]
    · rw [decide_eq_false h, decide_eq_false (by omega)]
  have hw := word_of hB
  have hend : ∀ r, r < 2 ^ 63 → B = Ieee.double.word (decide (2 ^ 63 ≤ B)) r → ∀ e w', SignedOf r (decide (2 ^ 63 ≤ B)) w e w' → ∃ y : Nat, FloatOf B y ∧ e = .returned (.float .f64 y) ∧ Below w.heap.size w w' := by
    intro r hr hb e w' h
    refine ⟨B, ⟨hB, rfl, fun _ => rfl⟩, ?_, h.2⟩
    rw [h.1, signed_word hr, ← hb]
  obtain ⟨r, hr⟩ : ∃ r, r = B % 2 ^ 63 := ⟨_, rfl⟩
  have hrl : r < 2 ^ 63 := by omega
  have he : B / 2 ^ 52 % 2 ^ 11 = r / 2 ^ 52 := by omega
  have hd : B % 2 ^ 52 = r % 2 ^ 52 := by omega
  rw [← hr] at hw
  rw [he] at h1
  rw [hd] at h2
  obtain ⟨e, hee⟩ : ∃ e, e = r / 2 ^ 52 := ⟨_, rfl⟩
  obtain ⟨d, hdd⟩ : ∃ d, d = r % 2 ^ 52 := ⟨_, rfl⟩
  rw [← hee] at h1
  rw [← hdd] at h2
  have hdl : d < 2 ^ 52 := by omega
  obtain ⟨c, hc⟩ : ∃ c, c = 1074 := ⟨_, rfl⟩
  rcases Nat.lt_trichotomy e 2047 with hel | hel | hel
  · rcases Nat.eq_zero_or_pos e with h0 | h0
    · rw [h0] at h1
      have hrd : r = d := by omega
      obtain ⟨hn, hv⟩ := nearest_int (m := d) hc (by omega)
      have hx : Has0 d := by
        rcases Nat.eq_zero_or_pos d with h | h
        · exact .inl h
        · right
          have hl : d.log2 < 52 := (Nat.log2_lt (by omega)).2 hdl
          exact ⟨h, by omega, by rw [show d.log2 - 52 = 0 by omega, Nat.pow_zero, Nat.mod_one]⟩
      have hrd' : rung d = r := by
        rw [hrd]
        rcases Nat.eq_zero_or_pos d with h | h
        · rw [h, rung_zero]
        · exact rung_small ((Nat.log2_lt (by omega)).2 hdl)
      refine (bonsairef01_Float.tiny (B : Int) d (d * 2 ^ c) d _ w hZ h1 h2 (by omega) hn ⟨hv, hx, by omega, by omega, .inr ⟨by omega, by rw [show (-(-1074 : Int)).toNat = c by omega]⟩⟩ h3).mono fun e w' h => ?_
      rw [hrd'] at h
      exact hend r hrl hw e w' h
    · skip
      obtain ⟨hn, hv⟩ := nearest_int (m := 2 ^ 52 + d) hc (by omega)
      have hrp : 2 ^ 52 ≤ r := by omega
      have hvr : val r = (2 ^ 52 + d) * 2 ^ (e - 1) := by unfold val; rw [if_neg (by omega), ← hee, ← hdd]
      have hri : r < 2047 * 2 ^ 52 := by omega
      have hrel : Rel ((2 ^ 52 + d) * 2 ^ c) ((e : Int) - 1075) (val r) := by
        refine ⟨hv, .inr (val_has (by omega) hri), by omega, by omega, ?_⟩
        rw [hvr]
        generalize 2 ^ 52 + d = q
        rcases Nat.lt_or_ge e 1075 with h | h
        · right
          refine ⟨by omega, ?_⟩
          rw [Nat.mul_assoc, ← Nat.pow_add, show e - 1 + (-((e : Int) - 1075)).toNat = c by omega]
        · left
          refine ⟨by omega, ?_⟩
          rw [Nat.mul_assoc, ← Nat.pow_add, show c + ((e : Int) - 1075).toNat = e - 1 by omega]
      refine (bonsairef01_Float.plain (B : Int) e d (2 ^ 52 + d) ((2 ^ 52 + d) * 2 ^ c) (val r) _ w hZ h1 h2 (by rw [beq_eq_false_iff_ne]; omega) h0 hel (by omega) (by omega) hn hrel h3).mono fun e w' h => ?_
      rw [rung_val hri] at h
      exact hend r hrl hw e w' h
  · rw [hel] at h1
    rcases Nat.eq_zero_or_pos d with h0 | h0
    · rw [h0] at h2
      have hri : r = 9218868437227405312 := by omega
      refine (bonsairef01_Float.inf (B : Int) _ w hZ h1 h2 h3).mono fun e w' h => ?_
      rw [← hri] at h
      exact hend r hrl hw e w' h
    · refine (bonsairef01_Float.nan (B : Int) d w hZ h1 h2 (by rw [bne_iff_ne]; omega)).mono ?_
      rintro e w' ⟨y, hy1, hy2, he, hb⟩
      refine ⟨y, ⟨hy1, ?_, fun hle => by omega⟩, he, hb⟩
      unfold canon
      rw [if_neg (by omega), if_neg (by omega)]
  · omega
end Go.Proofs.Ytfcndhajcikgiaa.B
namespace Go.Proofs.Ytfcndhajcikgiaa.B
open Go.RowKit Go.Proofs.YtfcndhajcikgiaaW.PrintWords Go.Proofs.YtfcndhajcikgiaaW.PrintLast Go.Proofs.YtfcndhajcikgiaaW.PrintMore
def bonsairef01_None.f  : Option (Int) := some 9221120237041090560
set_option maxHeartbeats 8000000 in
set_option maxRecDepth 100000 in
theorem bonsairef01_None.calls  (r : Int) (w : World) (h : bonsairef01_None.f  = some r) :
    Calls Try.prog 49 #[] w fun e w' => e = .returned (.int .u64 r) ∧ Drawn0 w w' := by
  have H : (some 9221120237041090560) = some r := h
  clear h
  obtain rfl := Option.some.inj H
  go_enter Try.func49, Try.ntmps49
  go_wp2
  go_ret
  exact ⟨by first | rfl | (simp; done) | (simp [*]; done), by repeat (first | exact Drawn0.refl _ | apply Drawn0.step)⟩
end Go.Proofs.Ytfcndhajcikgiaa.B
namespace Go.Proofs.Ytfcndhajcikgiaa.B
open Go.RowKit Go.Proofs.YtfcndhajcikgiaaW.PrintWords Go.Proofs.YtfcndhajcikgiaaW.PrintLast Go.Proofs.YtfcndhajcikgiaaW.PrintMore
def bonsairef01_Canon.f (a0 : Int) : Option (Bool) := if (Int.tmod (a0 / 4503599627370496) 2048) = 2047 then (if (Int.tmod a0 4503599627370496) = 0 then (some true) else ((bonsairef01_None.f).bind fun t273 => (some (a0 == t273)))) else (some true)
set_option maxHeartbeats 8000000 in
set_option maxRecDepth 100000 in
theorem bonsairef01_Canon.calls (a0 : Int) (r : Bool) (w : World) (h : bonsairef01_Canon.f a0 = some r) :
    Calls Try.prog 39 #[.int .u64 a0] w fun e w' => e = .returned (.bool r) ∧ Drawn0 w w' := by
  have H : (if (Int.tmod (a0 / 4503599627370496) 2048) = 2047 then (if (Int.tmod a0 4503599627370496) = 0 then (some true) else ((bonsairef01_None.f).bind fun t273 => (some (a0 == t273)))) else (some true)) = some r := h
  clear h
  by_cases c2 : (Int.tmod (a0 / 4503599627370496) 2048) = 2047
  · rw [if_pos c2] at H
    have c2b0 : ((Int.tmod (a0 / 4503599627370496) 2048) == 2047) = true := beq_iff_eq.mpr c2
    have c2b1 : ((Int.tmod (a0 / 4503599627370496) 2048) != 2047) = false := bne_eq_false_iff_eq.mpr c2
    clear c2
    by_cases c3 : (Int.tmod a0 4503599627370496) = 0
    · rw [if_pos c3] at H
      have c3b0 : ((Int.tmod a0 4503599627370496) == 0) = true := beq_iff_eq.mpr c3
      have c3b1 : ((Int.tmod a0 4503599627370496) != 0) = false := bne_eq_false_iff_eq.mpr c3
      clear c3
      obtain rfl := Option.some.inj H
      go_enter Try.func39, Try.ntmps39
      go_wp2
      go_ret
      exact ⟨by first | rfl | (simp; done) | (simp [*]; done), by repeat (first | exact Drawn0.refl _ | apply Drawn0.step)⟩
    · rw [if_neg c3] at H
      have c3b0 : ((Int.tmod a0 4503599627370496) == 0) = false := beq_eq_false_iff_ne.mpr c3
      have c3b1 : ((Int.tmod a0 4503599627370496) != 0) = true := bne_iff_ne.mpr c3
      replace H := Option.bind_eq_some_iff.mp H
      obtain ⟨t273, A40, H⟩ := H
      replace H : (some (a0 == t273)) = some r := H
      have A4 := Aside0.mk A40
      clear A40
      obtain rfl := Option.some.inj H
      go_enter Try.func39, Try.ntmps39
      go_wp2_with (first | (go_at_call 49; (with_reducible refine (bonsairef01_None.calls  t273 _ A4.out).mono ?_); rintro e w' ⟨rfl, ⟨nd, rfl⟩⟩))
      go_ret
      exact ⟨by first | rfl | (simp; done) | (simp [*]; done), by repeat (first | exact Drawn0.refl _ | apply Drawn0.step)⟩
  · rw [if_neg c2] at H
    have c2b0 : ((Int.tmod (a0 / 4503599627370496) 2048) == 2047) = false := beq_eq_false_iff_ne.mpr c2
    have c2b1 : ((Int.tmod (a0 / 4503599627370496) 2048) != 2047) = true := bne_iff_ne.mpr c2
    obtain rfl := Option.some.inj H
    go_enter Try.func39, Try.ntmps39
    go_wp2
    go_ret
    exact ⟨by first | rfl | (simp; done) | (simp [*]; done), by repeat (first | exact Drawn0.refl _ | apply Drawn0.step)⟩
end Go.Proofs.Ytfcndhajcikgiaa.B
namespace Go.Proofs.Ytfcndhajcikgiaa.B
open Go.RowKit Go.Proofs.YtfcndhajcikgiaaW.PrintWords Go.Proofs.YtfcndhajcikgiaaW.PrintLast Go.Proofs.YtfcndhajcikgiaaW.PrintMore
def bonsairef13_Time.f (a0_0 : Int) (a0_1 : Int) : Option (Bool) := if a0_0 ≥ 1 then (if a0_0 ≤ 4611686018427387903 then (if a0_1 ≥ 1 then (some (decide (a0_1 ≤ 255))) else (some false)) else (some false)) else (some false)
set_option maxHeartbeats 8000000 in
set_option maxRecDepth 100000 in
theorem bonsairef13_Time.calls (a0_0 : Int) (a0_1 : Int) (r : Bool) (w : World) (h : bonsairef13_Time.f a0_0 a0_1 = some r) :
    Calls Try.prog 72 #[.agg #[.int .i64 a0_0, .int .i64 a0_1]] w fun e w' => e = .returned (.bool r) ∧ Below w.heap.size w w' := by
  have hu27 := Try.underlying27
  have HB := Aside0.mk (Below.refl w.heap.size w)
  have H : (if a0_0 ≥ 1 then (if a0_0 ≤ 4611686018427387903 then (if a0_1 ≥ 1 then (some (decide (a0_1 ≤ 255))) else (some false)) else (some false)) else (some false)) = some r := h
  clear h
  by_cases c2 : a0_0 ≥ 1
  · rw [if_pos c2] at H
    have c2b0 : decide (1 ≤ a0_0) = true := decide_eq_true c2
    clear c2
    by_cases c3 : a0_0 ≤ 4611686018427387903
    · rw [if_pos c3] at H
      have c3b0 : decide (a0_0 ≤ 4611686018427387903) = true := decide_eq_true c3
      clear c3
      by_cases c4 : a0_1 ≥ 1
      · rw [if_pos c4] at H
        have c4b0 : decide (1 ≤ a0_1) = true := decide_eq_true c4
        clear c4
        obtain rfl := Option.some.inj H
        go_enter Try.func72, Try.ntmps72
        go_wp2_with (first | ((with_reducible refine gate_dst (N := 1) rfl ?_); refine box_event ?hg (N := 1) ?hd (cs := #[.int .i64 a0_0, .int .i64 a0_1]) (t := 27) ?hr ?_; (case hd => rfl); (case hg => rfl); (case hr => first | (go_simp; done) | (go_simp; rfl)); intro gb126 hg w5 hbox hb; have n0_ := Aside0.mk (below_step (by repeat (first | (with_reducible first | exact HB.out | apply below_alloc | apply pw_below_drewN | apply below_drew1) | exact HB.out)) hb); have n1_ := Aside0.mk (hbox); have n2_ := Aside0.mk ((by rw [hg]; exact (below_size (by repeat (first | (with_reducible first | exact HB.out | apply below_alloc | apply pw_below_drewN | apply below_drew1) | exact HB.out))) : w.heap.size ≤ gb126)); have n3_ := Aside0.mk ((by rw [hg]; exact (below_size (by repeat (first | (with_reducible first | exact HB.out | apply below_alloc | apply pw_below_drewN | apply below_drew1) | exact HB.out))) : w.heap.size ≤ gb126)); clear HB; have HB := n0_; have BK126 := n1_; have GW126 := n2_; have GE126 := n3_; clear n0_ n1_ n2_ n3_; clear hb hbox hg; have hcz6_0 : w5.cell? ⟨gb126, 0, none⟩ = some (.int .i64 a0_0) := (blk_cell BK126.out 0).trans rfl; have hcz6_1 : w5.cell? ⟨gb126, 1, none⟩ = some (.int .i64 a0_1) := (blk_cell BK126.out 1).trans rfl; have hfz6_0 := blk_frozen BK126.out 0; have hfz6_1 := blk_frozen BK126.out 1))
        go_ret
        exact ⟨by first | rfl | (simp [errW_none, errW_some] <;> rfl) | (simp [*, errW_none, errW_some] <;> rfl), by repeat (first | (with_reducible first | exact HB.out | apply below_alloc | apply pw_below_drewN | apply below_drew1 | refine below_set ?_ GE126.out) | exact HB.out)⟩
      · rw [if_neg c4] at H
        have c4b0 : decide (1 ≤ a0_1) = false := decide_eq_false c4
        clear c4
        obtain rfl := Option.some.inj H
        go_enter Try.func72, Try.ntmps72
        go_wp2_with (first | ((with_reducible refine gate_dst (N := 1) rfl ?_); refine box_event ?hg (N := 1) ?hd (cs := #[.int .i64 a0_0, .int .i64 a0_1]) (t := 27) ?hr ?_; (case hd => rfl); (case hg => rfl); (case hr => first | (go_simp; done) | (go_simp; rfl)); intro gb126 hg w7 hbox hb; have n0_ := Aside0.mk (below_step (by repeat (first | (with_reducible first | exact HB.out | apply below_alloc | apply pw_below_drewN | apply below_drew1) | exact HB.out)) hb); have n1_ := Aside0.mk (hbox); have n2_ := Aside0.mk ((by rw [hg]; exact (below_size (by repeat (first | (with_reducible first | exact HB.out | apply below_alloc | apply pw_below_drewN | apply below_drew1) | exact HB.out))) : w.heap.size ≤ gb126)); have n3_ := Aside0.mk ((by rw [hg]; exact (below_size (by repeat (first | (with_reducible first | exact HB.out | apply below_alloc | apply pw_below_drewN | apply below_drew1) | exact HB.out))) : w.heap.size ≤ gb126)); clear HB; have HB := n0_; have BK126 := n1_; have GW126 := n2_; have GE126 := n3_; clear n0_ n1_ n2_ n3_; clear hb hbox hg; have hcz8_0 : w7.cell? ⟨gb126, 0, none⟩ = some (.int .i64 a0_0) := (blk_cell BK126.out 0).trans rfl; have hcz8_1 : w7.cell? ⟨gb126, 1, none⟩ = some (.int .i64 a0_1) := (blk_cell BK126.out 1).trans rfl; have hfz8_0 := blk_frozen BK126.out 0; have hfz8_1 := blk_frozen BK126.out 1))
        go_ret
        exact ⟨by first | rfl | (simp [errW_none, errW_some] <;> rfl) | (simp [*, errW_none, errW_some] <;> rfl), by repeat (first | (with_reducible first | exact HB.out | apply below_alloc | apply pw_below_drewN | apply below_drew1 | refine below_set ?_ GE126.out) | exact HB.out)⟩
    · rw [if_neg c3] at H
      have c3b0 : decide (a0_0 ≤ 4611686018427387903) = false := decide_eq_false c3
      clear c3
      obtain rfl := Option.some.inj H
      go_enter Try.func72, Try.ntmps72
      go_wp2_with (first | ((with_reducible refine gate_dst (N := 1) rfl ?_); refine box_event ?hg (N := 1) ?hd (cs := #[.int .i64 a0_0, .int .i64 a0_1]) (t := 27) ?hr ?_; (case hd => rfl); (case hg => rfl); (case hr => first | (go_simp; done) | (go_simp; rfl)); intro gb126 hg w9 hbox hb; have n0_ := Aside0.mk (below_step (by repeat (first | (with_reducible first | exact HB.out | apply below_alloc | apply pw_below_drewN | apply below_drew1) | exact HB.out)) hb); have n1_ := Aside0.mk (hbox); have n2_ := Aside0.mk ((by rw [hg]; exact (below_size (by repeat (first | (with_reducible first | exact HB.out | apply below_alloc | apply pw_below_drewN | apply below_drew1) | exact HB.out))) : w.heap.size ≤ gb126)); have n3_ := Aside0.mk ((by rw [hg]; exact (below_size (by repeat (first | (with_reducible first | exact HB.out | apply below_alloc | apply pw_below_drewN | apply below_drew1) | exact HB.out))) : w.heap.size ≤ gb126)); clear HB; have HB := n0_; have BK126 := n1_; have GW126 := n2_; have GE126 := n3_; clear n0_ n1_ n2_ n3_; clear hb hbox hg; have hcz10_0 : w9.cell? ⟨gb126, 0, none⟩ = some (.int .i64 a0_0) := (blk_cell BK126.out 0).trans rfl; have hcz10_1 : w9.cell? ⟨gb126, 1, none⟩ = some (.int .i64 a0_1) := (blk_cell BK126.out 1).trans rfl; have hfz10_0 := blk_frozen BK126.out 0; have hfz10_1 := blk_frozen BK126.out 1))
      go_ret
      exact ⟨by first | rfl | (simp [errW_none, errW_some] <;> rfl) | (simp [*, errW_none, errW_some] <;> rfl), by repeat (first | (with_reducible first | exact HB.out | apply below_alloc | apply pw_below_drewN | apply below_drew1 | refine below_set ?_ GE126.out) | exact HB.out)⟩
  · rw [if_neg c2] at H
    have c2b0 : decide (1 ≤ a0_0) = false := decide_eq_false c2
    clear c2
    obtain rfl := Option.some.inj H
    go_enter Try.func72, Try.ntmps72
    go_wp2_with (first | ((with_reducible refine gate_dst (N := 1) rfl ?_); refine box_event ?hg (N := 1) ?hd (cs := #[.int .i64 a0_0, .int .i64 a0_1]) (t := 27) ?hr ?_; (case hd => rfl); (case hg => rfl); (case hr => first | (go_simp; done) | (go_simp; rfl)); intro gb126 hg w11 hbox hb; have n0_ := Aside0.mk (below_step (by repeat (first | (with_reducible first | exact HB.out | apply below_alloc | apply pw_below_drewN | apply below_drew1) | exact HB.out)) hb); have n1_ := Aside0.mk (hbox); have n2_ := Aside0.mk ((by rw [hg]; exact (below_size (by repeat (first | (with_reducible first | exact HB.out | apply below_alloc | apply pw_below_drewN | apply below_drew1) | exact HB.out))) : w.heap.size ≤ gb126)); have n3_ := Aside0.mk ((by rw [hg]; exact (below_size (by repeat (first | (with_reducible first | exact HB.out | apply below_alloc | apply pw_below_drewN | apply below_drew1) | exact HB.out))) : w.heap.size ≤ gb126)); clear HB; have HB := n0_; have BK126 := n1_; have GW126 := n2_; have GE126 := n3_; clear n0_ n1_ n2_ n3_; clear hb hbox hg; have hcz12_0 : w11.cell? ⟨gb126, 0, none⟩ = some (.int .i64 a0_0) := (blk_cell BK126.out 0).trans rfl; have hcz12_1 : w11.cell? ⟨gb126, 1, none⟩ = some (.int .i64 a0_1) := (blk_cell BK126.out 1).trans rfl; have hfz12_0 := blk_frozen BK126.out 0; have hfz12_1 := blk_frozen BK126.out 1))
    go_ret
    exact ⟨by first | rfl | (simp [errW_none, errW_some] <;> rfl) | (simp [*, errW_none, errW_some] <;> rfl), by repeat (first | (with_reducible first | exact HB.out | apply below_alloc | apply pw_below_drewN | apply below_drew1 | refine below_set ?_ GE126.out) | exact HB.out)⟩
end Go.Proofs.Ytfcndhajcikgiaa.B
namespace Go.Proofs.Ytfcndhajcikgiaa.B
open Go.RowKit Go.Proofs.YtfcndhajcikgiaaW.PrintWords Go.Proofs.YtfcndhajcikgiaaW.PrintLast Go.Proofs.YtfcndhajcikgiaaW.PrintMore
def bonsairef12_One.f (k : Nat) (a0_0 : Int) (a0_1 : Int) (a0_2 : ByteArray) (a0_3 : Nat) : Option (Bool) := if a0_0 ≥ 1 then (if a0_0 ≤ 2147483647 then (if a0_1 ≥ 0 then (if a0_1 ≤ 2147483647 then (if (a0_2.size : Int) ≤ 64 then ((bonsairef04_Valid.f k a0_2).bind fun t179 => (some t179)) else (some false)) else (some false)) else (some false)) else (some false)) else (some false)
theorem bonsairef12_One.mono : ∀ a0 a1 a2 a3 k, LeO (bonsairef12_One.f k a0 a1 a2 a3) (bonsairef12_One.f (k + 1) a0 a1 a2 a3) := by
  intro a0 a1 a2 a3 k
  unfold bonsairef12_One.f
  repeat' first
      | (with_reducible exact bonsairef04_Valid.mono _ _)
      | (with_reducible exact LeO.refl _)
      | (with_reducible exact LeO.none _)
      | (with_reducible refine LeO.ite ?_ ?_)
      | (with_reducible refine LeO.bind ?_ (fun _ => ?_))
      | exact bonsairef04_Valid.mono _ _
      | exact LeO.none _
      | refine LeO.ite ?_ ?_
      | refine LeO.bind ?_ (fun _ => ?_)
set_option maxHeartbeats 8000000 in
set_option maxRecDepth 100000 in
theorem bonsairef12_One.calls (k : Nat) (a0_0 : Int) (a0_1 : Int) (a0_2 : ByteArray) (a0_3 : Nat) (r : Bool) (w : World) (h : bonsairef12_One.f k a0_0 a0_1 a0_2 a0_3 = some r) :
    Calls Try.prog 73 #[.agg #[.int .i64 a0_0, .int .i64 a0_1, .string a0_2, .float .f64 a0_3]] w fun e w' => e = .returned (.bool r) ∧ Below w.heap.size w w' := by
  have hu96 := Try.underlying96
  have HB := Aside0.mk (Below.refl w.heap.size w)
  have H : (if a0_0 ≥ 1 then (if a0_0 ≤ 2147483647 then (if a0_1 ≥ 0 then (if a0_1 ≤ 2147483647 then (if (a0_2.size : Int) ≤ 64 then ((bonsairef04_Valid.f k a0_2).bind fun t179 => (some t179)) else (some false)) else (some false)) else (some false)) else (some false)) else (some false)) = some r := h
  clear h
  by_cases c2 : a0_0 ≥ 1
  · rw [if_pos c2] at H
    have c2b0 : decide (1 ≤ a0_0) = true := decide_eq_true c2
    clear c2
    by_cases c3 : a0_0 ≤ 2147483647
    · rw [if_pos c3] at H
      have c3b0 : decide (a0_0 ≤ 2147483647) = true := decide_eq_true c3
      clear c3
      by_cases c4 : a0_1 ≥ 0
      · rw [if_pos c4] at H
        have c4b0 : decide (0 ≤ a0_1) = true := decide_eq_true c4
        clear c4
        by_cases c5 : a0_1 ≤ 2147483647
        · rw [if_pos c5] at H
          have c5b0 : decide (a0_1 ≤ 2147483647) = true := decide_eq_true c5
          clear c5
          by_cases c6 : (a0_2.size : Int) ≤ 64
          · rw [if_pos c6] at H
            have c6b0 : decide ((a0_2.size : Int) ≤ 64) = true := decide_eq_true c6
            have c6b1 : decide (a0_2.size ≤ 64) = true := decide_eq_true (by omega)
            clear c6
            replace H := Option.bind_eq_some_iff.mp H
            obtain ⟨t179, A70, H⟩ := H
            replace H : (some t179) = some r := H
            have A7 := Aside0.mk A70
            clear A70
            obtain rfl := Option.some.inj H
            go_enter Try.func73, Try.ntmps73
            go_wp2_with (first | ((with_reducible refine gate_dst (N := 1) rfl ?_); (try (refine gate_guard (by rfl) ?_; dsimp only)); refine box_event ?hg (N := 1) ?hd (cs := #[.int .i64 a0_0, .int .i64 a0_1, .string a0_2, .float .f64 a0_3]) (t := 96) ?hr ?_; (case hd => rfl); (case hg => rfl); (case hr => first | (go_simp; done) | (go_simp; rfl)); intro gb178 hg w8 hbox hb; have n0_ := Aside0.mk (below_step (by repeat (first | (with_reducible first | exact HB.out | apply below_alloc | apply pw_below_drewN | apply below_drew1) | exact HB.out)) hb); have n1_ := Aside0.mk (hbox); have n2_ := Aside0.mk ((by rw [hg]; exact (below_size (by repeat (first | (with_reducible first | exact HB.out | apply below_alloc | apply pw_below_drewN | apply below_drew1) | exact HB.out))) : w.heap.size ≤ gb178)); have n3_ := Aside0.mk ((by rw [hg]; exact (below_size (by repeat (first | (with_reducible first | exact HB.out | apply below_alloc | apply pw_below_drewN | apply below_drew1) | exact HB.out))) : w.heap.size ≤ gb178)); clear HB; have HB := n0_; have BK178 := n1_; have GW178 := n2_; have GE178 := n3_; clear n0_ n1_ n2_ n3_; clear hb hbox hg; have hcz9_0 : w8.cell? ⟨gb178, 0, none⟩ = some (.int .i64 a0_0) := (blk_cell BK178.out 0).trans rfl; have hcz9_1 : w8.cell? ⟨gb178, 1, none⟩ = some (.int .i64 a0_1) := (blk_cell BK178.out 1).trans rfl; have hcz9_2 : w8.cell? ⟨gb178, 2, none⟩ = some (.string a0_2) := (blk_cell BK178.out 2).trans rfl; have hcz9_3 : w8.cell? ⟨gb178, 3, none⟩ = some (.float .f64 a0_3) := (blk_cell BK178.out 3).trans rfl; have hfz9_0 := blk_frozen BK178.out 0; have hfz9_1 := blk_frozen BK178.out 1; have hfz9_2 := blk_frozen BK178.out 2; have hfz9_3 := blk_frozen BK178.out 3) | (go_at_call 71; (with_reducible refine (bonsairef04_Valid.calls k a0_2 t179 _ A7.out).mono ?_); rintro e w' ⟨rfl, ⟨nd, rfl⟩⟩))
            go_ret
            exact ⟨by first | rfl | (simp [errW_none, errW_some] <;> rfl) | (simp [*, errW_none, errW_some] <;> rfl), by repeat (first | (with_reducible first | exact HB.out | apply below_alloc | apply pw_below_drewN | apply below_drew1 | refine below_set ?_ GE178.out) | exact HB.out)⟩
          · rw [if_neg c6] at H
            have c6b0 : decide ((a0_2.size : Int) ≤ 64) = false := decide_eq_false c6
            have c6b1 : decide (a0_2.size ≤ 64) = false := decide_eq_false (by omega)
            clear c6
            obtain rfl := Option.some.inj H
            go_enter Try.func73, Try.ntmps73
            go_wp2_with (first | ((with_reducible refine gate_dst (N := 1) rfl ?_); (try (refine gate_guard (by rfl) ?_; dsimp only)); refine box_event ?hg (N := 1) ?hd (cs := #[.int .i64 a0_0, .int .i64 a0_1, .string a0_2, .float .f64 a0_3]) (t := 96) ?hr ?_; (case hd => rfl); (case hg => rfl); (case hr => first | (go_simp; done) | (go_simp; rfl)); intro gb178 hg w10 hbox hb; have n0_ := Aside0.mk (below_step (by repeat (first | (with_reducible first | exact HB.out | apply below_alloc | apply pw_below_drewN | apply below_drew1) | exact HB.out)) hb); have n1_ := Aside0.mk (hbox); have n2_ := Aside0.mk ((by rw [hg]; exact (below_size (by repeat (first | (with_reducible first | exact HB.out | apply below_alloc | apply pw_below_drewN | apply below_drew1) | exact HB.out))) : w.heap.size ≤ gb178)); have n3_ := Aside0.mk ((by rw [hg]; exact (below_size (by repeat (first | (with_reducible first | exact HB.out | apply below_alloc | apply pw_below_drewN | apply below_drew1) | exact HB.out))) : w.heap.size ≤ gb178)); clear HB; have HB := n0_; have BK178 := n1_; have GW178 := n2_; have GE178 := n3_; clear n0_ n1_ n2_ n3_; clear hb hbox hg; have hcz11_0 : w10.cell? ⟨gb178, 0, none⟩ = some (.int .i64 a0_0) := (blk_cell BK178.out 0).trans rfl; have hcz11_1 : w10.cell? ⟨gb178, 1, none⟩ = some (.int .i64 a0_1) := (blk_cell BK178.out 1).trans rfl; have hcz11_2 : w10.cell? ⟨gb178, 2, none⟩ = some (.string a0_2) := (blk_cell BK178.out 2).trans rfl; have hcz11_3 : w10.cell? ⟨gb178, 3, none⟩ = some (.float .f64 a0_3) := (blk_cell BK178.out 3).trans rfl; have hfz11_0 := blk_frozen BK178.out 0; have hfz11_1 := blk_frozen BK178.out 1; have hfz11_2 := blk_frozen BK178.out 2; have hfz11_3 := blk_frozen BK178.out 3))
            go_ret
            exact ⟨by first | rfl | (simp [errW_none, errW_some] <;> rfl) | (simp [*, errW_none, errW_some] <;> rfl), by repeat (first | (with_reducible first | exact HB.out | apply below_alloc | apply pw_below_drewN | apply below_drew1 | refine below_set ?_ GE178.out) | exact HB.out)⟩
        · rw [if_neg c5] at H
          have c5b0 : decide (a0_1 ≤ 2147483647) = false := decide_eq_false c5
          clear c5
          obtain rfl := Option.some.inj H
          go_enter Try.func73, Try.ntmps73
          go_wp2_with (first | ((with_reducible refine gate_dst (N := 1) rfl ?_); (try (refine gate_guard (by rfl) ?_; dsimp only)); refine box_event ?hg (N := 1) ?hd (cs := #[.int .i64 a0_0, .int .i64 a0_1, .string a0_2, .float .f64 a0_3]) (t := 96) ?hr ?_; (case hd => rfl); (case hg => rfl); (case hr => first | (go_simp; done) | (go_simp; rfl)); intro gb178 hg w12 hbox hb; have n0_ := Aside0.mk (below_step (by repeat (first | (with_reducible first | exact HB.out | apply below_alloc | apply pw_below_drewN | apply below_drew1) | exact HB.out)) hb); have n1_ := Aside0.mk (hbox); have n2_ := Aside0.mk ((by rw [hg]; exact (below_size (by repeat (first | (with_reducible first | exact HB.out | apply below_alloc | apply pw_below_drewN | apply below_drew1) | exact HB.out))) : w.heap.size ≤ gb178)); have n3_ := Aside0.mk ((by rw [hg]; exact (below_size (by repeat (first | (with_reducible first | exact HB.out | apply below_alloc | apply pw_below_drewN | apply below_drew1) | exact HB.out))) : w.heap.size ≤ gb178)); clear HB; have HB := n0_; have BK178 := n1_; have GW178 := n2_; have GE178 := n3_; clear n0_ n1_ n2_ n3_; clear hb hbox hg; have hcz13_0 : w12.cell? ⟨gb178, 0, none⟩ = some (.int .i64 a0_0) := (blk_cell BK178.out 0).trans rfl; have hcz13_1 : w12.cell? ⟨gb178, 1, none⟩ = some (.int .i64 a0_1) := (blk_cell BK178.out 1).trans rfl; have hcz13_2 : w12.cell? ⟨gb178, 2, none⟩ = some (.string a0_2) := (blk_cell BK178.out 2).trans rfl; have hcz13_3 : w12.cell? ⟨gb178, 3, none⟩ = some (.float .f64 a0_3) := (blk_cell BK178.out 3).trans rfl; have hfz13_0 := blk_frozen BK178.out 0; have hfz13_1 := blk_frozen BK178.out 1; have hfz13_2 := blk_frozen BK178.out 2; have hfz13_3 := blk_frozen BK178.out 3))
          go_ret
          exact ⟨by first | rfl | (simp [errW_none, errW_some] <;> rfl) | (simp [*, errW_none, errW_some] <;> rfl), by repeat (first | (with_reducible first | exact HB.out | apply below_alloc | apply pw_below_drewN | apply below_drew1 | refine below_set ?_ GE178.out) | exact HB.out)⟩
      · rw [if_neg c4] at H
        have c4b0 : decide (0 ≤ a0_1) = false := decide_eq_false c4
        clear c4
        obtain rfl := Option.some.inj H
        go_enter Try.func73, Try.ntmps73
        go_wp2_with (first | ((with_reducible refine gate_dst (N := 1) rfl ?_); (try (refine gate_guard (by rfl) ?_; dsimp only)); refine box_event ?hg (N := 1) ?hd (cs := #[.int .i64 a0_0, .int .i64 a0_1, .string a0_2, .float .f64 a0_3]) (t := 96) ?hr ?_; (case hd => rfl); (case hg => rfl); (case hr => first | (go_simp; done) | (go_simp; rfl)); intro gb178 hg w14 hbox hb; have n0_ := Aside0.mk (below_step (by repeat (first | (with_reducible first | exact HB.out | apply below_alloc | apply pw_below_drewN | apply below_drew1) | exact HB.out)) hb); have n1_ := Aside0.mk (hbox); have n2_ := Aside0.mk ((by rw [hg]; exact (below_size (by repeat (first | (with_reducible first | exact HB.out | apply below_alloc | apply pw_below_drewN | apply below_drew1) | exact HB.out))) : w.heap.size ≤ gb178)); have n3_ := Aside0.mk ((by rw [hg]; exact (below_size (by repeat (first | (with_reducible first | exact HB.out | apply below_alloc | apply pw_below_drewN | apply below_drew1) | exact HB.out))) : w.heap.size ≤ gb178)); clear HB; have HB := n0_; have BK178 := n1_; have GW178 := n2_; have GE178 := n3_; clear n0_ n1_ n2_ n3_; clear hb hbox hg; have hcz15_0 : w14.cell? ⟨gb178, 0, none⟩ = some (.int .i64 a0_0) := (blk_cell BK178.out 0).trans rfl; have hcz15_1 : w14.cell? ⟨gb178, 1, none⟩ = some (.int .i64 a0_1) := (blk_cell BK178.out 1).trans rfl; have hcz15_2 : w14.cell? ⟨gb178, 2, none⟩ = some (.string a0_2) := (blk_cell BK178.out 2).trans rfl; have hcz15_3 : w14.cell? ⟨gb178, 3, none⟩ = some (.float .f64 a0_3) := (blk_cell BK178.out 3).trans rfl; have hfz15_0 := blk_frozen BK178.out 0; have hfz15_1 := blk_frozen BK178.out 1; have hfz15_2 := blk_frozen BK178.out 2; have hfz15_3 := blk_frozen BK178.out 3))
        go_ret
        exact ⟨by first | rfl | (simp [errW_none, errW_some] <;> rfl) | (simp [*, errW_none, errW_some] <;> rfl), by repeat (first | (with_reducible first | exact HB.out | apply below_alloc | apply pw_below_drewN | apply below_drew1 | refine below_set ?_ GE178.out) | exact HB.out)⟩
    · rw [if_neg c3] at H
      have c3b0 : decide (a0_0 ≤ 2147483647) = false := decide_eq_false c3
      clear c3
      obtain rfl := Option.some.inj H
      go_enter Try.func73, Try.ntmps73
      go_wp2_with (first | ((with_reducible refine gate_dst (N := 1) rfl ?_); (try (refine gate_guard (by rfl) ?_; dsimp only)); refine box_event ?hg (N := 1) ?hd (cs := #[.int .i64 a0_0, .int .i64 a0_1, .string a0_2, .float .f64 a0_3]) (t := 96) ?hr ?_; (case hd => rfl); (case hg => rfl); (case hr => first | (go_simp; done) | (go_simp; rfl)); intro gb178 hg w16 hbox hb; have n0_ := Aside0.mk (below_step (by repeat (first | (with_reducible first | exact HB.out | apply below_alloc | apply pw_below_drewN | apply below_drew1) | exact HB.out)) hb); have n1_ := Aside0.mk (hbox); have n2_ := Aside0.mk ((by rw [hg]; exact (below_size (by repeat (first | (with_reducible first | exact HB.out | apply below_alloc | apply pw_below_drewN | apply below_drew1) | exact HB.out))) : w.heap.size ≤ gb178)); have n3_ := Aside0.mk ((by rw [hg]; exact (below_size (by repeat (first | (with_reducible first | exact HB.out | apply below_alloc | apply pw_below_drewN | apply below_drew1) | exact HB.out))) : w.heap.size ≤ gb178)); clear HB; have HB := n0_; have BK178 := n1_; have GW178 := n2_; have GE178 := n3_; clear n0_ n1_ n2_ n3_; clear hb hbox hg; have hcz17_0 : w16.cell? ⟨gb178, 0, none⟩ = some (.int .i64 a0_0) := (blk_cell BK178.out 0).trans rfl; have hcz17_1 : w16.cell? ⟨gb178, 1, none⟩ = some (.int .i64 a0_1) := (blk_cell BK178.out 1).trans rfl; have hcz17_2 : w16.cell? ⟨gb178, 2, none⟩ = some (.string a0_2) := (blk_cell BK178.out 2).trans rfl; have hcz17_3 : w16.cell? ⟨gb178, 3, none⟩ = some (.float .f64 a0_3) := (blk_cell BK178.out 3).trans rfl; have hfz17_0 := blk_frozen BK178.out 0; have hfz17_1 := blk_frozen BK178.out 1; have hfz17_2 := blk_frozen BK178.out 2; have hfz17_3 := blk_frozen BK178.out 3))
      go_ret
      exact ⟨by first | rfl | (simp [errW_none, errW_some] <;> rfl) | (simp [*, errW_none, errW_some] <;> rfl), by repeat (first | (with_reducible first | exact HB.out | apply below_alloc | apply pw_below_drewN | apply below_drew1 | refine below_set ?_ GE178.out) | exact HB.out)⟩
  · rw [if_neg c2] at H
    have c2b0 : decide (1 ≤ a0_0) = false := decide_eq_false c2
    clear c2
    obtain rfl := Option.some.inj H
    go_enter Try.func73, Try.ntmps73
    go_wp2_with (first | ((with_reducible refine gate_dst (N := 1) rfl ?_); (try (refine gate_guard (by rfl) ?_; dsimp only)); refine box_event ?hg (N := 1) ?hd (cs := #[.int .i64 a0_0, .int .i64 a0_1, .string a0_2, .float .f64 a0_3]) (t := 96) ?hr ?_; (case hd => rfl); (case hg => rfl); (case hr => first | (go_simp; done) | (go_simp; rfl)); intro gb178 hg w18 hbox hb; have n0_ := Aside0.mk (below_step (by repeat (first | (with_reducible first | exact HB.out | apply below_alloc | apply pw_below_drewN | apply below_drew1) | exact HB.out)) hb); have n1_ := Aside0.mk (hbox); have n2_ := Aside0.mk ((by rw [hg]; exact (below_size (by repeat (first | (with_reducible first | exact HB.out | apply below_alloc | apply pw_below_drewN | apply below_drew1) | exact HB.out))) : w.heap.size ≤ gb178)); have n3_ := Aside0.mk ((by rw [hg]; exact (below_size (by repeat (first | (with_reducible first | exact HB.out | apply below_alloc | apply pw_below_drewN | apply below_drew1) | exact HB.out))) : w.heap.size ≤ gb178)); clear HB; have HB := n0_; have BK178 := n1_; have GW178 := n2_; have GE178 := n3_; clear n0_ n1_ n2_ n3_; clear hb hbox hg; have hcz19_0 : w18.cell? ⟨gb178, 0, none⟩ = some (.int .i64 a0_0) := (blk_cell BK178.out 0).trans rfl; have hcz19_1 : w18.cell? ⟨gb178, 1, none⟩ = some (.int .i64 a0_1) := (blk_cell BK178.out 1).trans rfl; have hcz19_2 : w18.cell? ⟨gb178, 2, none⟩ = some (.string a0_2) := (blk_cell BK178.out 2).trans rfl; have hcz19_3 : w18.cell? ⟨gb178, 3, none⟩ = some (.float .f64 a0_3) := (blk_cell BK178.out 3).trans rfl; have hfz19_0 := blk_frozen BK178.out 0; have hfz19_1 := blk_frozen BK178.out 1; have hfz19_2 := blk_frozen BK178.out 2; have hfz19_3 := blk_frozen BK178.out 3))
    go_ret
    exact ⟨by first | rfl | (simp [errW_none, errW_some] <;> rfl) | (simp [*, errW_none, errW_some] <;> rfl), by repeat (first | (with_reducible first | exact HB.out | apply below_alloc | apply pw_below_drewN | apply below_drew1 | refine below_set ?_ GE178.out) | exact HB.out)⟩
end Go.Proofs.Ytfcndhajcikgiaa.B
namespace Go.Proofs.Ytfcndhajcikgiaa.B
open Go.RowKit Go.Proofs.YtfcndhajcikgiaaW.PrintWords Go.Proofs.YtfcndhajcikgiaaW.PrintLast Go.Proofs.YtfcndhajcikgiaaW.PrintMore
def bonsairef13_One.f (k : Nat) (a0_0 : Int) (a0_1 : Int) (a0_2 : Int) (a0_3 : Int) (a0_4 : ByteArray) (a0_5 : Nat) : Option (Bool) := (bonsairef13_Time.f a0_0 a0_1).bind fun t183 => (if t183 = true then ((bonsairef13_Row.f a0_0 a0_1 a0_2 a0_3 a0_4 a0_5).bind fun bt184 => ((bonsairef12_One.f k bt184.1 bt184.2.1 bt184.2.2.1 bt184.2.2.2).bind fun t188 => (some t188))) else (some false))
theorem bonsairef13_One.mono : ∀ a0 a1 a2 a3 a4 a5 k, LeO (bonsairef13_One.f k a0 a1 a2 a3 a4 a5) (bonsairef13_One.f (k + 1) a0 a1 a2 a3 a4 a5) := by
  intro a0 a1 a2 a3 a4 a5 k
  unfold bonsairef13_One.f
  repeat' first
      | (with_reducible exact bonsairef12_One.mono _ _ _ _ _)
      | (with_reducible exact LeO.refl _)
      | (with_reducible exact LeO.none _)
      | (with_reducible refine LeO.ite ?_ ?_)
      | (with_reducible refine LeO.bind ?_ (fun _ => ?_))
      | exact bonsairef12_One.mono _ _ _ _ _
      | exact LeO.none _
      | refine LeO.ite ?_ ?_
      | refine LeO.bind ?_ (fun _ => ?_)
set_option maxHeartbeats 8000000 in
set_option maxRecDepth 100000 in
theorem bonsairef13_One.calls (k : Nat) (a0_0 : Int) (a0_1 : Int) (a0_2 : Int) (a0_3 : Int) (a0_4 : ByteArray) (a0_5 : Nat) (r : Bool) (w : World) (h : bonsairef13_One.f k a0_0 a0_1 a0_2 a0_3 a0_4 a0_5 = some r) :
    Calls Try.prog 41 #[.agg #[.int .i64 a0_0, .int .i64 a0_1, .int .i64 a0_2, .int .i64 a0_3, .string a0_4, .float .f64 a0_5]] w fun e w' => e = .returned (.bool r) ∧ Below w.heap.size w w' := by
  have hu30 := Try.underlying30
  have hu27 := Try.underlying27
  have HB := Aside0.mk (Below.refl w.heap.size w)
  have H : ((bonsairef13_Time.f a0_0 a0_1).bind fun t183 => (if t183 = true then ((bonsairef13_Row.f a0_0 a0_1 a0_2 a0_3 a0_4 a0_5).bind fun bt184 => ((bonsairef12_One.f k bt184.1 bt184.2.1 bt184.2.2.1 bt184.2.2.2).bind fun t188 => (some t188))) else (some false))) = some r := h
  clear h
  replace H := Option.bind_eq_some_iff.mp H
  obtain ⟨t183, A20, H⟩ := H
  replace H : (if t183 = true then ((bonsairef13_Row.f a0_0 a0_1 a0_2 a0_3 a0_4 a0_5).bind fun bt184 => ((bonsairef12_One.f k bt184.1 bt184.2.1 bt184.2.2.1 bt184.2.2.2).bind fun t188 => (some t188))) else (some false)) = some r := H
  have A2 := Aside0.mk A20
  clear A20
  by_cases c3 : t183 = true
  · subst c3
    have H1 : ((bonsairef13_Row.f a0_0 a0_1 a0_2 a0_3 a0_4 a0_5).bind fun bt184 => ((bonsairef12_One.f k bt184.1 bt184.2.1 bt184.2.2.1 bt184.2.2.2).bind fun t188 => (some t188))) = some r := by rw [if_pos rfl] at H; exact H
    clear H
    have H := H1
    clear H1
    replace H := Option.bind_eq_some_iff.mp H
    obtain ⟨⟨t184, t185, t186, t187⟩, A40, H⟩ := H
    replace H : ((bonsairef12_One.f k t184 t185 t186 t187).bind fun t188 => (some t188)) = some r := H
    have A4 := Aside0.mk A40
    clear A40
    replace H := Option.bind_eq_some_iff.mp H
    obtain ⟨t188, A50, H⟩ := H
    replace H : (some t188) = some r := H
    have A5 := Aside0.mk A50
    clear A50
    obtain rfl := Option.some.inj H
    go_enter Try.func41, Try.ntmps41
    go_wp2_with (first | ((with_reducible refine gate_dst (N := 1) rfl ?_); refine box_event ?hg (N := 1) ?hd (cs := #[.int .i64 a0_0, .int .i64 a0_1, .int .i64 a0_2, .int .i64 a0_3, .string a0_4, .float .f64 a0_5]) (t := 30) ?hr ?_; (case hd => rfl); (case hg => rfl); (case hr => first | (go_simp; done) | (go_simp; rfl)); intro gb182 hg w6 hbox hb; have n0_ := Aside0.mk (below_step (by repeat (first | (with_reducible first | exact HB.out | apply below_alloc | apply pw_below_drewN | apply below_drew1) | exact HB.out)) hb); have n1_ := Aside0.mk (hbox); have n2_ := Aside0.mk ((by rw [hg]; exact (below_size (by repeat (first | (with_reducible first | exact HB.out | apply below_alloc | apply pw_below_drewN | apply below_drew1) | exact HB.out))) : w.heap.size ≤ gb182)); have n3_ := Aside0.mk ((by rw [hg]; exact (below_size (by repeat (first | (with_reducible first | exact HB.out | apply below_alloc | apply pw_below_drewN | apply below_drew1) | exact HB.out))) : w.heap.size ≤ gb182)); clear HB; have HB := n0_; have BK182 := n1_; have GW182 := n2_; have GE182 := n3_; clear n0_ n1_ n2_ n3_; clear hb hbox hg; have hcz7_0 : w6.cell? ⟨gb182, 0, none⟩ = some (.int .i64 a0_0) := (blk_cell BK182.out 0).trans rfl; have hcz7_1 : w6.cell? ⟨gb182, 1, none⟩ = some (.int .i64 a0_1) := (blk_cell BK182.out 1).trans rfl; have hcz7_2 : w6.cell? ⟨gb182, 2, none⟩ = some (.int .i64 a0_2) := (blk_cell BK182.out 2).trans rfl; have hcz7_3 : w6.cell? ⟨gb182, 3, none⟩ = some (.int .i64 a0_3) := (blk_cell BK182.out 3).trans rfl; have hcz7_4 : w6.cell? ⟨gb182, 4, none⟩ = some (.string a0_4) := (blk_cell BK182.out 4).trans rfl; have hcz7_5 : w6.cell? ⟨gb182, 5, none⟩ = some (.float .f64 a0_5) := (blk_cell BK182.out 5).trans rfl; have hfz7_0 := blk_frozen BK182.out 0; have hfz7_1 := blk_frozen BK182.out 1; have hfz7_2 := blk_frozen BK182.out 2; have hfz7_3 := blk_frozen BK182.out 3; have hfz7_4 := blk_frozen BK182.out 4; have hfz7_5 := blk_frozen BK182.out 5) | ((with_reducible refine gate_callee (f := 72) rfl ?_); refine goesL_ (some 5) rfl rfl Try.func72 (by kernel_rfl) rfl #[.agg #[.int .i64 a0_0, .int .i64 a0_1]] rfl (by (try simp only [List.map_toArray, List.map_cons, List.map_nil]); first | done | rfl | (simp only [List.length_drop, List.length_take]; rfl)) ?_; (with_reducible refine (bonsairef13_Time.calls a0_0 a0_1 true _ A2.out).mono ?_); rintro e w8 ⟨rfl, hb⟩; refine ⟨_, rfl, ?_⟩; have n0_ := Aside0.mk (blk_below (g := gb182) (o := .cells #[.int .i64 a0_0, .int .i64 a0_1, .int .i64 a0_2, .int .i64 a0_3, .string a0_4, .float .f64 a0_5] 30 (0, 0)) (by (with_reducible repeat (first | refine blk_drewN ?_ _ | refine blk_drew ?_ | refine blk_alloc ?_ _)); exact BK182.out) hb); have n1_ := Aside0.mk (below_step (by repeat (first | (with_reducible first | exact HB.out | apply below_alloc | apply pw_below_drewN | apply below_drew1 | refine below_set ?_ GE182.out) | exact HB.out)) hb); clear BK182; clear HB; have BK182 := n0_; have HB := n1_; clear n0_ n1_; (try clear hb); (try clear hb2); (try clear hk); (try clear hi); have hcz9_0 : w8.cell? ⟨gb182, 0, none⟩ = some (.int .i64 a0_0) := (blk_cell BK182.out 0).trans rfl; have hcz9_1 : w8.cell? ⟨gb182, 1, none⟩ = some (.int .i64 a0_1) := (blk_cell BK182.out 1).trans rfl; have hcz9_2 : w8.cell? ⟨gb182, 2, none⟩ = some (.int .i64 a0_2) := (blk_cell BK182.out 2).trans rfl; have hcz9_3 : w8.cell? ⟨gb182, 3, none⟩ = some (.int .i64 a0_3) := (blk_cell BK182.out 3).trans rfl; have hcz9_4 : w8.cell? ⟨gb182, 4, none⟩ = some (.string a0_4) := (blk_cell BK182.out 4).trans rfl; have hcz9_5 : w8.cell? ⟨gb182, 5, none⟩ = some (.float .f64 a0_5) := (blk_cell BK182.out 5).trans rfl; have hfz9_0 := blk_frozen BK182.out 0; have hfz9_1 := blk_frozen BK182.out 1; have hfz9_2 := blk_frozen BK182.out 2; have hfz9_3 := blk_frozen BK182.out 3; have hfz9_4 := blk_frozen BK182.out 4; have hfz9_5 := blk_frozen BK182.out 5) | (go_at_call 74; (with_reducible refine (bonsairef13_Row.calls a0_0 a0_1 a0_2 a0_3 a0_4 a0_5 t184 t185 t186 t187 _ A4.out).mono ?_); rintro e w10 ⟨rfl, hb⟩; have n0_ := Aside0.mk (blk_below (g := gb182) (o := .cells #[.int .i64 a0_0, .int .i64 a0_1, .int .i64 a0_2, .int .i64 a0_3, .string a0_4, .float .f64 a0_5] 30 (0, 0)) (by (with_reducible repeat (first | refine blk_drewN ?_ _ | refine blk_drew ?_ | refine blk_alloc ?_ _)); exact BK182.out) hb); have n1_ := Aside0.mk (below_step (by repeat (first | (with_reducible first | exact HB.out | apply below_alloc | apply pw_below_drewN | apply below_drew1 | refine below_set ?_ GE182.out) | exact HB.out)) hb); clear BK182; clear HB; have BK182 := n0_; have HB := n1_; clear n0_ n1_; (try clear hb); (try clear hb2); (try clear hk); (try clear hi)) | (go_at_call 73; (with_reducible refine (bonsairef12_One.calls k t184 t185 t186 t187 t188 _ A5.out).mono ?_); rintro e w11 ⟨rfl, hb⟩; have n0_ := Aside0.mk (blk_below (g := gb182) (o := .cells #[.int .i64 a0_0, .int .i64 a0_1, .int .i64 a0_2, .int .i64 a0_3, .string a0_4, .float .f64 a0_5] 30 (0, 0)) (by (with_reducible repeat (first | refine blk_drewN ?_ _ | refine blk_drew ?_ | refine blk_alloc ?_ _)); exact BK182.out) hb); have n1_ := Aside0.mk (below_step (by repeat (first | (with_reducible first | exact HB.out | apply below_alloc | apply pw_below_drewN | apply below_drew1 | refine below_set ?_ GE182.out) | exact HB.out)) hb); clear BK182; clear HB; have BK182 := n0_; have HB := n1_; clear n0_ n1_; (try clear hb); (try clear hb2); (try clear hk); (try clear hi)))
    go_ret
    exact ⟨by first | rfl | (simp [errW_none, errW_some] <;> rfl) | (simp [*, errW_none, errW_some] <;> rfl), by repeat (first | (with_reducible first | exact HB.out | apply below_alloc | apply pw_below_drewN | apply below_drew1 | refine below_set ?_ GE182.out) | exact HB.out)⟩
  · replace c3 := Bool.eq_false_iff.mpr c3
    subst c3
    have H1 : (some false) = some r := by rw [if_neg (show ¬ (false = true) by decide)] at H; exact H
    clear H
    have H := H1
    clear H1
    obtain rfl := Option.some.inj H
    go_enter Try.func41, Try.ntmps41
    go_wp2_with (first | ((with_reducible refine gate_dst (N := 1) rfl ?_); refine box_event ?hg (N := 1) ?hd (cs := #[.int .i64 a0_0, .int .i64 a0_1, .int .i64 a0_2, .int .i64 a0_3, .string a0_4, .float .f64 a0_5]) (t := 30) ?hr ?_; (case hd => rfl); (case hg => rfl); (case hr => first | (go_simp; done) | (go_simp; rfl)); intro gb182 hg w12 hbox hb; have n0_ := Aside0.mk (below_step (by repeat (first | (with_reducible first | exact HB.out | apply below_alloc | apply pw_below_drewN | apply below_drew1) | exact HB.out)) hb); have n1_ := Aside0.mk (hbox); have n2_ := Aside0.mk ((by rw [hg]; exact (below_size (by repeat (first | (with_reducible first | exact HB.out | apply below_alloc | apply pw_below_drewN | apply below_drew1) | exact HB.out))) : w.heap.size ≤ gb182)); have n3_ := Aside0.mk ((by rw [hg]; exact (below_size (by repeat (first | (with_reducible first | exact HB.out | apply below_alloc | apply pw_below_drewN | apply below_drew1) | exact HB.out))) : w.heap.size ≤ gb182)); clear HB; have HB := n0_; have BK182 := n1_; have GW182 := n2_; have GE182 := n3_; clear n0_ n1_ n2_ n3_; clear hb hbox hg; have hcz13_0 : w12.cell? ⟨gb182, 0, none⟩ = some (.int .i64 a0_0) := (blk_cell BK182.out 0).trans rfl; have hcz13_1 : w12.cell? ⟨gb182, 1, none⟩ = some (.int .i64 a0_1) := (blk_cell BK182.out 1).trans rfl; have hcz13_2 : w12.cell? ⟨gb182, 2, none⟩ = some (.int .i64 a0_2) := (blk_cell BK182.out 2).trans rfl; have hcz13_3 : w12.cell? ⟨gb182, 3, none⟩ = some (.int .i64 a0_3) := (blk_cell BK182.out 3).trans rfl; have hcz13_4 : w12.cell? ⟨gb182, 4, none⟩ = some (.string a0_4) := (blk_cell BK182.out 4).trans rfl; have hcz13_5 : w12.cell? ⟨gb182, 5, none⟩ = some (.float .f64 a0_5) := (blk_cell BK182.out 5).trans rfl; have hfz13_0 := blk_frozen BK182.out 0; have hfz13_1 := blk_frozen BK182.out 1; have hfz13_2 := blk_frozen BK182.out 2; have hfz13_3 := blk_frozen BK182.out 3; have hfz13_4 := blk_frozen BK182.out 4; have hfz13_5 := blk_frozen BK182.out 5) | ((with_reducible refine gate_callee (f := 72) rfl ?_); refine goesL_ (some 5) rfl rfl Try.func72 (by kernel_rfl) rfl #[.agg #[.int .i64 a0_0, .int .i64 a0_1]] rfl (by (try simp only [List.map_toArray, List.map_cons, List.map_nil]); first | done | rfl | (simp only [List.length_drop, List.length_take]; rfl)) ?_; (with_reducible refine (bonsairef13_Time.calls a0_0 a0_1 false _ A2.out).mono ?_); rintro e w14 ⟨rfl, hb⟩; refine ⟨_, rfl, ?_⟩; have n0_ := Aside0.mk (blk_below (g := gb182) (o := .cells #[.int .i64 a0_0, .int .i64 a0_1, .int .i64 a0_2, .int .i64 a0_3, .string a0_4, .float .f64 a0_5] 30 (0, 0)) (by (with_reducible repeat (first | refine blk_drewN ?_ _ | refine blk_drew ?_ | refine blk_alloc ?_ _)); exact BK182.out) hb); have n1_ := Aside0.mk (below_step (by repeat (first | (with_reducible first | exact HB.out | apply below_alloc | apply pw_below_drewN | apply below_drew1 | refine below_set ?_ GE182.out) | exact HB.out)) hb); clear BK182; clear HB; have BK182 := n0_; have HB := n1_; clear n0_ n1_; (try clear hb); (try clear hb2); (try clear hk); (try clear hi)))
    go_ret
    exact ⟨by first | rfl | (simp [errW_none, errW_some] <;> rfl) | (simp [*, errW_none, errW_some] <;> rfl), by repeat (first | (with_reducible first | exact HB.out | apply below_alloc | apply pw_below_drewN | apply below_drew1 | refine below_set ?_ GE182.out) | exact HB.out)⟩
end Go.Proofs.Ytfcndhajcikgiaa.B
namespace Go.Proofs.Ytfcndhajcikgiaa.B
open Go.RowKit Go.Proofs.YtfcndhajcikgiaaW.PrintWords Go.Proofs.YtfcndhajcikgiaaW.PrintLast Go.Proofs.YtfcndhajcikgiaaW.PrintMore
def bonsairef02_Before.f (a0_0 : Int) (a0_1 : Int) (a1_0 : Int) (a1_1 : Int) : Option (Bool) := if a0_0 < a1_0 then (some true) else (if a0_0 = a1_0 then (some (decide (a0_1 < a1_1))) else (some false))
set_option maxHeartbeats 8000000 in
set_option maxRecDepth 100000 in
theorem bonsairef02_Before.calls (a0_0 : Int) (a0_1 : Int) (a1_0 : Int) (a1_1 : Int) (r : Bool) (w : World) (h : bonsairef02_Before.f a0_0 a0_1 a1_0 a1_1 = some r) :
    Calls Try.prog 42 #[.agg #[.int .i64 a0_0, .int .i64 a0_1], .agg #[.int .i64 a1_0, .int .i64 a1_1]] w fun e w' => e = .returned (.bool r) ∧ Below w.heap.size w w' := by
  have hu27 := Try.underlying27
  have HB := Aside0.mk (Below.refl w.heap.size w)
  have H : (if a0_0 < a1_0 then (some true) else (if a0_0 = a1_0 then (some (decide (a0_1 < a1_1))) else (some false))) = some r := h
  clear h
  by_cases c3 : a0_0 < a1_0
  · rw [if_pos c3] at H
    have c3b0 : decide (a0_0 < a1_0) = true := decide_eq_true c3
    clear c3
    obtain rfl := Option.some.inj H
    go_enter Try.func42, Try.ntmps42
    go_wp2_with (first | ((with_reducible refine gate_dst (N := 2) rfl ?_); refine box_event ?hg (N := 2) ?hd (cs := #[.int .i64 a0_0, .int .i64 a0_1]) (t := 27) ?hr ?_; (case hd => rfl); (case hg => rfl); (case hr => first | (go_simp; done) | (go_simp; rfl)); intro gb189 hg w4 hbox hb; have n0_ := Aside0.mk (below_step (by repeat (first | (with_reducible first | exact HB.out | apply below_alloc | apply pw_below_drewN | apply below_drew1) | exact HB.out)) hb); have n1_ := Aside0.mk (hbox); have n2_ := Aside0.mk ((by rw [hg]; exact (below_size (by repeat (first | (with_reducible first | exact HB.out | apply below_alloc | apply pw_below_drewN | apply below_drew1) | exact HB.out))) : w.heap.size ≤ gb189)); have n3_ := Aside0.mk ((by rw [hg]; exact (below_size (by repeat (first | (with_reducible first | exact HB.out | apply below_alloc | apply pw_below_drewN | apply below_drew1) | exact HB.out))) : w.heap.size ≤ gb189)); clear HB; have HB := n0_; have BK189 := n1_; have GW189 := n2_; have GE189 := n3_; clear n0_ n1_ n2_ n3_; clear hb hbox hg) | ((with_reducible refine gate_dst (N := 3) rfl ?_); refine box_event ?hg (N := 3) ?hd (cs := #[.int .i64 a1_0, .int .i64 a1_1]) (t := 27) ?hr ?_; (case hd => rfl); (case hg => rfl); (case hr => first | (go_simp; done) | (go_simp; rfl)); intro gb190 hg w5 hbox hb; have n0_ := Aside0.mk (blk_below (g := gb189) (o := .cells #[.int .i64 a0_0, .int .i64 a0_1] 27 (0, 0)) (by (with_reducible repeat (first | refine blk_drewN ?_ _ | refine blk_drew ?_ | refine blk_alloc ?_ _)); exact BK189.out) hb); have n1_ := Aside0.mk (below_step (by repeat (first | (with_reducible first | exact HB.out | apply below_alloc | apply pw_below_drewN | apply below_drew1 | refine below_set ?_ GE189.out) | exact HB.out)) hb); have n2_ := Aside0.mk (hbox); have n3_ := Aside0.mk ((by rw [hg]; exact (below_size (by repeat (first | (with_reducible first | exact HB.out | apply below_alloc | apply pw_below_drewN | apply below_drew1 | refine below_set ?_ GE189.out) | exact HB.out))) : w.heap.size ≤ gb190)); have n4_ := Aside0.mk ((by rw [hg]; exact (below_size (by repeat (first | (with_reducible first | exact HB.out | apply below_alloc | apply pw_below_drewN | apply below_drew1 | refine below_set ?_ GE189.out) | exact HB.out))) : w.heap.size ≤ gb190)); have n5_ := Aside0.mk ((by rw [hg]; exact Nat.ne_of_lt (blk_lt (g := gb189) (o := .cells #[.int .i64 a0_0, .int .i64 a0_1] 27 (0, 0)) (by (with_reducible repeat (first | refine blk_drewN ?_ _ | refine blk_drew ?_ | refine blk_alloc ?_ _)); exact BK189.out)) : gb189 ≠ gb190)); have n6_ := Aside0.mk ((by rw [hg]; exact Nat.ne_of_gt (blk_lt (g := gb189) (o := .cells #[.int .i64 a0_0, .int .i64 a0_1] 27 (0, 0)) (by (with_reducible repeat (first | refine blk_drewN ?_ _ | refine blk_drew ?_ | refine blk_alloc ?_ _)); exact BK189.out)) : gb190 ≠ gb189)); clear BK189; clear HB; have BK189 := n0_; have HB := n1_; have BK190 := n2_; have GW190 := n3_; have GE190 := n4_; have NB189_190 := n5_; have NB190_189 := n6_; clear n0_ n1_ n2_ n3_ n4_ n5_ n6_; clear hb hbox hg; have hnb6 := NB189_190.out; have hnc6 := NB190_189.out; have hcz7_0 : w5.cell? ⟨gb189, 0, none⟩ = some (.int .i64 a0_0) := (blk_cell BK189.out 0).trans rfl; have hcz7_1 : w5.cell? ⟨gb189, 1, none⟩ = some (.int .i64 a0_1) := (blk_cell BK189.out 1).trans rfl; have hfz7_0 := blk_frozen BK189.out 0; have hfz7_1 := blk_frozen BK189.out 1; have hcz8_0 : w5.cell? ⟨gb190, 0, none⟩ = some (.int .i64 a1_0) := (blk_cell BK190.out 0).trans rfl; have hcz8_1 : w5.cell? ⟨gb190, 1, none⟩ = some (.int .i64 a1_1) := (blk_cell BK190.out 1).trans rfl; have hfz8_0 := blk_frozen BK190.out 0; have hfz8_1 := blk_frozen BK190.out 1))
    go_ret
    exact ⟨by first | rfl | (simp [errW_none, errW_some] <;> rfl) | (simp [*, errW_none, errW_some] <;> rfl), by repeat (first | (with_reducible first | exact HB.out | apply below_alloc | apply pw_below_drewN | apply below_drew1 | refine below_set ?_ GE189.out | refine below_set ?_ GE190.out) | exact HB.out)⟩
  · rw [if_neg c3] at H
    have c3b0 : decide (a0_0 < a1_0) = false := decide_eq_false c3
    clear c3
    by_cases c9 : a0_0 = a1_0
    · rw [if_pos c9] at H
      have c9b0 : (a0_0 == a1_0) = true := beq_iff_eq.mpr c9
      have c9b1 : (a0_0 != a1_0) = false := bne_eq_false_iff_eq.mpr c9
      clear c9
      obtain rfl := Option.some.inj H
      go_enter Try.func42, Try.ntmps42
      go_wp2_with (first | ((with_reducible refine gate_dst (N := 2) rfl ?_); refine box_event ?hg (N := 2) ?hd (cs := #[.int .i64 a0_0, .int .i64 a0_1]) (t := 27) ?hr ?_; (case hd => rfl); (case hg => rfl); (case hr => first | (go_simp; done) | (go_simp; rfl)); intro gb189 hg w10 hbox hb; have n0_ := Aside0.mk (below_step (by repeat (first | (with_reducible first | exact HB.out | apply below_alloc | apply pw_below_drewN | apply below_drew1) | exact HB.out)) hb); have n1_ := Aside0.mk (hbox); have n2_ := Aside0.mk ((by rw [hg]; exact (below_size (by repeat (first | (with_reducible first | exact HB.out | apply below_alloc | apply pw_below_drewN | apply below_drew1) | exact HB.out))) : w.heap.size ≤ gb189)); have n3_ := Aside0.mk ((by rw [hg]; exact (below_size (by repeat (first | (with_reducible first | exact HB.out | apply below_alloc | apply pw_below_drewN | apply below_drew1) | exact HB.out))) : w.heap.size ≤ gb189)); clear HB; have HB := n0_; have BK189 := n1_; have GW189 := n2_; have GE189 := n3_; clear n0_ n1_ n2_ n3_; clear hb hbox hg) | ((with_reducible refine gate_dst (N := 3) rfl ?_); refine box_event ?hg (N := 3) ?hd (cs := #[.int .i64 a1_0, .int .i64 a1_1]) (t := 27) ?hr ?_; (case hd => rfl); (case hg => rfl); (case hr => first | (go_simp; done) | (go_simp; rfl)); intro gb190 hg w11 hbox hb; have n0_ := Aside0.mk (blk_below (g := gb189) (o := .cells #[.int .i64 a0_0, .int .i64 a0_1] 27 (0, 0)) (by (with_reducible repeat (first | refine blk_drewN ?_ _ | refine blk_drew ?_ | refine blk_alloc ?_ _)); exact BK189.out) hb); have n1_ := Aside0.mk (below_step (by repeat (first | (with_reducible first | exact HB.out | apply below_alloc | apply pw_below_drewN | apply below_drew1 | refine below_set ?_ GE189.out) | exact HB.out)) hb); have n2_ := Aside0.mk (hbox); have n3_ := Aside0.mk ((by rw [hg]; exact (below_size (by repeat (first | (with_reducible first | exact HB.out | apply below_alloc | apply pw_below_drewN | apply below_drew1 | refine below_set ?_ GE189.out) | exact HB.out))) : w.heap.size ≤ gb190)); have n4_ := Aside0.mk ((by rw [hg]; exact (below_size (by repeat (first | (with_reducible first | exact HB.out | apply below_alloc | apply pw_below_drewN | apply below_drew1 | refine below_set ?_ GE189.out) | exact HB.out))) : w.heap.size ≤ gb190)); have n5_ := Aside0.mk ((by rw [hg]; exact Nat.ne_of_lt (blk_lt (g := gb189) (o := .cells #[.int .i64 a0_0, .int .i64 a0_1] 27 (0, 0)) (by (with_reducible repeat (first | refine blk_drewN ?_ _ | refine blk_drew ?_ | refine blk_alloc ?_ _)); exact BK189.out)) : gb189 ≠ gb190)); have n6_ := Aside0.mk ((by rw [hg]; exact Nat.ne_of_gt (blk_lt (g := gb189) (o := .cells #[.int .i64 a0_0, .int .i64 a0_1] 27 (0, 0)) (by (with_reducible repeat (first | refine blk_drewN ?_ _ | refine blk_drew ?_ | refine blk_alloc ?_ _)); exact BK189.out)) : gb190 ≠ gb189)); clear BK189; clear HB; have BK189 := n0_; have HB := n1_; have BK190 := n2_; have GW190 := n3_; have GE190 := n4_; have NB189_190 := n5_; have NB190_189 := n6_; clear n0_ n1_ n2_ n3_ n4_ n5_ n6_; clear hb hbox hg; have hnb12 := NB189_190.out; have hnc12 := NB190_189.out; have hcz13_0 : w11.cell? ⟨gb189, 0, none⟩ = some (.int .i64 a0_0) := (blk_cell BK189.out 0).trans rfl; have hcz13_1 : w11.cell? ⟨gb189, 1, none⟩ = some (.int .i64 a0_1) := (blk_cell BK189.out 1).trans rfl; have hfz13_0 := blk_frozen BK189.out 0; have hfz13_1 := blk_frozen BK189.out 1; have hcz14_0 : w11.cell? ⟨gb190, 0, none⟩ = some (.int .i64 a1_0) := (blk_cell BK190.out 0).trans rfl; have hcz14_1 : w11.cell? ⟨gb190, 1, none⟩ = some (.int .i64 a1_1) := (blk_cell BK190.out 1).trans rfl; have hfz14_0 := blk_frozen BK190.out 0; have hfz14_1 := blk_frozen BK190.out 1))
      go_ret
      exact ⟨by first | rfl | (simp [errW_none, errW_some] <;> rfl) | (simp [*, errW_none, errW_some] <;> rfl), by repeat (first | (with_reducible first | exact HB.out | apply below_alloc | apply pw_below_drewN | apply below_drew1 | refine below_set ?_ GE189.out | refine below_set ?_ GE190.out) | exact HB.out)⟩
    · rw [if_neg c9] at H
      have c9b0 : (a0_0 == a1_0) = false := beq_eq_false_iff_ne.mpr c9
      have c9b1 : (a0_0 != a1_0) = true := bne_iff_ne.mpr c9
      obtain rfl := Option.some.inj H
      go_enter Try.func42, Try.ntmps42
      go_wp2_with (first | ((with_reducible refine gate_dst (N := 2) rfl ?_); refine box_event ?hg (N := 2) ?hd (cs := #[.int .i64 a0_0, .int .i64 a0_1]) (t := 27) ?hr ?_; (case hd => rfl); (case hg => rfl); (case hr => first | (go_simp; done) | (go_simp; rfl)); intro gb189 hg w15 hbox hb; have n0_ := Aside0.mk (below_step (by repeat (first | (with_reducible first | exact HB.out | apply below_alloc | apply pw_below_drewN | apply below_drew1) | exact HB.out)) hb); have n1_ := Aside0.mk (hbox); have n2_ := Aside0.mk ((by rw [hg]; exact (below_size (by repeat (first | (with_reducible first | exact HB.out | apply below_alloc | apply pw_below_drewN | apply below_drew1) | exact HB.out))) : w.heap.size ≤ gb189)); have n3_ := Aside0.mk ((by rw [hg]; exact (below_size (by repeat (first | (with_reducible first | exact HB.out | apply below_alloc | apply pw_below_drewN | apply below_drew1) | exact HB.out))) : w.heap.size ≤ gb189)); clear HB; have HB := n0_; have BK189 := n1_; have GW189 := n2_; have GE189 := n3_; clear n0_ n1_ n2_ n3_; clear hb hbox hg) | ((with_reducible refine gate_dst (N := 3) rfl ?_); refine box_event ?hg (N := 3) ?hd (cs := #[.int .i64 a1_0, .int .i64 a1_1]) (t := 27) ?hr ?_; (case hd => rfl); (case hg => rfl); (case hr => first | (go_simp; done) | (go_simp; rfl)); intro gb190 hg w16 hbox hb; have n0_ := Aside0.mk (blk_below (g := gb189) (o := .cells #[.int .i64 a0_0, .int .i64 a0_1] 27 (0, 0)) (by (with_reducible repeat (first | refine blk_drewN ?_ _ | refine blk_drew ?_ | refine blk_alloc ?_ _)); exact BK189.out) hb); have n1_ := Aside0.mk (below_step (by repeat (first | (with_reducible first | exact HB.out | apply below_alloc | apply pw_below_drewN | apply below_drew1 | refine below_set ?_ GE189.out) | exact HB.out)) hb); have n2_ := Aside0.mk (hbox); have n3_ := Aside0.mk ((by rw [hg]; exact (below_size (by repeat (first | (with_reducible first | exact HB.out | apply below_alloc | apply pw_below_drewN | apply below_drew1 | refine below_set ?_ GE189.out) | exact HB.out))) : w.heap.size ≤ gb190)); have n4_ := Aside0.mk ((by rw [hg]; exact (below_size (by repeat (first | (with_reducible first | exact HB.out | apply below_alloc | apply pw_below_drewN | apply below_drew1 | refine below_set ?_ GE189.out) | exact HB.out))) : w.heap.size ≤ gb190)); have n5_ := Aside0.mk ((by rw [hg]; exact Nat.ne_of_lt (blk_lt (g := gb189) (o := .cells #[.int .i64 a0_0, .int .i64 a0_1] 27 (0, 0)) (by (with_reducible repeat (first | refine blk_drewN ?_ _ | refine blk_drew ?_ | refine blk_alloc ?_ _)); exact BK189.out)) : gb189 ≠ gb190)); have n6_ := Aside0.mk ((by rw [hg]; exact Nat.ne_of_gt (blk_lt (g := gb189) (o := .cells #[.int .i64 a0_0, .int .i64 a0_1] 27 (0, 0)) (by (with_reducible repeat (first | refine blk_drewN ?_ _ | refine blk_drew ?_ | refine blk_alloc ?_ _)); exact BK189.out)) : gb190 ≠ gb189)); clear BK189; clear HB; have BK189 := n0_; have HB := n1_; have BK190 := n2_; have GW190 := n3_; have GE190 := n4_; have NB189_190 := n5_; have NB190_189 := n6_; clear n0_ n1_ n2_ n3_ n4_ n5_ n6_; clear hb hbox hg; have hnb17 := NB189_190.out; have hnc17 := NB190_189.out; have hcz18_0 : w16.cell? ⟨gb189, 0, none⟩ = some (.int .i64 a0_0) := (blk_cell BK189.out 0).trans rfl; have hcz18_1 : w16.cell? ⟨gb189, 1, none⟩ = some (.int .i64 a0_1) := (blk_cell BK189.out 1).trans rfl; have hfz18_0 := blk_frozen BK189.out 0; have hfz18_1 := blk_frozen BK189.out 1; have hcz19_0 : w16.cell? ⟨gb190, 0, none⟩ = some (.int .i64 a1_0) := (blk_cell BK190.out 0).trans rfl; have hcz19_1 : w16.cell? ⟨gb190, 1, none⟩ = some (.int .i64 a1_1) := (blk_cell BK190.out 1).trans rfl; have hfz19_0 := blk_frozen BK190.out 0; have hfz19_1 := blk_frozen BK190.out 1))
      go_ret
      exact ⟨by first | rfl | (simp [errW_none, errW_some] <;> rfl) | (simp [*, errW_none, errW_some] <;> rfl), by repeat (first | (with_reducible first | exact HB.out | apply below_alloc | apply pw_below_drewN | apply below_drew1 | refine below_set ?_ GE189.out | refine below_set ?_ GE190.out) | exact HB.out)⟩
end Go.Proofs.Ytfcndhajcikgiaa.B
namespace Go.Proofs.Ytfcndhajcikgiaa.B
open Go.RowKit Go.Proofs.Sp Go.Proofs.Fl Go.Proofs.YtfcndhajcikgiaaW.PrintWords Go.Proofs.YtfcndhajcikgiaaW.PrintLast Go.Proofs.YtfcndhajcikgiaaW.PrintMore
theorem rbefore_f (a b c d : Int) : bonsairef02_Before.f a b c d = some (beforeB a b c d) := by
  unfold bonsairef02_Before.f beforeB
  by_cases h : a < c
  · rw [if_pos h, decide_eq_true h]; rfl
  · rw [if_neg h, decide_eq_false h]
    by_cases h2 : a = c
    · rw [if_pos h2, decide_eq_true h2]; rfl
    · rw [if_neg h2, decide_eq_false h2]; rfl
theorem rone_f (c r p ch : Int) (name : ByteArray) (y k : Nat) (hk : 70 ≤ k) : bonsairef13_One.f k c r p ch name y = some (oneB c r p ch name) := by
  unfold bonsairef13_One.f bonsairef13_Time.f bonsairef13_Row.f bonsairef12_One.f oneB
  by_cases c1 : c ≥ 1
  · rw [if_pos c1, decide_eq_true (show 1 ≤ c from c1)]
    by_cases c2 : c ≤ 4611686018427387903
    · rw [if_pos c2, decide_eq_true c2]
      by_cases c3 : r ≥ 1
      · rw [if_pos c3, decide_eq_true (show 1 ≤ r from c3)]
        by_cases c4 : r ≤ 255
        · rw [decide_eq_true c4]
          simp only [Option.bind_some, if_true]
          by_cases c5 : ch ≥ 1
          · rw [if_pos c5, decide_eq_true (show 1 ≤ ch from c5)]
            by_cases c6 : ch ≤ 2147483647
            · rw [if_pos c6, decide_eq_true c6]
              by_cases c7 : p ≥ 0
              · rw [if_pos c7, decide_eq_true (show 0 ≤ p from c7)]
                by_cases c8 : p ≤ 2147483647
                · rw [if_pos c8, decide_eq_true c8]
                  by_cases c9 : (name.size : Int) ≤ 64
                  · rw [if_pos c9, decide_eq_true (show name.size ≤ 64 by omega), valid_f name k (by omega) (by omega)]
                    rfl
                  · rw [if_neg c9, decide_eq_false (show ¬ name.size ≤ 64 by omega)]; rfl
                · rw [if_neg c8, decide_eq_false c8]; rfl
              · rw [if_neg c7, decide_eq_false (show ¬ 0 ≤ p from c7)]; rfl
            · rw [if_neg c6, decide_eq_false c6]; rfl
          · rw [if_neg c5, decide_eq_false (show ¬ 1 ≤ ch from c5)]; rfl
        · rw [decide_eq_false c4]; rfl
      · rw [if_neg c3, decide_eq_false (show ¬ 1 ≤ r from c3)]; rfl
    · rw [if_neg c2, decide_eq_false c2]; rfl
  · rw [if_neg c1, decide_eq_false (show ¬ 1 ≤ c from c1)]; rfl
end Go.Proofs.Ytfcndhajcikgiaa.B
namespace Go.Proofs.Ytfcndhajcikgiaa.B
open Go.RowKit Go.Proofs.YtfcndhajcikgiaaW.PrintWords Go.Proofs.YtfcndhajcikgiaaW.PrintLast Go.Proofs.YtfcndhajcikgiaaW.PrintMore
def bonsairef11_Version.j0 : Nat → ByteArray → Bool → Option (Int × Int)
  | 0, _, _ => none
  | k + 1, x0, x11 => if x11 = true then (some (0, 7)) else (if (x0.size : Int) < 5 then (some (0, 2)) else (if 4 < (x0.size : Int) then (some (wrap64 (bt x0 4), 0)) else (none)))
def bonsairef11_Version.f (k : Nat) (a0 : ByteArray) : Option (Int × Int) := if (a0.size : Int) < 4 then (bonsairef11_Version.j0 k a0 true) else (if 0 ≤ 4 then (if 4 ≤ (a0.size : Int) then (bonsairef11_Version.j0 k a0 ((a0.extract 0 4).toList != ([66, 78, 83, 73] : List UInt8))) else (none)) else (none))
theorem bonsairef11_Version.mono_l : ∀ k, (∀ y0 y1, LeO (bonsairef11_Version.j0 k y0 y1) (bonsairef11_Version.j0 (k + 1) y0 y1))
  | 0 => fun _ _ r h => by simp [bonsairef11_Version.j0] at h
  | k + 1 => by
    have ih0 := bonsairef11_Version.mono_l k
    · intro y0 y1
      unfold bonsairef11_Version.j0
      repeat' first
      | (with_reducible exact ih0 _ _)
      | (with_reducible exact LeO.refl _)
      | (with_reducible exact LeO.none _)
      | (with_reducible refine LeO.ite ?_ ?_)
      | (with_reducible refine LeO.bind ?_ (fun _ => ?_))
      | exact ih0 _ _
      | exact LeO.none _
      | refine LeO.ite ?_ ?_
      | refine LeO.bind ?_ (fun _ => ?_)
theorem bonsairef11_Version.mono : ∀ a0 k, LeO (bonsairef11_Version.f k a0) (bonsairef11_Version.f (k + 1) a0) := by
  intro a0 k
  have ih0 := bonsairef11_Version.mono_l k
  unfold bonsairef11_Version.f
  repeat' first
      | (with_reducible exact ih0 _ _)
      | (with_reducible exact LeO.refl _)
      | (with_reducible exact LeO.none _)
      | (with_reducible refine LeO.ite ?_ ?_)
      | (with_reducible refine LeO.bind ?_ (fun _ => ?_))
      | exact ih0 _ _
      | exact LeO.none _
      | refine LeO.ite ?_ ?_
      | refine LeO.bind ?_ (fun _ => ?_)
set_option maxHeartbeats 8000000 in
set_option maxRecDepth 100000 in
theorem bonsairef11_Version.calls (k : Nat) (a0 : ByteArray) (r1 : Int) (r2 : Int) (w : World) (h : bonsairef11_Version.f k a0 = some (r1, r2)) :
    Calls Try.prog 35 #[.string a0] w fun e w' => e = .returned (.tuple #[.int .i64 r1, .int .i64 r2]) ∧ Drawn0 w w' := by
  have H : (if (a0.size : Int) < 4 then (bonsairef11_Version.j0 k a0 true) else (if 0 ≤ 4 then (if 4 ≤ (a0.size : Int) then (bonsairef11_Version.j0 k a0 ((a0.extract 0 4).toList != ([66, 78, 83, 73] : List UInt8))) else (none)) else (none))) = some (r1, r2) := h
  clear h
  have HC2 := Aside0.mk H
  clear H
  go_enter Try.func35, Try.ntmps35
  go_upto_region 1 with (fail)
  go_cut [11] (fun v11 wc => ∃ (kq : Nat) (x11_1 : Bool), v11 = .bool x11_1 ∧ Aside0 (bonsairef11_Version.j0 kq a0 x11_1 = some (r1, r2)) ∧ Aside0 (kq ≤ k) ∧ Drawn0 w wc)
  case first =>
    have H := HC2.out
    clear HC2
    by_cases c3 : (a0.size : Int) < 4
    · rw [if_pos c3] at H
      have c3b0 : decide ((a0.size : Int) < 4) = true := decide_eq_true c3
      have c3b1 : decide (a0.size < 4) = true := decide_eq_true (by omega)
      clear c3
      (first | rw [c3b0] | (simp only [i64_w, i32_w]; rw [c3b0]) | skip)
      have H' := Aside0.mk H
      clear H
      go_wp2
      go_meet
      case rel => exact ⟨_, (true), (by first | rfl | (simp; done) | (simp [*]; done)), H', ⟨by first | omega | exact Nat.le_refl _⟩, by repeat (first | exact Drawn0.refl _ | apply Drawn0.step)⟩
    · rw [if_neg c3] at H
      have c3b0 : decide ((a0.size : Int) < 4) = false := decide_eq_false c3
      have c3b1 : decide (a0.size < 4) = false := decide_eq_false (by omega)
      clear c3
      (first | rw [c3b0] | (simp only [i64_w, i32_w]; rw [c3b0]) | skip)
      by_cases c4 : 0 ≤ 4
      · rw [if_pos c4] at H
        have c4b0 := eq_true c4
        have c4b1 : decide (0 ≤ 4) = true := decide_eq_true c4
        clear c4
        by_cases c5 : 4 ≤ (a0.size : Int)
        · rw [if_pos c5] at H
          have c5b0 := eq_true c5
          have c5b1 : decide (4 ≤ (a0.size : Int)) = true := decide_eq_true c5
          clear c5
          have H' := Aside0.mk H
          clear H
          go_wp2
          go_meet
          case rel => exact ⟨_, (((a0.extract 0 4).toList != ([66, 78, 83, 73] : List UInt8))), (by first | rfl | (simp; done) | (simp [*]; done)), H', ⟨by first | omega | exact Nat.le_refl _⟩, by repeat (first | exact Drawn0.refl _ | apply Drawn0.step)⟩
        · rw [if_neg c5] at H
          exact absurd H (by simp)
      · rw [if_neg c4] at H
        exact absurd H (by simp)
  case rest =>
    clear HC2
    try clear p2
    try clear c3
    try clear c3b0
    try clear c3b1
    try clear c4
    try clear c4b0
    try clear c4b1
    try clear c5
    try clear c5b0
    try clear c5b1
    obtain ⟨kq, x11_1, rfl, HA, HJ1, ⟨mc1, rfl⟩⟩ := hcut
    cases kq with
    | zero => exact absurd HA.out (by simp [bonsairef11_Version.j0])
    | succ kj1 =>
      have H := HA.out
      clear HA
      simp only [bonsairef11_Version.j0] at H
      by_cases c6 : x11_1 = true
      · subst c6
        have H1 : (some (0, 7)) = some (r1, r2) := by rw [if_pos rfl] at H; exact H
        clear H
        have H := H1
        clear H1
        simp only [Option.some.injEq, Prod.mk.injEq] at H
        obtain ⟨rfl, rfl⟩ := H
        go_wp2
        go_ret2
        exact ⟨by first | rfl | (simp; done) | (simp [*]; done), by repeat (first | exact Drawn0.refl _ | apply Drawn0.step)⟩
      · replace c6 := Bool.eq_false_iff.mpr c6
        subst c6
        have H1 : (if (a0.size : Int) < 5 then (some (0, 2)) else (if 4 < (a0.size : Int) then (some (wrap64 (bt a0 4), 0)) else (none))) = some (r1, r2) := by rw [if_neg (show ¬ (false = true) by decide)] at H; exact H
        clear H
        have H := H1
        clear H1
        by_cases c7 : (a0.size : Int) < 5
        · rw [if_pos c7] at H
          have c7b0 : decide ((a0.size : Int) < 5) = true := decide_eq_true c7
          have c7b1 : decide (a0.size < 5) = true := decide_eq_true (by omega)
          clear c7
          simp only [Option.some.injEq, Prod.mk.injEq] at H
          obtain ⟨rfl, rfl⟩ := H
          go_wp2
          go_ret2
          exact ⟨by first | rfl | (simp; done) | (simp [*]; done), by repeat (first | exact Drawn0.refl _ | apply Drawn0.step)⟩
        · rw [if_neg c7] at H
          have c7b0 : decide ((a0.size : Int) < 5) = false := decide_eq_false c7
          have c7b1 : decide (a0.size < 5) = false := decide_eq_false (by omega)
          clear c7
          by_cases c8 : 4 < (a0.size : Int)
          · rw [if_pos c8] at H
            have c8b0 : decide (4 < (a0.size : Int)) = true := decide_eq_true c8
            have c8b1 : decide (4 < a0.size) = true := decide_eq_true (by omega)
            clear c8
            simp only [Option.some.injEq, Prod.mk.injEq] at H
            obtain ⟨rfl, rfl⟩ := H
            have p9 : 0 ≤ (4 : Int) := (by omega)
            have q9 : 4 < a0.size := (by have : (4 : Int) < (a0.size : Int) := of_decide_eq_true (by first | (with_reducible assumption) | assumption); omega)
            have hx9 : ∀ h : 4 < a0.size, ((a0[4]'h).toNat : Int) = bt a0 4 := bt_at a0 4
            clear p9
            have qi9 : (4 < (a0.size : Int)) = True := eq_true (of_decide_eq_true (by first | (with_reducible assumption) | assumption))
            replace q9 := eq_true q9
            go_wp2
            go_ret2
            exact ⟨by first | rfl | (simp; done) | (simp [*]; done), by repeat (first | exact Drawn0.refl _ | apply Drawn0.step)⟩
          · rw [if_neg c8] at H
            exact absurd H (by simp)
end Go.Proofs.Ytfcndhajcikgiaa.B
namespace Go.Proofs.Ytfcndhajcikgiaa.B
open Go.RowKit Go.Proofs.Sp Go.Proofs.Fl Go.Proofs.YtfcndhajcikgiaaW.PrintWords Go.Proofs.YtfcndhajcikgiaaW.PrintLast Go.Proofs.YtfcndhajcikgiaaW.PrintMore
theorem rcanon_f {b : Nat} (hb : b < 2 ^ 64) : bonsairef01_Canon.f (b : Int) = some (canonB b) := by
  unfold bonsairef01_Canon.f bonsairef01_None.f canonB
  have e1 : (((b : Int) / 4503599627370496).tmod 2048) = ((b / 2 ^ 52 % 2 ^ 11 : Nat) : Int) := by rw [Int.tmod_eq_emod_of_nonneg (by omega)]; omega
  have e2 : ((b : Int).tmod 4503599627370496) = ((b % 2 ^ 52 : Nat) : Int) := by rw [Int.tmod_eq_emod_of_nonneg (by omega)]; omega
  rw [e1, e2]
  by_cases h1 : b / 2 ^ 52 % 2 ^ 11 = 2047
  · rw [if_pos (by omega)]
    by_cases h2 : b % 2 ^ 52 = 0
    · rw [if_pos (by omega), decide_eq_true (by omega)]; rfl
    · rw [if_neg (by omega), decide_eq_false (by omega), Bool.false_or]
      simp only [Option.bind_some]
      congr 1
      by_cases h3 : b = 9221120237041090560
      · rw [decide_eq_true h3, h3]; rfl
      · rw [decide_eq_false h3, beq_eq_false_iff_ne]; omega
  · rw [if_neg (by omega), decide_eq_true (by omega)]; rfl
end Go.Proofs.Ytfcndhajcikgiaa.B
