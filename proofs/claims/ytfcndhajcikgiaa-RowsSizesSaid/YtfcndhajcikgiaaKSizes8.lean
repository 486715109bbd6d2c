/- RowsSizes: for every input the law returns true, and the input reads behind the call as it read before. (Part 8 of 10.) -/
import Derived.Test.YtfcndhajcikgiaaKSizes7
set_option linter.unusedVariables false
set_option linter.unusedSimpArgs false
namespace Go.Proofs.Ytfcndhajcikgiaa.B
open Go.RowKit Go.Proofs.YtfcndhajcikgiaaW.PrintWords Go.Proofs.YtfcndhajcikgiaaW.PrintLast Go.Proofs.YtfcndhajcikgiaaW.PrintMore
def bonsairef04_First.l0 : Nat → ByteArray → Int → Option (Int × Bool)
  | 0, _, _ => none
  | k + 1, x0, x4 => if x4 < (x0.size : Int) then ((bonsairef04_sign.f k x0 x4).bind fun t175 => (if t175 = 0 then (some (x4, true)) else (bonsairef04_First.l0 k x0 (wrap64 (x4 + t175))))) else (some (0, false))
def bonsairef04_First.f (k : Nat) (a0 : ByteArray) : Option (Int × Bool) := bonsairef04_First.l0 k a0 0
theorem bonsairef04_First.mono_l : ∀ k, (∀ y0 y1, LeO (bonsairef04_First.l0 k y0 y1) (bonsairef04_First.l0 (k + 1) y0 y1))
  | 0 => fun _ _ r h => by simp [bonsairef04_First.l0] at h
  | k + 1 => by
    have ih0 := bonsairef04_First.mono_l k
    · intro y0 y1
      unfold bonsairef04_First.l0
      repeat' first
      | (with_reducible exact ih0 _ _)
      | (with_reducible exact bonsairef04_sign.mono _ _ _)
      | (with_reducible exact LeO.refl _)
      | (with_reducible exact LeO.none _)
      | (with_reducible refine LeO.ite ?_ ?_)
      | (with_reducible refine LeO.bind ?_ (fun _ => ?_))
      | exact ih0 _ _
      | exact bonsairef04_sign.mono _ _ _
      | exact LeO.none _
      | refine LeO.ite ?_ ?_
      | refine LeO.bind ?_ (fun _ => ?_)
theorem bonsairef04_First.mono : ∀ a0 k, LeO (bonsairef04_First.f k a0) (bonsairef04_First.f (k + 1) a0) := by
  intro a0 k
  have ih0 := bonsairef04_First.mono_l k
  unfold bonsairef04_First.f
  repeat' first
      | (with_reducible exact ih0 _ _)
      | (with_reducible exact bonsairef04_sign.mono _ _ _)
      | (with_reducible exact LeO.refl _)
      | (with_reducible exact LeO.none _)
      | (with_reducible refine LeO.ite ?_ ?_)
      | (with_reducible refine LeO.bind ?_ (fun _ => ?_))
      | exact ih0 _ _
      | exact bonsairef04_sign.mono _ _ _
      | exact LeO.none _
      | refine LeO.ite ?_ ?_
      | refine LeO.bind ?_ (fun _ => ?_)
set_option maxHeartbeats 8000000 in
set_option maxRecDepth 100000 in
theorem bonsairef04_First.calls (k : Nat) (a0 : ByteArray) (r1 : Int) (r2 : Bool) (w : World) (h : bonsairef04_First.f k a0 = some (r1, r2)) :
    Calls Try.prog 88 #[.string a0] w fun e w' => e = .returned (.tuple #[.int .i64 r1, .bool r2]) ∧ Drawn0 w w' := by
  have H : (bonsairef04_First.l0 k a0 0) = some (r1, r2) := h
  clear h
  have H' := Aside0.mk H
  clear H
  go_enter Try.func88, Try.ntmps88
  go_wp2
  go_loopg [4] k (fun kq v4 w' => ∃ (x4_1 : Int), v4 = .int .i64 x4_1 ∧ Aside0 (bonsairef04_First.l0 kq a0 x4_1 = some (r1, r2)) ∧ Aside0 (kq ≤ k) ∧ Drawn0 w w')
  case atStart => exact ⟨(0), (by first | rfl | (simp; done) | (simp [*]; done)), H', ⟨Nat.le_refl _⟩, by repeat (first | exact Drawn0.refl _ | apply Drawn0.step)⟩
  case round =>
    clear H'
    obtain ⟨x4_1, rfl, HA, HK1, ⟨m1, rfl⟩⟩ := hrel
    cases gk with
    | zero => exact absurd HA.out (by simp [bonsairef04_First.l0])
    | succ k1 =>
      have H := HA.out
      clear HA
      simp only [bonsairef04_First.l0] at H
      by_cases c2 : x4_1 < (a0.size : Int)
      · rw [if_pos c2] at H
        have c2b0 : decide (x4_1 < (a0.size : Int)) = true := decide_eq_true c2
        clear c2
        replace H := Option.bind_eq_some_iff.mp H
        obtain ⟨t175, A30, H⟩ := H
        replace H : (if t175 = 0 then (some (x4_1, true)) else (bonsairef04_First.l0 k1 a0 (wrap64 (x4_1 + t175)))) = some (r1, r2) := H
        have A3 := Aside0.mk A30
        clear A30
        by_cases c4 : t175 = 0
        · rw [if_pos c4] at H
          have c4b0 : (t175 == 0) = true := beq_iff_eq.mpr c4
          have c4b1 : (t175 != 0) = false := bne_eq_false_iff_eq.mpr c4
          clear c4
          simp only [Option.some.injEq, Prod.mk.injEq] at H
          obtain ⟨rfl, rfl⟩ := H
          go_wp2_with (first | ((with_reducible refine gate_callee (f := 93) rfl ?_); refine goesL_ (some 12) rfl rfl Try.func93 (by kernel_rfl) rfl #[.string a0, .int .i64 x4_1] rfl (by (try simp only [List.map_toArray, List.map_cons, List.map_nil]); first | done | rfl | (simp only [List.length_drop, List.length_take]; rfl)) ?_; (with_reducible refine (bonsairef04_sign.calls k1 a0 x4_1 t175 _ A3.out).mono ?_); rintro e w' ⟨rfl, ⟨nd, rfl⟩⟩; refine ⟨_, rfl, ?_⟩))
          go_ret2
          exact ⟨by first | rfl | (simp; done) | (simp [*]; done), by repeat (first | exact Drawn0.refl _ | apply Drawn0.step)⟩
        · rw [if_neg c4] at H
          have c4b0 : (t175 == 0) = false := beq_eq_false_iff_ne.mpr c4
          have c4b1 : (t175 != 0) = true := bne_iff_ne.mpr c4
          have H' := Aside0.mk H
          clear H
          go_wp2_with (first | ((with_reducible refine gate_callee (f := 93) rfl ?_); refine goesL_ (some 12) rfl rfl Try.func93 (by kernel_rfl) rfl #[.string a0, .int .i64 x4_1] rfl (by (try simp only [List.map_toArray, List.map_cons, List.map_nil]); first | done | rfl | (simp only [List.length_drop, List.length_take]; rfl)) ?_; (with_reducible refine (bonsairef04_sign.calls k1 a0 x4_1 t175 _ A3.out).mono ?_); rintro e w' ⟨rfl, ⟨nd, rfl⟩⟩; refine ⟨_, rfl, ?_⟩))
          go_roundg k1
          case measure => have := HK1.out; omega
          case rel => exact ⟨(wrap64 (x4_1 + t175)), (by first | rfl | (simp; done) | (simp [*]; done)), H', ⟨by have := HK1.out; omega⟩, by repeat (first | exact Drawn0.refl _ | apply Drawn0.step)⟩
      · rw [if_neg c2] at H
        have c2b0 : decide (x4_1 < (a0.size : Int)) = false := decide_eq_false c2
        clear c2
        simp only [Option.some.injEq, Prod.mk.injEq] at H
        obtain ⟨rfl, rfl⟩ := H
        go_wp2
        go_ret2
        exact ⟨by first | rfl | (simp; done) | (simp [*]; done), by repeat (first | exact Drawn0.refl _ | apply Drawn0.step)⟩
end Go.Proofs.Ytfcndhajcikgiaa.B
namespace Go.Proofs.Ytfcndhajcikgiaa.B
open Go.RowKit Go.Proofs.YtfcndhajcikgiaaW.PrintWords Go.Proofs.YtfcndhajcikgiaaW.PrintLast Go.Proofs.YtfcndhajcikgiaaW.PrintMore
def bonsairef04_Valid.f (k : Nat) (a0 : ByteArray) : Option (Bool) := (bonsairef04_First.f k a0).bind fun bt176 => (some (!bt176.2))
theorem bonsairef04_Valid.mono : ∀ a0 k, LeO (bonsairef04_Valid.f k a0) (bonsairef04_Valid.f (k + 1) a0) := by
  intro a0 k
  unfold bonsairef04_Valid.f
  repeat' first
      | (with_reducible exact bonsairef04_First.mono _ _)
      | (with_reducible exact LeO.refl _)
      | (with_reducible exact LeO.none _)
      | (with_reducible refine LeO.ite ?_ ?_)
      | (with_reducible refine LeO.bind ?_ (fun _ => ?_))
      | exact bonsairef04_First.mono _ _
      | exact LeO.none _
      | refine LeO.ite ?_ ?_
      | refine LeO.bind ?_ (fun _ => ?_)
set_option maxHeartbeats 8000000 in
set_option maxRecDepth 100000 in
theorem bonsairef04_Valid.calls (k : Nat) (a0 : ByteArray) (r : Bool) (w : World) (h : bonsairef04_Valid.f k a0 = some r) :
    Calls Try.prog 71 #[.string a0] w fun e w' => e = .returned (.bool r) ∧ Drawn0 w w' := by
  have H : ((bonsairef04_First.f k a0).bind fun bt176 => (some (!bt176.2))) = some r := h
  clear h
  replace H := Option.bind_eq_some_iff.mp H
  obtain ⟨⟨t176, t177⟩, A20, H⟩ := H
  replace H : (some (!t177)) = some r := H
  have A2 := Aside0.mk A20
  clear A20
  obtain rfl := Option.some.inj H
  go_enter Try.func71, Try.ntmps71
  go_wp2_with (first | ((with_reducible refine gate_callee (f := 88) rfl ?_); refine goesL_ (some 7) rfl rfl Try.func88 (by kernel_rfl) rfl #[.string a0] rfl (by (try simp only [List.map_toArray, List.map_cons, List.map_nil]); first | done | rfl | (simp only [List.length_drop, List.length_take]; rfl)) ?_; (with_reducible refine (bonsairef04_First.calls k a0 t176 t177 _ A2.out).mono ?_); rintro e w' ⟨rfl, ⟨nd, rfl⟩⟩; refine ⟨_, rfl, ?_⟩))
  go_ret
  exact ⟨by first | rfl | (simp; done) | (simp [*]; done), by repeat (first | exact Drawn0.refl _ | apply Drawn0.step)⟩
end Go.Proofs.Ytfcndhajcikgiaa.B
namespace Go.Proofs.Ytfcndhajcikgiaa.B
open Go.RowKit Go.Proofs.Sp Go.Proofs.Fl Go.Proofs.YtfcndhajcikgiaaW.PrintWords Go.Proofs.YtfcndhajcikgiaaW.PrintLast Go.Proofs.YtfcndhajcikgiaaW.PrintMore
theorem bt_nat (s : ByteArray) (i : Nat) (h : i < s.size) : bt s (i : Int) = (s[i].toNat : Int) := by
  unfold bt; rw [dif_pos (by simpa using h)]; rfl
/-- Is there a byte from lo to hi at a place? -/
def inb (s : ByteArray) (i : Nat) (lo hi : Int) : Bool := decide (i < s.size) && (decide (lo ≤ bt s i) && decide (bt s i ≤ hi))
theorem in_f (s : ByteArray) (j : Int) (i : Nat) (lo hi : Int) (hj : j = i) : bonsairef04_in.f s j lo hi = some (inb s i lo hi) := by
  subst hj
  unfold bonsairef04_in.f inb
  have hr := bt_range s (i : Int)
  by_cases h : i < s.size
  · rw [if_pos (by omega), if_pos (by omega), decide_eq_true h, Bool.true_and]
    rw [show wrap64 (bt s i) = bt s i by unfold wrap64; omega]
    by_cases h1 : lo ≤ bt s i
    · rw [if_pos h1, decide_eq_true h1, Bool.true_and]
    · rw [if_neg h1, decide_eq_false h1, Bool.false_and]
  · rw [if_neg (by omega), decide_eq_false h, Bool.false_and]
theorem tail_inb (s : ByteArray) (k j lo hi : Nat) : tailOk (k + 1) lo hi (s.data.toList.drop j) = (inb s j lo hi && tailOk k 128 191 (s.data.toList.drop (j + 1))) := by
  by_cases h : j < s.size
  · rw [tail_step (by simpa using h)]
    unfold inb
    rw [decide_eq_true h, Bool.true_and, bt_nat s j h]
    congr 1
    have : (s.data.toList[j]'(by simpa using h)) = s[j] := rfl
    rw [this]
    congr 1
    · exact decide_eq_decide.2 (by omega)
    · exact decide_eq_decide.2 (by omega)
  · rw [List.drop_eq_nil_of_le (by simp; omega)]
    unfold inb
    rw [decide_eq_false h]; rfl
/-- What the sign at a place is long: none, where there is none. -/
def signS (s : ByteArray) (i : Nat) : Nat := match headS (bt s i).toNat with
  | none => 0
  | some (k, lo, hi) => if tailOk k lo hi (s.data.toList.drop (i + 1)) then 1 + k else 0
theorem sign_f (s : ByteArray) (i k : Nat) (hi : i < s.size) (hs : s.size ≤ 140737488355328) (hk : 2 ≤ k) : bonsairef04_sign.f k s i = some (signS s i : Int) := by
  obtain ⟨k, rfl⟩ : ∃ m, k = m + 2 := ⟨k - 2, by omega⟩
  have h1 : wrap64 ((i : Int) + 1) = ((i + 1 : Nat) : Int) := by unfold wrap64; omega
  have h2 : wrap64 ((i : Int) + 2) = ((i + 2 : Nat) : Int) := by unfold wrap64; omega
  have h3 : wrap64 ((i : Int) + 3) = ((i + 3 : Nat) : Int) := by unfold wrap64; omega
  have A0 : ∀ lo hi, bonsairef04_in.f s (i : Int) lo hi = some (inb s i lo hi) := fun lo hi => in_f _ _ _ _ _ rfl
  have A1 : ∀ lo hi, bonsairef04_in.f s (((i + 1 : Nat) : Int)) lo hi = some (inb s (i + 1) lo hi) := fun lo hi => in_f _ _ _ _ _ rfl
  have A2 : ∀ lo hi, bonsairef04_in.f s (((i + 2 : Nat) : Int)) lo hi = some (inb s (i + 2) lo hi) := fun lo hi => in_f _ _ _ _ _ rfl
  have A3 : ∀ lo hi, bonsairef04_in.f s (((i + 3 : Nat) : Int)) lo hi = some (inb s (i + 3) lo hi) := fun lo hi => in_f _ _ _ _ _ rfl
  obtain ⟨c, hc, hr⟩ : ∃ c : Nat, bt s i = c ∧ c ≤ 255 := ⟨(bt s i).toNat, by have := bt_range s (i : Int); omega, by have := bt_range s (i : Int); omega⟩
  have A : ∀ lo hi, inb s i lo hi = (decide (lo ≤ (c : Int)) && decide ((c : Int) ≤ hi)) := fun lo hh => by unfold inb; rw [decide_eq_true hi, Bool.true_and, hc]
  unfold signS
  rw [hc]
  simp only [bonsairef04_sign.f, bonsairef04_sign.j0, bonsairef04_sign.j1, h1, h2, h3, A0, A1, A2, A3, A, Option.bind_some, Int.toNat_natCast]
  have T0 : ∀ lo hh, tailOk 0 lo hh (s.data.toList.drop (i + 1)) = true := fun _ _ => rfl
  have T1 : ∀ (lo hh : Nat) (a b : Int), a = lo → b = hh → tailOk 1 lo hh (s.data.toList.drop (i + 1)) = inb s (i + 1) a b := fun lo hh a b e1 e2 => by
    rw [show (1 : Nat) = 0 + 1 from rfl, tail_inb, ← e1, ← e2]; simp [tailOk]
  have T2 : ∀ (lo hh : Nat) (a b : Int), a = lo → b = hh → tailOk 2 lo hh (s.data.toList.drop (i + 1)) = (inb s (i + 1) a b && inb s (i + 2) 128 191) := fun lo hh a b e1 e2 => by
    rw [show (2 : Nat) = 0 + 1 + 1 from rfl, tail_inb, tail_inb, ← e1, ← e2]; simp [tailOk]
  have T3 : ∀ (lo hh : Nat) (a b : Int), a = lo → b = hh → tailOk 3 lo hh (s.data.toList.drop (i + 1)) = (inb s (i + 1) a b && (inb s (i + 2) 128 191 && inb s (i + 3) 128 191)) := fun lo hh a b e1 e2 => by
    rw [show (3 : Nat) = 0 + 1 + 1 + 1 from rfl, tail_inb, tail_inb, tail_inb, ← e1, ← e2]; simp [tailOk]
  have P : ∀ {lo hh : Int}, lo ≤ (c : Int) ∧ (c : Int) ≤ hh → (decide (lo ≤ (c : Int)) && decide ((c : Int) ≤ hh)) = true := fun h => by rw [decide_eq_true h.1, decide_eq_true h.2]; rfl
  have N : ∀ {lo hh : Int}, ¬ (lo ≤ (c : Int) ∧ (c : Int) ≤ hh) → (decide (lo ≤ (c : Int)) && decide ((c : Int) ≤ hh)) = false := fun {lo hh} h => by
    rw [Bool.and_eq_false_iff]; by_cases h1 : lo ≤ (c : Int)
    · exact .inr (decide_eq_false (fun h2 => h ⟨h1, h2⟩))
    · exact .inl (decide_eq_false h1)
  clear A0 A1 A2 A3 A h1 h2 h3
  have hcase : (c < 128) ∨ (128 ≤ c ∧ c < 194) ∨ (194 ≤ c ∧ c < 224) ∨ (c = 224) ∨ (225 ≤ c ∧ c < 237) ∨ (c = 237) ∨ (238 ≤ c ∧ c < 240) ∨ (c = 240) ∨ (241 ≤ c ∧ c < 244) ∨ (c = 244) ∨ (245 ≤ c) := by omega
  rcases hcase with h | h | h | h | h | h | h | h | h | h | h
  · rw [show headS c = some (0, 128, 191) by unfold headS; repeat (first | rw [if_pos (by omega)] | rw [if_neg (by omega)])]
    have e0 : (decide ((0 : Int) ≤ (c : Int)) && decide ((c : Int) ≤ 127)) = true := P (by omega)
    have e194 : (decide ((194 : Int) ≤ (c : Int)) && decide ((c : Int) ≤ 223)) = false := N (by omega)
    have e224 : (decide ((224 : Int) ≤ (c : Int)) && decide ((c : Int) ≤ 224)) = false := N (by omega)
    have e225 : (decide ((225 : Int) ≤ (c : Int)) && decide ((c : Int) ≤ 236)) = false := N (by omega)
    have e237 : (decide ((237 : Int) ≤ (c : Int)) && decide ((c : Int) ≤ 237)) = false := N (by omega)
    have e238 : (decide ((238 : Int) ≤ (c : Int)) && decide ((c : Int) ≤ 239)) = false := N (by omega)
    have e240 : (decide ((240 : Int) ≤ (c : Int)) && decide ((c : Int) ≤ 240)) = false := N (by omega)
    have e241 : (decide ((241 : Int) ≤ (c : Int)) && decide ((c : Int) ≤ 243)) = false := N (by omega)
    have e244 : (decide ((244 : Int) ≤ (c : Int)) && decide ((c : Int) ≤ 244)) = false := N (by omega)
    simp only [e0, e194, e224, e225, e237, e238, e240, e241, e244, T0, Bool.false_eq_true, if_true, if_false, Option.bind_some]
    clear e0 e194 e224 e225 e237 e238 e240 e241 e244
    generalize inb s (i + 1) 128 191 = x1_128_191
    cases x1_128_191 <;> first | rfl | simp
  · rw [show headS c = none by unfold headS; repeat (first | rw [if_pos (by omega)] | rw [if_neg (by omega)])]
    have e0 : (decide ((0 : Int) ≤ (c : Int)) && decide ((c : Int) ≤ 127)) = false := N (by omega)
    have e194 : (decide ((194 : Int) ≤ (c : Int)) && decide ((c : Int) ≤ 223)) = false := N (by omega)
    have e224 : (decide ((224 : Int) ≤ (c : Int)) && decide ((c : Int) ≤ 224)) = false := N (by omega)
    have e225 : (decide ((225 : Int) ≤ (c : Int)) && decide ((c : Int) ≤ 236)) = false := N (by omega)
    have e237 : (decide ((237 : Int) ≤ (c : Int)) && decide ((c : Int) ≤ 237)) = false := N (by omega)
    have e238 : (decide ((238 : Int) ≤ (c : Int)) && decide ((c : Int) ≤ 239)) = false := N (by omega)
    have e240 : (decide ((240 : Int) ≤ (c : Int)) && decide ((c : Int) ≤ 240)) = false := N (by omega)
    have e241 : (decide ((241 : Int) ≤ (c : Int)) && decide ((c : Int) ≤ 243)) = false := N (by omega)
    have e244 : (decide ((244 : Int) ≤ (c : Int)) && decide ((c : Int) ≤ 244)) = false := N (by omega)
    simp only [e0, e194, e224, e225, e237, e238, e240, e241, e244, Bool.false_eq_true, if_true, if_false, Option.bind_some]
    clear e0 e194 e224 e225 e237 e238 e240 e241 e244
    generalize inb s (i + 1) 128 191 = x1_128_191
    generalize inb s (i + 2) 128 191 = x2_128_191
    generalize inb s (i + 3) 128 191 = x3_128_191
    cases x1_128_191 <;> cases x2_128_191 <;> cases x3_128_191 <;> first | rfl | simp
  · rw [show headS c = some (1, 128, 191) by unfold headS; repeat (first | rw [if_pos (by omega)] | rw [if_neg (by omega)])]
    have e0 : (decide ((0 : Int) ≤ (c : Int)) && decide ((c : Int) ≤ 127)) = false := N (by omega)
    have e194 : (decide ((194 : Int) ≤ (c : Int)) && decide ((c : Int) ≤ 223)) = true := P (by omega)
    have e224 : (decide ((224 : Int) ≤ (c : Int)) && decide ((c : Int) ≤ 224)) = false := N (by omega)
    have e225 : (decide ((225 : Int) ≤ (c : Int)) && decide ((c : Int) ≤ 236)) = false := N (by omega)
    have e237 : (decide ((237 : Int) ≤ (c : Int)) && decide ((c : Int) ≤ 237)) = false := N (by omega)
    have e238 : (decide ((238 : Int) ≤ (c : Int)) && decide ((c : Int) ≤ 239)) = false := N (by omega)
    have e240 : (decide ((240 : Int) ≤ (c : Int)) && decide ((c : Int) ≤ 240)) = false := N (by omega)
    have e241 : (decide ((241 : Int) ≤ (c : Int)) && decide ((c : Int) ≤ 243)) = false := N (by omega)
    have e244 : (decide ((244 : Int) ≤ (c : Int)) && decide ((c : Int) ≤ 244)) = false := N (by omega)
    simp only [e0, e194, e224, e225, e237, e238, e240, e241, e244, T1 128 191 128 191 rfl rfl, Bool.false_eq_true, if_true, if_false, Option.bind_some]
    clear e0 e194 e224 e225 e237 e238 e240 e241 e244
    generalize inb s (i + 1) 128 191 = x1_128_191
    generalize inb s (i + 2) 128 191 = x2_128_191
    generalize inb s (i + 3) 128 191 = x3_128_191
    cases x1_128_191 <;> cases x2_128_191 <;> cases x3_128_191 <;> first | rfl | simp
  · rw [show headS c = some (2, 160, 191) by unfold headS; repeat (first | rw [if_pos (by omega)] | rw [if_neg (by omega)])]
    have e0 : (decide ((0 : Int) ≤ (c : Int)) && decide ((c : Int) ≤ 127)) = false := N (by omega)
    have e194 : (decide ((194 : Int) ≤ (c : Int)) && decide ((c : Int) ≤ 223)) = false := N (by omega)
    have e224 : (decide ((224 : Int) ≤ (c : Int)) && decide ((c : Int) ≤ 224)) = true := P (by omega)
    have e225 : (decide ((225 : Int) ≤ (c : Int)) && decide ((c : Int) ≤ 236)) = false := N (by omega)
    have e237 : (decide ((237 : Int) ≤ (c : Int)) && decide ((c : Int) ≤ 237)) = false := N (by omega)
    have e238 : (decide ((238 : Int) ≤ (c : Int)) && decide ((c : Int) ≤ 239)) = false := N (by omega)
    have e240 : (decide ((240 : Int) ≤ (c : Int)) && decide ((c : Int) ≤ 240)) = false := N (by omega)
    have e241 : (decide ((241 : Int) ≤ (c : Int)) && decide ((c : Int) ≤ 243)) = false := N (by omega)
    have e244 : (decide ((244 : Int) ≤ (c : Int)) && decide ((c : Int) ≤ 244)) = false := N (by omega)
    simp only [e0, e194, e224, e225, e237, e238, e240, e241, e244, T2 160 191 160 191 rfl rfl, Bool.false_eq_true, if_true, if_false, Option.bind_some]
    clear e0 e194 e224 e225 e237 e238 e240 e241 e244
    generalize inb s (i + 1) 128 191 = x1_128_191
    generalize inb s (i + 1) 160 191 = x1_160_191
    generalize inb s (i + 2) 128 191 = x2_128_191
    generalize inb s (i + 3) 128 191 = x3_128_191
    cases x1_128_191 <;> cases x1_160_191 <;> cases x2_128_191 <;> cases x3_128_191 <;> first | rfl | simp
  · rw [show headS c = some (2, 128, 191) by unfold headS; repeat (first | rw [if_pos (by omega)] | rw [if_neg (by omega)])]
    have e0 : (decide ((0 : Int) ≤ (c : Int)) && decide ((c : Int) ≤ 127)) = false := N (by omega)
    have e194 : (decide ((194 : Int) ≤ (c : Int)) && decide ((c : Int) ≤ 223)) = false := N (by omega)
    have e224 : (decide ((224 : Int) ≤ (c : Int)) && decide ((c : Int) ≤ 224)) = false := N (by omega)
    have e225 : (decide ((225 : Int) ≤ (c : Int)) && decide ((c : Int) ≤ 236)) = true := P (by omega)
    have e237 : (decide ((237 : Int) ≤ (c : Int)) && decide ((c : Int) ≤ 237)) = false := N (by omega)
    have e238 : (decide ((238 : Int) ≤ (c : Int)) && decide ((c : Int) ≤ 239)) = false := N (by omega)
    have e240 : (decide ((240 : Int) ≤ (c : Int)) && decide ((c : Int) ≤ 240)) = false := N (by omega)
    have e241 : (decide ((241 : Int) ≤ (c : Int)) && decide ((c : Int) ≤ 243)) = false := N (by omega)
    have e244 : (decide ((244 : Int) ≤ (c : Int)) && decide ((c : Int) ≤ 244)) = false := N (by omega)
    simp only [e0, e194, e224, e225, e237, e238, e240, e241, e244, T2 128 191 128 191 rfl rfl, Bool.false_eq_true, if_true, if_false, Option.bind_some]
    clear e0 e194 e224 e225 e237 e238 e240 e241 e244
    generalize inb s (i + 1) 128 191 = x1_128_191
    generalize inb s (i + 2) 128 191 = x2_128_191
    generalize inb s (i + 3) 128 191 = x3_128_191
    cases x1_128_191 <;> cases x2_128_191 <;> cases x3_128_191 <;> first | rfl | simp
  · rw [show headS c = some (2, 128, 159) by unfold headS; repeat (first | rw [if_pos (by omega)] | rw [if_neg (by omega)])]
    have e0 : (decide ((0 : Int) ≤ (c : Int)) && decide ((c : Int) ≤ 127)) = false := N (by omega)
    have e194 : (decide ((194 : Int) ≤ (c : Int)) && decide ((c : Int) ≤ 223)) = false := N (by omega)
    have e224 : (decide ((224 : Int) ≤ (c : Int)) && decide ((c : Int) ≤ 224)) = false := N (by omega)
    have e225 : (decide ((225 : Int) ≤ (c : Int)) && decide ((c : Int) ≤ 236)) = false := N (by omega)
    have e237 : (decide ((237 : Int) ≤ (c : Int)) && decide ((c : Int) ≤ 237)) = true := P (by omega)
    have e238 : (decide ((238 : Int) ≤ (c : Int)) && decide ((c : Int) ≤ 239)) = false := N (by omega)
    have e240 : (decide ((240 : Int) ≤ (c : Int)) && decide ((c : Int) ≤ 240)) = false := N (by omega)
    have e241 : (decide ((241 : Int) ≤ (c : Int)) && decide ((c : Int) ≤ 243)) = false := N (by omega)
    have e244 : (decide ((244 : Int) ≤ (c : Int)) && decide ((c : Int) ≤ 244)) = false := N (by omega)
    simp only [e0, e194, e224, e225, e237, e238, e240, e241, e244, T2 128 159 128 159 rfl rfl, Bool.false_eq_true, if_true, if_false, Option.bind_some]
    clear e0 e194 e224 e225 e237 e238 e240 e241 e244
    generalize inb s (i + 1) 128 159 = x1_128_159
    generalize inb s (i + 1) 128 191 = x1_128_191
    generalize inb s (i + 2) 128 191 = x2_128_191
    generalize inb s (i + 3) 128 191 = x3_128_191
    cases x1_128_159 <;> cases x1_128_191 <;> cases x2_128_191 <;> cases x3_128_191 <;> first | rfl | simp
  · rw [show headS c = some (2, 128, 191) by unfold headS; repeat (first | rw [if_pos (by omega)] | rw [if_neg (by omega)])]
    have e0 : (decide ((0 : Int) ≤ (c : Int)) && decide ((c : Int) ≤ 127)) = false := N (by omega)
    have e194 : (decide ((194 : Int) ≤ (c : Int)) && decide ((c : Int) ≤ 223)) = false := N (by omega)
    have e224 : (decide ((224 : Int) ≤ (c : Int)) && decide ((c : Int) ≤ 224)) = false := N (by omega)
    have e225 : (decide ((225 : Int) ≤ (c : Int)) && decide ((c : Int) ≤ 236)) = false := N (by omega)
    have e237 : (decide ((237 : Int) ≤ (c : Int)) && decide ((c : Int) ≤ 237)) = false := N (by omega)
    have e238 : (decide ((238 : Int) ≤ (c : Int)) && decide ((c : Int) ≤ 239)) = true := P (by omega)
    have e240 : (decide ((240 : Int) ≤ (c : Int)) && decide ((c : Int) ≤ 240)) = false := N (by omega)
    have e241 : (decide ((241 : Int) ≤ (c : Int)) && decide ((c : Int) ≤ 243)) = false := N (by omega)
    have e244 : (decide ((244 : Int) ≤ (c : Int)) && decide ((c : Int) ≤ 244)) = false := N (by omega)
    simp only [e0, e194, e224, e225, e237, e238, e240, e241, e244, T2 128 191 128 191 rfl rfl, Bool.false_eq_true, if_true, if_false, Option.bind_some]
    clear e0 e194 e224 e225 e237 e238 e240 e241 e244
    generalize inb s (i + 1) 128 191 = x1_128_191
    generalize inb s (i + 2) 128 191 = x2_128_191
    generalize inb s (i + 3) 128 191 = x3_128_191
    cases x1_128_191 <;> cases x2_128_191 <;> cases x3_128_191 <;> first | rfl | simp
  · rw [show headS c = some (3, 144, 191) by unfold headS; repeat (first | rw [if_pos (by omega)] | rw [if_neg (by omega)])]
    have e0 : (decide ((0 : Int) ≤ (c : Int)) && decide ((c : Int) ≤ 127)) = false := N (by omega)
    have e194 : (decide ((194 : Int) ≤ (c : Int)) && decide ((c : Int) ≤ 223)) = false := N (by omega)
    have e224 : (decide ((224 : Int) ≤ (c : Int)) && decide ((c : Int) ≤ 224)) = false := N (by omega)
    have e225 : (decide ((225 : Int) ≤ (c : Int)) && decide ((c : Int) ≤ 236)) = false := N (by omega)
    have e237 : (decide ((237 : Int) ≤ (c : Int)) && decide ((c : Int) ≤ 237)) = false := N (by omega)
    have e238 : (decide ((238 : Int) ≤ (c : Int)) && decide ((c : Int) ≤ 239)) = false := N (by omega)
    have e240 : (decide ((240 : Int) ≤ (c : Int)) && decide ((c : Int) ≤ 240)) = true := P (by omega)
    have e241 : (decide ((241 : Int) ≤ (c : Int)) && decide ((c : Int) ≤ 243)) = false := N (by omega)
    have e244 : (decide ((244 : Int) ≤ (c : Int)) && decide ((c : Int) ≤ 244)) = false := N (by omega)
    simp only [e0, e194, e224, e225, e237, e238, e240, e241, e244, T3 144 191 144 191 rfl rfl, Bool.false_eq_true, if_true, if_false, Option.bind_some]
    clear e0 e194 e224 e225 e237 e238 e240 e241 e244
    generalize inb s (i + 1) 128 191 = x1_128_191
    generalize inb s (i + 1) 144 191 = x1_144_191
    generalize inb s (i + 2) 128 191 = x2_128_191
    generalize inb s (i + 3) 128 191 = x3_128_191
    cases x1_128_191 <;> cases x1_144_191 <;> cases x2_128_191 <;> cases x3_128_191 <;> first | rfl | simp
  · rw [show headS c = some (3, 128, 191) by unfold headS; repeat (first | rw [if_pos (by omega)] | rw [if_neg (by omega)])]
    have e0 : (decide ((0 : Int) ≤ (c : Int)) && decide ((c : Int) ≤ 127)) = false := N (by omega)
    have e194 : (decide ((194 : Int) ≤ (c : Int)) && decide ((c : Int) ≤ 223)) = false := N (by omega)
    have e224 : (decide ((224 : Int) ≤ (c : Int)) && decide ((c : Int) ≤ 224)) = false := N (by omega)
    have e225 : (decide ((225 : Int) ≤ (c : Int)) && decide ((c : Int) ≤ 236)) = false := N (by omega)
    have e237 : (decide ((237 : Int) ≤ (c : Int)) && decide ((c : Int) ≤ 237)) = false := N (by omega)
    have e238 : (decide ((238 : Int) ≤ (c : Int)) && decide ((c : Int) ≤ 239)) = false := N (by omega)
    have e240 : (decide ((240 : Int) ≤ (c : Int)) && decide ((c : Int) ≤ 240)) = false := N (by omega)
    have e241 : (decide ((241 : Int) ≤ (c : Int)) && decide ((c : Int) ≤ 243)) = true := P (by omega)
    have e244 : (decide ((244 : Int) ≤ (c : Int)) && decide ((c : Int) ≤ 244)) = false := N (by omega)
    simp only [e0, e194, e224, e225, e237, e238, e240, e241, e244, T3 128 191 128 191 rfl rfl, Bool.false_eq_true, if_true, if_false, Option.bind_some]
    clear e0 e194 e224 e225 e237 e238 e240 e241 e244
    generalize inb s (i + 1) 128 191 = x1_128_191
    generalize inb s (i + 2) 128 191 = x2_128_191
    generalize inb s (i + 3) 128 191 = x3_128_191
    cases x1_128_191 <;> cases x2_128_191 <;> cases x3_128_191 <;> first | rfl | simp
  · rw [show headS c = some (3, 128, 143) by unfold headS; repeat (first | rw [if_pos (by omega)] | rw [if_neg (by omega)])]
    have e0 : (decide ((0 : Int) ≤ (c : Int)) && decide ((c : Int) ≤ 127)) = false := N (by omega)
    have e194 : (decide ((194 : Int) ≤ (c : Int)) && decide ((c : Int) ≤ 223)) = false := N (by omega)
    have e224 : (decide ((224 : Int) ≤ (c : Int)) && decide ((c : Int) ≤ 224)) = false := N (by omega)
    have e225 : (decide ((225 : Int) ≤ (c : Int)) && decide ((c : Int) ≤ 236)) = false := N (by omega)
    have e237 : (decide ((237 : Int) ≤ (c : Int)) && decide ((c : Int) ≤ 237)) = false := N (by omega)
    have e238 : (decide ((238 : Int) ≤ (c : Int)) && decide ((c : Int) ≤ 239)) = false := N (by omega)
    have e240 : (decide ((240 : Int) ≤ (c : Int)) && decide ((c : Int) ≤ 240)) = false := N (by omega)
    have e241 : (decide ((241 : Int) ≤ (c : Int)) && decide ((c : Int) ≤ 243)) = false := N (by omega)
    have e244 : (decide ((244 : Int) ≤ (c : Int)) && decide ((c : Int) ≤ 244)) = true := P (by omega)
    simp only [e0, e194, e224, e225, e237, e238, e240, e241, e244, T3 128 143 128 143 rfl rfl, Bool.false_eq_true, if_true, if_false, Option.bind_some]
    clear e0 e194 e224 e225 e237 e238 e240 e241 e244
    generalize inb s (i + 1) 128 143 = x1_128_143
    generalize inb s (i + 1) 128 191 = x1_128_191
    generalize inb s (i + 2) 128 191 = x2_128_191
    generalize inb s (i + 3) 128 191 = x3_128_191
    cases x1_128_143 <;> cases x1_128_191 <;> cases x2_128_191 <;> cases x3_128_191 <;> first | rfl | simp
  · rw [show headS c = none by unfold headS; repeat (first | rw [if_pos (by omega)] | rw [if_neg (by omega)])]
    have e0 : (decide ((0 : Int) ≤ (c : Int)) && decide ((c : Int) ≤ 127)) = false := N (by omega)
    have e194 : (decide ((194 : Int) ≤ (c : Int)) && decide ((c : Int) ≤ 223)) = false := N (by omega)
    have e224 : (decide ((224 : Int) ≤ (c : Int)) && decide ((c : Int) ≤ 224)) = false := N (by omega)
    have e225 : (decide ((225 : Int) ≤ (c : Int)) && decide ((c : Int) ≤ 236)) = false := N (by omega)
    have e237 : (decide ((237 : Int) ≤ (c : Int)) && decide ((c : Int) ≤ 237)) = false := N (by omega)
    have e238 : (decide ((238 : Int) ≤ (c : Int)) && decide ((c : Int) ≤ 239)) = false := N (by omega)
    have e240 : (decide ((240 : Int) ≤ (c : Int)) && decide ((c : Int) ≤ 240)) = false := N (by omega)
    have e241 : (decide ((241 : Int) ≤ (c : Int)) && decide ((c : Int) ≤ 243)) = false := N (by omega)
    have e244 : (decide ((244 : Int) ≤ (c : Int)) && decide ((c : Int) ≤ 244)) = false := N (by omega)
    simp only [e0, e194, e224, e225, e237, e238, e240, e241, e244, Bool.false_eq_true, if_true, if_false, Option.bind_some]
    clear e0 e194 e224 e225 e237 e238 e240 e241 e244
    generalize inb s (i + 1) 128 191 = x1_128_191
    generalize inb s (i + 2) 128 191 = x2_128_191
    generalize inb s (i + 3) 128 191 = x3_128_191
    cases x1_128_191 <;> cases x2_128_191 <;> cases x3_128_191 <;> first | rfl | simp
/-- From a place on: is there a byte at which no sign begins? -/
theorem first_l (s : ByteArray) (hs : s.size ≤ 140737488355328) : ∀ (d i k : Nat), s.size - i ≤ d → i ≤ s.size → d + 3 ≤ k →
    ∃ r, bonsairef04_First.l0 k s i = some (r, !(decide (stopAt (s.data.toList.drop i) = s.size - i)))
  | 0, i, k, hd, hi, hk => by
    obtain ⟨k, rfl⟩ : ∃ m, k = m + 1 := ⟨k - 1, by omega⟩
    rw [List.drop_eq_nil_of_le (by simp; omega)]
    exact ⟨0, by rw [bonsairef04_First.l0, if_neg (by omega)]; simp [stopAt, show s.size - i = 0 by omega]⟩
  | d + 1, i, k, hd, hi, hk => by
    obtain ⟨k, rfl⟩ : ∃ m, k = m + 1 := ⟨k - 1, by omega⟩
    by_cases h : i < s.size
    · have hl : i < s.data.toList.length := by simpa using h
      have hst := stop_drop hl
      have hb : (bt s (i : Int)).toNat = (s.data.toList[i]'hl).toNat := by rw [bt_nat s i h]; rfl
      rw [bonsairef04_First.l0, if_pos (by omega), sign_f s i k h hs (by omega)]
      simp only [Option.bind_some]
      unfold signS
      rw [hb]
      cases hh : headS (s.data.toList[i]'hl).toNat with
      | none =>
        rw [hh] at hst
        rw [hst]
        refine ⟨i, ?_⟩
        simp only
        rw [if_pos (by simp), decide_eq_false (by omega)]; rfl
      | some q =>
        obtain ⟨n, lo, hh2⟩ := q
        rw [hh] at hst
        simp only at hst ⊢
        by_cases ht : tailOk n lo hh2 (s.data.toList.drop (i + 1)) = true
        · have hn := tailOk_len _ _ _ _ ht
          simp only [List.length_drop] at hn
          have hn2 : n ≤ s.size - (i + 1) := by simpa using hn
          rw [if_pos ht] at hst ⊢
          rw [if_neg (by omega), show wrap64 ((i : Int) + ((1 + n : Nat) : Int)) = ((i + 1 + n : Nat) : Int) by unfold wrap64; omega]
          obtain ⟨r, hr⟩ := first_l s hs d (i + 1 + n) k (by omega) (by omega) (by omega)
          refine ⟨r, ?_⟩
          rw [hr, hst]
          congr 3
          exact decide_eq_decide.2 (by omega)
        · rw [if_neg ht] at hst ⊢
          refine ⟨i, ?_⟩
          rw [if_pos (by simp), hst, decide_eq_false (by omega)]; rfl
    · rw [List.drop_eq_nil_of_le (by simp; omega)]
      exact ⟨0, by rw [bonsairef04_First.l0, if_neg (by omega)]; simp [stopAt, show s.size - i = 0 by omega]⟩
theorem valid_f (s : ByteArray) (k : Nat) (hs : s.size ≤ 140737488355328) (hk : s.size + 3 ≤ k) : bonsairef04_Valid.f k s = some (validS s.data.toList) := by
  obtain ⟨r, hr⟩ := first_l s hs s.size 0 k (by omega) (by omega) hk
  unfold bonsairef04_Valid.f bonsairef04_First.f
  have hr' : bonsairef04_First.l0 k s 0 = some (r, !(decide (stopAt s.data.toList = s.size))) := by simpa using hr
  rw [hr']
  simp only [Option.bind_some, Bool.not_not]
  unfold validS
  congr 1
end Go.Proofs.Ytfcndhajcikgiaa.B
namespace Go.Proofs.Ytfcndhajcikgiaa.B
open Go.RowKit Go.Proofs.YtfcndhajcikgiaaW.PrintWords Go.Proofs.YtfcndhajcikgiaaW.PrintLast Go.Proofs.YtfcndhajcikgiaaW.PrintMore
def bonsairef13_Time.f (a0_0 : Int) (a0_1 : Int) : Option (Bool) := if a0_0 ≥ 1 then (if a0_0 ≤ 4611686018427387903 then (if a0_1 ≥ 1 then (some (decide (a0_1 ≤ 255))) else (some false)) else (some false)) else (some false)
set_option maxHeartbeats 8000000 in
set_option maxRecDepth 100000 in
theorem bonsairef13_Time.calls (a0_0 : Int) (a0_1 : Int) (r : Bool) (w : World) (h : bonsairef13_Time.f a0_0 a0_1 = some r) :
    Calls Try.prog 72 #[.agg #[.int .i64 a0_0, .int .i64 a0_1]] w fun e w' => e = .returned (.bool r) ∧ Below w.heap.size w w' := by
  have hu27 := Try.underlying27
  have HB := Aside0.mk (Below.refl w.heap.size w)
  have H : (if a0_0 ≥ 1 then (if a0_0 ≤ 4611686018427387903 then (if a0_1 ≥ 1 then (some (decide (a0_1 ≤ 255))) else (some false)) else (some false)) else (some false)) = some r := h
  clear h
  by_cases c2 : a0_0 ≥ 1
  · rw [if_pos c2] at H
    have c2b0 : decide (1 ≤ a0_0) = true := decide_eq_true c2
    clear c2
    by_cases c3 : a0_0 ≤ 4611686018427387903
    · rw [if_pos c3] at H
      have c3b0 : decide (a0_0 ≤ 4611686018427387903) = true := decide_eq_true c3
      clear c3
      by_cases c4 : a0_1 ≥ 1
      · rw [if_pos c4] at H
        have c4b0 : decide (1 ≤ a0_1) = true := decide_eq_true c4
        clear c4
        obtain rfl := Option.some.inj H
        go_enter Try.func72, Try.ntmps72
        go_wp2_with (first | ((with_reducible refine gate_dst (N := 1) rfl ?_); refine box_event ?hg (N := 1) ?hd (cs := #[.int .i64 a0_0, .int .i64 a0_1]) (t := 27) ?hr ?_; (case hd => rfl); (case hg => rfl); (case hr => first | (go_simp; done) | (go_simp; rfl)); intro gb126 hg w5 hbox hb; have n0_ := Aside0.mk (below_step (by repeat (first | (with_reducible first | exact HB.out | apply below_alloc | apply pw_below_drewN | apply below_drew1) | exact HB.out)) hb); have n1_ := Aside0.mk (hbox); have n2_ := Aside0.mk ((by rw [hg]; exact (below_size (by repeat (first | (with_reducible first | exact HB.out | apply below_alloc | apply pw_below_drewN | apply below_drew1) | exact HB.out))) : w.heap.size ≤ gb126)); have n3_ := Aside0.mk ((by rw [hg]; exact (below_size (by repeat (first | (with_reducible first | exact HB.out | apply below_alloc | apply pw_below_drewN | apply below_drew1) | exact HB.out))) : w.heap.size ≤ gb126)); clear HB; have HB := n0_; have BK126 := n1_; have GW126 := n2_; have GE126 := n3_; clear n0_ n1_ n2_ n3_; clear hb hbox hg; have hcz6_0 : w5.cell? ⟨gb126, 0, none⟩ = some (.int .i64 a0_0) := (blk_cell BK126.out 0).trans rfl; have hcz6_1 : w5.cell? ⟨gb126, 1, none⟩ = some (.int .i64 a0_1) := (blk_cell BK126.out 1).trans rfl; have hfz6_0 := blk_frozen BK126.out 0; have hfz6_1 := blk_frozen BK126.out 1))
        go_ret
        exact ⟨by first | rfl | (simp [errW_none, errW_some] <;> rfl) | (simp [*, errW_none, errW_some] <;> rfl), by repeat (first | (with_reducible first | exact HB.out | apply below_alloc | apply pw_below_drewN | apply below_drew1 | refine below_set ?_ GE126.out) | exact HB.out)⟩
      · rw [if_neg c4] at H
        have c4b0 : decide (1 ≤ a0_1) = false := decide_eq_false c4
        clear c4
        obtain rfl := Option.some.inj H
        go_enter Try.func72, Try.ntmps72
        go_wp2_with (first | ((with_reducible refine gate_dst (N := 1) rfl ?_); refine box_event ?hg (N := 1) ?hd (cs := #[.int .i64 a0_0, .int .i64 a0_1]) (t := 27) ?hr ?_; (case hd => rfl); (case hg => rfl); (case hr => first | (go_simp; done) | (go_simp; rfl)); intro gb126 hg w7 hbox hb; have n0_ := Aside0.mk (below_step (by repeat (first | (with_reducible first | exact HB.out | apply below_alloc | apply pw_below_drewN | apply below_drew1) | exact HB.out)) hb); have n1_ := Aside0.mk (hbox); have n2_ := Aside0.mk ((by rw [hg]; exact (below_size (by repeat (first | (with_reducible first | exact HB.out | apply below_alloc | apply pw_below_drewN | apply below_drew1) | exact HB.out))) : w.heap.size ≤ gb126)); have n3_ := Aside0.mk ((by rw [hg]; exact (below_size (by repeat (first | (with_reducible first | exact HB.out | apply below_alloc | apply pw_below_drewN | apply below_drew1) | exact HB.out))) : w.heap.size ≤ gb126)); clear HB; have HB := n0_; have BK126 := n1_; have GW126 := n2_; have GE126 := n3_; clear n0_ n1_ n2_ n3_; clear hb hbox hg; have hcz8_0 : w7.cell? ⟨gb126, 0, none⟩ = some (.int .i64 a0_0) := (blk_cell BK126.out 0).trans rfl; have hcz8_1 : w7.cell? ⟨gb126, 1, none⟩ = some (.int .i64 a0_1) := (blk_cell BK126.out 1).trans rfl; have hfz8_0 := blk_frozen BK126.out 0; have hfz8_1 := blk_frozen BK126.out 1))
        go_ret
        exact ⟨by first | rfl | (simp [errW_none, errW_some] <;> rfl) | (simp [*, errW_none, errW_some] <;> rfl), by repeat (first | (with_reducible first | exact HB.out | apply below_alloc | apply pw_below_drewN | apply below_drew1 | refine below_set ?_ GE126.out) | exact HB.out)⟩
    · rw [if_neg c3] at H
      have c3b0 : decide (a0_0 ≤ 4611686018427387903) = false := decide_eq_false c3
      clear c3
      obtain rfl := Option.some.inj H
      go_enter Try.func72, Try.ntmps72
      go_wp2_with (first | ((with_reducible refine gate_dst (N := 1) rfl ?_); refine box_event ?hg (N := 1) ?hd (cs := #[.int .i64 a0_0, .int .i64 a0_1]) (t := 27) ?hr ?_; (case hd => rfl); (case hg => rfl); (case hr => first | (go_simp; done) | (go_simp; rfl)); intro gb126 hg w9 hbox hb; have n0_ := Aside0.mk (below_step (by repeat (first | (with_reducible first | exact HB.out | apply below_alloc | apply pw_below_drewN | apply below_drew1) | exact HB.out)) hb); have n1_ := Aside0.mk (hbox); have n2_ := Aside0.mk ((by rw [hg]; exact (below_size (by repeat (first | (with_reducible first | exact HB.out | apply below_alloc | apply pw_below_drewN | apply below_drew1) | exact HB.out))) : w.heap.size ≤ gb126)); have n3_ := Aside0.mk ((by rw [hg]; exact (below_size (by repeat (first | (with_reducible first | exact HB.out | apply below_alloc | apply pw_below_drewN | apply below_drew1) | exact HB.out))) : w.heap.size ≤ gb126)); clear HB; have HB := n0_; have BK126 := n1_; have GW126 := n2_; have GE126 := n3_; clear n0_ n1_ n2_ n3_; clear hb hbox hg; have hcz10_0 : w9.cell? ⟨gb126, 0, none⟩ = some (.int .i64 a0_0) := (blk_cell BK126.out 0).trans rfl; have hcz10_1 : w9.cell? ⟨gb126, 1, none⟩ = some (.int .i64 a0_1) := (blk_cell BK126.out 1).trans rfl; have hfz10_0 := blk_frozen BK126.out 0; have hfz10_1 := blk_frozen BK126.out 1))
      go_ret
      exact ⟨by first | rfl | (simp [errW_none, errW_some] <;> rfl) | (simp [*, errW_none, errW_some] <;> rfl), by repeat (first | (with_reducible first | exact HB.out | apply below_alloc | apply pw_below_drewN | apply below_drew1 | refine below_set ?_ GE126.out) | exact HB.out)⟩
  · rw [if_neg c2] at H
    have c2b0 : decide (1 ≤ a0_0) = false := decide_eq_false c2
    clear c2
    obtain rfl := Option.some.inj H
    go_enter Try.func72, Try.ntmps72
    go_wp2_with (first | ((with_reducible refine gate_dst (N := 1) rfl ?_); refine box_event ?hg (N := 1) ?hd (cs := #[.int .i64 a0_0, .int .i64 a0_1]) (t := 27) ?hr ?_; (case hd => rfl); (case hg => rfl); (case hr => first | (go_simp; done) | (go_simp; rfl)); intro gb126 hg w11 hbox hb; have n0_ := Aside0.mk (below_step (by repeat (first | (with_reducible first | exact HB.out | apply below_alloc | apply pw_below_drewN | apply below_drew1) | exact HB.out)) hb); have n1_ := Aside0.mk (hbox); have n2_ := Aside0.mk ((by rw [hg]; exact (below_size (by repeat (first | (with_reducible first | exact HB.out | apply below_alloc | apply pw_below_drewN | apply below_drew1) | exact HB.out))) : w.heap.size ≤ gb126)); have n3_ := Aside0.mk ((by rw [hg]; exact (below_size (by repeat (first | (with_reducible first | exact HB.out | apply below_alloc | apply pw_below_drewN | apply below_drew1) | exact HB.out))) : w.heap.size ≤ gb126)); clear HB; have HB := n0_; have BK126 := n1_; have GW126 := n2_; have GE126 := n3_; clear n0_ n1_ n2_ n3_; clear hb hbox hg; have hcz12_0 : w11.cell? ⟨gb126, 0, none⟩ = some (.int .i64 a0_0) := (blk_cell BK126.out 0).trans rfl; have hcz12_1 : w11.cell? ⟨gb126, 1, none⟩ = some (.int .i64 a0_1) := (blk_cell BK126.out 1).trans rfl; have hfz12_0 := blk_frozen BK126.out 0; have hfz12_1 := blk_frozen BK126.out 1))
    go_ret
    exact ⟨by first | rfl | (simp [errW_none, errW_some] <;> rfl) | (simp [*, errW_none, errW_some] <;> rfl), by repeat (first | (with_reducible first | exact HB.out | apply below_alloc | apply pw_below_drewN | apply below_drew1 | refine below_set ?_ GE126.out) | exact HB.out)⟩
end Go.Proofs.Ytfcndhajcikgiaa.B
namespace Go.Proofs.Ytfcndhajcikgiaa.B
open Go.RowKit Go.Proofs.YtfcndhajcikgiaaW.PrintWords Go.Proofs.YtfcndhajcikgiaaW.PrintLast Go.Proofs.YtfcndhajcikgiaaW.PrintMore
def bonsairef12_One.f (k : Nat) (a0_0 : Int) (a0_1 : Int) (a0_2 : ByteArray) (a0_3 : Nat) : Option (Bool) := if a0_0 ≥ 1 then (if a0_0 ≤ 2147483647 then (if a0_1 ≥ 0 then (if a0_1 ≤ 2147483647 then (if (a0_2.size : Int) ≤ 64 then ((bonsairef04_Valid.f k a0_2).bind fun t179 => (some t179)) else (some false)) else (some false)) else (some false)) else (some false)) else (some false)
theorem bonsairef12_One.mono : ∀ a0 a1 a2 a3 k, LeO (bonsairef12_One.f k a0 a1 a2 a3) (bonsairef12_One.f (k + 1) a0 a1 a2 a3) := by
  intro a0 a1 a2 a3 k
  unfold bonsairef12_One.f
  repeat' first
      | (with_reducible exact bonsairef04_Valid.mono _ _)
      | (with_reducible exact LeO.refl _)
      | (with_reducible exact LeO.none _)
      | (with_reducible refine LeO.ite ?_ ?_)
      | (with_reducible refine LeO.bind ?_ (fun _ => ?_))
      | exact bonsairef04_Valid.mono _ _
      | exact LeO.none _
      | refine LeO.ite ?_ ?_
      | refine LeO.bind ?_ (fun _ => ?_)
set_option maxHeartbeats 8000000 in
set_option maxRecDepth 100000 in
theorem bonsairef12_One.calls (k : Nat) (a0_0 : Int) (a0_1 : Int) (a0_2 : ByteArray) (a0_3 : Nat) (r : Bool) (w : World) (h : bonsairef12_One.f k a0_0 a0_1 a0_2 a0_3 = some r) :
    Calls Try.prog 73 #[.agg #[.int .i64 a0_0, .int .i64 a0_1, .string a0_2, .float .f64 a0_3]] w fun e w' => e = .returned (.bool r) ∧ Below w.heap.size w w' := by
  have hu96 := Try.underlying96
  have HB := Aside0.mk (Below.refl w.heap.size w)
  have H : (if a0_0 ≥ 1 then (if a0_0 ≤ 2147483647 then (if a0_1 ≥ 0 then (if a0_1 ≤ 2147483647 then (if (a0_2.size : Int) ≤ 64 then ((bonsairef04_Valid.f k a0_2).bind fun t179 => (some t179)) else (some false)) else (some false)) else (some false)) else (some false)) else (some false)) = some r := h
  clear h
  by_cases c2 : a0_0 ≥ 1
  · rw [if_pos c2] at H
    have c2b0 : decide (1 ≤ a0_0) = true := decide_eq_true c2
    clear c2
    by_cases c3 : a0_0 ≤ 2147483647
    · rw [if_pos c3] at H
      have c3b0 : decide (a0_0 ≤ 2147483647) = true := decide_eq_true c3
      clear c3
      by_cases c4 : a0_1 ≥ 0
      · rw [if_pos c4] at H
        have c4b0 : decide (0 ≤ a0_1) = true := decide_eq_true c4
        clear c4
        by_cases c5 : a0_1 ≤ 2147483647
        · rw [if_pos c5] at H
          have c5b0 : decide (a0_1 ≤ 2147483647) = true := decide_eq_true c5
          clear c5
          by_cases c6 : (a0_2.size : Int) ≤ 64
          · rw [if_pos c6] at H
            have c6b0 : decide ((a0_2.size : Int) ≤ 64) = true := decide_eq_true c6
            have c6b1 : decide (a0_2.size ≤ 64) = true := decide_eq_true (by omega)
            clear c6
            replace H := Option.bind_eq_some_iff.mp H
            obtain ⟨t179, A70, H⟩ := H
            replace H : (some t179) = some r := H
            have A7 := Aside0.mk A70
            clear A70
            obtain rfl := Option.some.inj H
            go_enter Try.func73, Try.ntmps73
            go_wp2_with (first | ((with_reducible refine gate_dst (N := 1) rfl ?_); (try (refine gate_guard (by rfl) ?_; dsimp only)); refine box_event ?hg (N := 1) ?hd (cs := #[.int .i64 a0_0, .int .i64 a0_1, .string a0_2, .float .f64 a0_3]) (t := 96) ?hr ?_; (case hd => rfl); (case hg => rfl); (case hr => first | (go_simp; done) | (go_simp; rfl)); intro gb178 hg w8 hbox hb; have n0_ := Aside0.mk (below_step (by repeat (first | (with_reducible first | exact HB.out | apply below_alloc | apply pw_below_drewN | apply below_drew1) | exact HB.out)) hb); have n1_ := Aside0.mk (hbox); have n2_ := Aside0.mk ((by rw [hg]; exact (below_size (by repeat (first | (with_reducible first | exact HB.out | apply below_alloc | apply pw_below_drewN | apply below_drew1) | exact HB.out))) : w.heap.size ≤ gb178)); have n3_ := Aside0.mk ((by rw [hg]; exact (below_size (by repeat (first | (with_reducible first | exact HB.out | apply below_alloc | apply pw_below_drewN | apply below_drew1) | exact HB.out))) : w.heap.size ≤ gb178)); clear HB; have HB := n0_; have BK178 := n1_; have GW178 := n2_; have GE178 := n3_; clear n0_ n1_ n2_ n3_; clear hb hbox hg; have hcz9_0 : w8.cell? ⟨gb178, 0, none⟩ = some (.int .i64 a0_0) := (blk_cell BK178.out 0).trans rfl; have hcz9_1 : w8.cell? ⟨gb178, 1, none⟩ = some (.int .i64 a0_1) := (blk_cell BK178.out 1).trans rfl; have hcz9_2 : w8.cell? ⟨gb178, 2, none⟩ = some (.string a0_2) := (blk_cell BK178.out 2).trans rfl; have hcz9_3 : w8.cell? ⟨gb178, 3, none⟩ = some (.float .f64 a0_3) := (blk_cell BK178.out 3).trans rfl; have hfz9_0 := blk_frozen BK178.out 0; have hfz9_1 := blk_frozen BK178.out 1; have hfz9_2 := blk_frozen BK178.out 2; have hfz9_3 := blk_frozen BK178.out 3) | (go_at_call 71; (with_reducible refine (bonsairef04_Valid.calls k a0_2 t179 _ A7.out).mono ?_); rintro e w' ⟨rfl, ⟨nd, rfl⟩⟩))
            go_ret
            exact ⟨by first | rfl | (simp [errW_none, errW_some] <;> rfl) | (simp [*, errW_none, errW_some] <;> rfl), by repeat (first | (with_reducible first | exact HB.out | apply below_alloc | apply pw_below_drewN | apply below_drew1 | refine below_set ?_ GE178.out) | exact HB.out)⟩
          · rw [if_neg c6] at H
            have c6b0 : decide ((a0_2.size : Int) ≤ 64) = false := decide_eq_false c6
            have c6b1 : decide (a0_2.size ≤ 64) = false := decide_eq_false (by omega)
            clear c6
            obtain rfl := Option.some.inj H
            go_enter Try.func73, Try.ntmps73
            go_wp2_with (first | ((with_reducible refine gate_dst (N := 1) rfl ?_); (try (refine gate_guard (by rfl) ?_; dsimp only)); refine box_event ?hg (N := 1) ?hd (cs := #[.int .i64 a0_0, .int .i64 a0_1, .string a0_2, .float .f64 a0_3]) (t := 96) ?hr ?_; (case hd => rfl); (case hg => rfl); (case hr => first | (go_simp; done) | (go_simp; rfl)); intro gb178 hg w10 hbox hb; have n0_ := Aside0.mk (below_step (by repeat (first | (with_reducible first | exact HB.out | apply below_alloc | apply pw_below_drewN | apply below_drew1) | exact HB.out)) hb); have n1_ := Aside0.mk (hbox); have n2_ := Aside0.mk ((by rw [hg]; exact (below_size (by repeat (first | (with_reducible first | exact HB.out | apply below_alloc | apply pw_below_drewN | apply below_drew1) | exact HB.out))) : w.heap.size ≤ gb178)); have n3_ := Aside0.mk ((by rw [hg]; exact (below_size (by repeat (first | (with_reducible first | exact HB.out | apply below_alloc | apply pw_below_drewN | apply below_drew1) | exact HB.out))) : w.heap.size ≤ gb178)); clear HB; have HB := n0_; have BK178 := n1_; have GW178 := n2_; have GE178 := n3_; clear n0_ n1_ n2_ n3_; clear hb hbox hg; have hcz11_0 : w10.cell? ⟨gb178, 0, none⟩ = some (.int .i64 a0_0) := (blk_cell BK178.out 0).trans rfl; have hcz11_1 : w10.cell? ⟨gb178, 1, none⟩ = some (.int .i64 a0_1) := (blk_cell BK178.out 1).trans rfl; have hcz11_2 : w10.cell? ⟨gb178, 2, none⟩ = some (.string a0_2) := (blk_cell BK178.out 2).trans rfl; have hcz11_3 : w10.cell? ⟨gb178, 3, none⟩ = some (.float .f64 a0_3) := (blk_cell BK178.out 3).trans rfl; have hfz11_0 := blk_frozen BK178.out 0; have hfz11_1 := blk_frozen BK178.out 1; have hfz11_2 := blk_frozen BK178.out 2; have hfz11_3 := blk_frozen BK178.out 3))
            go_ret
            exact ⟨by first | rfl | (simp [errW_none, errW_some] <;> rfl) | (simp [*, errW_none, errW_some] <;> rfl), by repeat (first | (with_reducible first | exact HB.out | apply below_alloc | apply pw_below_drewN | apply below_drew1 | refine below_set ?_ GE178.out) | exact HB.out)⟩
        · rw [if_neg c5] at H
          have c5b0 : decide (a0_1 ≤ 2147483647) = false := decide_eq_false c5
          clear c5
          obtain rfl := Option.some.inj H
          go_enter Try.func73, Try.ntmps73
          go_wp2_with (first | ((with_reducible refine gate_dst (N := 1) rfl ?_); (try (refine gate_guard (by rfl) ?_; dsimp only)); refine box_event ?hg (N := 1) ?hd (cs := #[.int .i64 a0_0, .int .i64 a0_1, .string a0_2, .float .f64 a0_3]) (t := 96) ?hr ?_; (case hd => rfl); (case hg => rfl); (case hr => first | (go_simp; done) | (go_simp; rfl)); intro gb178 hg w12 hbox hb; have n0_ := Aside0.mk (below_step (by repeat (first | (with_reducible first | exact HB.out | apply below_alloc | apply pw_below_drewN | apply below_drew1) | exact HB.out)) hb); have n1_ := Aside0.mk (hbox); have n2_ := Aside0.mk ((by rw [hg]; exact (below_size (by repeat (first | (with_reducible first | exact HB.out | apply below_alloc | apply pw_below_drewN | apply below_drew1) | exact HB.out))) : w.heap.size ≤ gb178)); have n3_ := Aside0.mk ((by rw [hg]; exact (below_size (by repeat (first | (with_reducible first | exact HB.out | apply below_alloc | apply pw_below_drewN | apply below_drew1) | exact HB.out))) : w.heap.size ≤ gb178)); clear HB; have HB := n0_; have BK178 := n1_; have GW178 := n2_; have GE178 := n3_; clear n0_ n1_ n2_ n3_; clear hb hbox hg; have hcz13_0 : w12.cell? ⟨gb178, 0, none⟩ = some (.int .i64 a0_0) := (blk_cell BK178.out 0).trans rfl; have hcz13_1 : w12.cell? ⟨gb178, 1, none⟩ = some (.int .i64 a0_1) := (blk_cell BK178.out 1).trans rfl; have hcz13_2 : w12.cell? ⟨gb178, 2, none⟩ = some (.string a0_2) := (blk_cell BK178.out 2).trans rfl; have hcz13_3 : w12.cell? ⟨gb178, 3, none⟩ = some (.float .f64 a0_3) := (blk_cell BK178.out 3).trans rfl; have hfz13_0 := blk_frozen BK178.out 0; have hfz13_1 := blk_frozen BK178.out 1; have hfz13_2 := blk_frozen BK178.out 2; have hfz13_3 := blk_frozen BK178.out 3))
          go_ret
          exact ⟨by first | rfl | (simp [errW_none, errW_some] <;> rfl) | (simp [*, errW_none, errW_some] <;> rfl), by repeat (first | (with_reducible first | exact HB.out | apply below_alloc | apply pw_below_drewN | apply below_drew1 | refine below_set ?_ GE178.out) | exact HB.out)⟩
      · rw [if_neg c4] at H
        have c4b0 : decide (0 ≤ a0_1) = false := decide_eq_false c4
        clear c4
        obtain rfl := Option.some.inj H
        go_enter Try.func73, Try.ntmps73
        go_wp2_with (first | ((with_reducible refine gate_dst (N := 1) rfl ?_); (try (refine gate_guard (by rfl) ?_; dsimp only)); refine box_event ?hg (N := 1) ?hd (cs := #[.int .i64 a0_0, .int .i64 a0_1, .string a0_2, .float .f64 a0_3]) (t := 96) ?hr ?_; (case hd => rfl); (case hg => rfl); (case hr => first | (go_simp; done) | (go_simp; rfl)); intro gb178 hg w14 hbox hb; have n0_ := Aside0.mk (below_step (by repeat (first | (with_reducible first | exact HB.out | apply below_alloc | apply pw_below_drewN | apply below_drew1) | exact HB.out)) hb); have n1_ := Aside0.mk (hbox); have n2_ := Aside0.mk ((by rw [hg]; exact (below_size (by repeat (first | (with_reducible first | exact HB.out | apply below_alloc | apply pw_below_drewN | apply below_drew1) | exact HB.out))) : w.heap.size ≤ gb178)); have n3_ := Aside0.mk ((by rw [hg]; exact (below_size (by repeat (first | (with_reducible first | exact HB.out | apply below_alloc | apply pw_below_drewN | apply below_drew1) | exact HB.out))) : w.heap.size ≤ gb178)); clear HB; have HB := n0_; have BK178 := n1_; have GW178 := n2_; have GE178 := n3_; clear n0_ n1_ n2_ n3_; clear hb hbox hg; have hcz15_0 : w14.cell? ⟨gb178, 0, none⟩ = some (.int .i64 a0_0) := (blk_cell BK178.out 0).trans rfl; have hcz15_1 : w14.cell? ⟨gb178, 1, none⟩ = some (.int .i64 a0_1) := (blk_cell BK178.out 1).trans rfl; have hcz15_2 : w14.cell? ⟨gb178, 2, none⟩ = some (.string a0_2) := (blk_cell BK178.out 2).trans rfl; have hcz15_3 : w14.cell? ⟨gb178, 3, none⟩ = some (.float .f64 a0_3) := (blk_cell BK178.out 3).trans rfl; have hfz15_0 := blk_frozen BK178.out 0; have hfz15_1 := blk_frozen BK178.out 1; have hfz15_2 := blk_frozen BK178.out 2; have hfz15_3 := blk_frozen BK178.out 3))
        go_ret
        exact ⟨by first | rfl | (simp [errW_none, errW_some] <;> rfl) | (simp [*, errW_none, errW_some] <;> rfl), by repeat (first | (with_reducible first | exact HB.out | apply below_alloc | apply pw_below_drewN | apply below_drew1 | refine below_set ?_ GE178.out) | exact HB.out)⟩
    · rw [if_neg c3] at H
      have c3b0 : decide (a0_0 ≤ 2147483647) = false := decide_eq_false c3
      clear c3
      obtain rfl := Option.some.inj H
      go_enter Try.func73, Try.ntmps73
      go_wp2_with (first | ((with_reducible refine gate_dst (N := 1) rfl ?_); (try (refine gate_guard (by rfl) ?_; dsimp only)); refine box_event ?hg (N := 1) ?hd (cs := #[.int .i64 a0_0, .int .i64 a0_1, .string a0_2, .float .f64 a0_3]) (t := 96) ?hr ?_; (case hd => rfl); (case hg => rfl); (case hr => first | (go_simp; done) | (go_simp; rfl)); intro gb178 hg w16 hbox hb; have n0_ := Aside0.mk (below_step (by repeat (first | (with_reducible first | exact HB.out | apply below_alloc | apply pw_below_drewN | apply below_drew1) | exact HB.out)) hb); have n1_ := Aside0.mk (hbox); have n2_ := Aside0.mk ((by rw [hg]; exact (below_size (by repeat (first | (with_reducible first | exact HB.out | apply below_alloc | apply pw_below_drewN | apply below_drew1) | exact HB.out))) : w.heap.size ≤ gb178)); have n3_ := Aside0.mk ((by rw [hg]; exact (below_size (by repeat (first | (with_reducible first | exact HB.out | apply below_alloc | apply pw_below_drewN | apply below_drew1) | exact HB.out))) : w.heap.size ≤ gb178)); clear HB; have HB := n0_; have BK178 := n1_; have GW178 := n2_; have GE178 := n3_; clear n0_ n1_ n2_ n3_; clear hb hbox hg; have hcz17_0 : w16.cell? ⟨gb178, 0, none⟩ = some (.int .i64 a0_0) := (blk_cell BK178.out 0).trans rfl; have hcz17_1 : w16.cell? ⟨gb178, 1, none⟩ = some (.int .i64 a0_1) := (blk_cell BK178.out 1).trans rfl; have hcz17_2 : w16.cell? ⟨gb178, 2, none⟩ = some (.string a0_2) := (blk_cell BK178.out 2).trans rfl; have hcz17_3 : w16.cell? ⟨gb178, 3, none⟩ = some (.float .f64 a0_3) := (blk_cell BK178.out 3).trans rfl; have hfz17_0 := blk_frozen BK178.out 0; have hfz17_1 := blk_frozen BK178.out 1; have hfz17_2 := blk_frozen BK178.out 2; have hfz17_3 := blk_frozen BK178.out 3))
      go_ret
      exact ⟨by first | rfl | (simp [errW_none, errW_some] <;> rfl) | (simp [*, errW_none, errW_some] <;> rfl), by repeat (first | (with_reducible first | exact HB.out | apply below_alloc | apply pw_below_drewN | apply below_drew1 | refine below_set ?_ GE178.out) | exact HB.out)⟩
  · rw [if_neg c2] at H
    have c2b0 : decide (1 ≤ a0_0) = false := decide_eq_false c2
    clear c2
    obtain rfl := Option.some.inj H
    go_enter Try.func73, Try.ntmps73
    go_wp2_with (first | ((with_reducible refine gate_dst (N := 1) rfl ?_); (try (refine gate_guard (by rfl) ?_; dsimp only)); refine box_event ?hg (N := 1) ?hd (cs := #[.int .i64 a0_0, .int .i64 a0_1, .string a0_2, .float .f64 a0_3]) (t := 96) ?hr ?_; (case hd => rfl); (case hg => rfl); (case hr => first | (go_simp; done) | (go_simp; rfl)); intro gb178 hg w18 hbox hb; have n0_ := Aside0.mk (below_step (by repeat (first | (with_reducible first | exact HB.out | apply below_alloc | apply pw_below_drewN | apply below_drew1) | exact HB.out)) hb); have n1_ := Aside0.mk (hbox); have n2_ := Aside0.mk ((by rw [hg]; exact (below_size (by repeat (first | (with_reducible first | exact HB.out | apply below_alloc | apply pw_below_drewN | apply below_drew1) | exact HB.out))) : w.heap.size ≤ gb178)); have n3_ := Aside0.mk ((by rw [hg]; exact (below_size (by repeat (first | (with_reducible first | exact HB.out | apply below_alloc | apply pw_below_drewN | apply below_drew1) | exact HB.out))) : w.heap.size ≤ gb178)); clear HB; have HB := n0_; have BK178 := n1_; have GW178 := n2_; have GE178 := n3_; clear n0_ n1_ n2_ n3_; clear hb hbox hg; have hcz19_0 : w18.cell? ⟨gb178, 0, none⟩ = some (.int .i64 a0_0) := (blk_cell BK178.out 0).trans rfl; have hcz19_1 : w18.cell? ⟨gb178, 1, none⟩ = some (.int .i64 a0_1) := (blk_cell BK178.out 1).trans rfl; have hcz19_2 : w18.cell? ⟨gb178, 2, none⟩ = some (.string a0_2) := (blk_cell BK178.out 2).trans rfl; have hcz19_3 : w18.cell? ⟨gb178, 3, none⟩ = some (.float .f64 a0_3) := (blk_cell BK178.out 3).trans rfl; have hfz19_0 := blk_frozen BK178.out 0; have hfz19_1 := blk_frozen BK178.out 1; have hfz19_2 := blk_frozen BK178.out 2; have hfz19_3 := blk_frozen BK178.out 3))
    go_ret
    exact ⟨by first | rfl | (simp [errW_none, errW_some] <;> rfl) | (simp [*, errW_none, errW_some] <;> rfl), by repeat (first | (with_reducible first | exact HB.out | apply below_alloc | apply pw_below_drewN | apply below_drew1 | refine below_set ?_ GE178.out) | exact HB.out)⟩
end Go.Proofs.Ytfcndhajcikgiaa.B
namespace Go.Proofs.Ytfcndhajcikgiaa.B
open Go.RowKit Go.Proofs.YtfcndhajcikgiaaW.PrintWords Go.Proofs.YtfcndhajcikgiaaW.PrintLast Go.Proofs.YtfcndhajcikgiaaW.PrintMore
def bonsairef13_One.f (k : Nat) (a0_0 : Int) (a0_1 : Int) (a0_2 : Int) (a0_3 : Int) (a0_4 : ByteArray) (a0_5 : Nat) : Option (Bool) := (bonsairef13_Time.f a0_0 a0_1).bind fun t183 => (if t183 = true then ((bonsairef13_Row.f a0_0 a0_1 a0_2 a0_3 a0_4 a0_5).bind fun bt184 => ((bonsairef12_One.f k bt184.1 bt184.2.1 bt184.2.2.1 bt184.2.2.2).bind fun t188 => (some t188))) else (some false))
theorem bonsairef13_One.mono : ∀ a0 a1 a2 a3 a4 a5 k, LeO (bonsairef13_One.f k a0 a1 a2 a3 a4 a5) (bonsairef13_One.f (k + 1) a0 a1 a2 a3 a4 a5) := by
  intro a0 a1 a2 a3 a4 a5 k
  unfold bonsairef13_One.f
  repeat' first
      | (with_reducible exact bonsairef12_One.mono _ _ _ _ _)
      | (with_reducible exact LeO.refl _)
      | (with_reducible exact LeO.none _)
      | (with_reducible refine LeO.ite ?_ ?_)
      | (with_reducible refine LeO.bind ?_ (fun _ => ?_))
      | exact bonsairef12_One.mono _ _ _ _ _
      | exact LeO.none _
      | refine LeO.ite ?_ ?_
      | refine LeO.bind ?_ (fun _ => ?_)
set_option maxHeartbeats 8000000 in
set_option maxRecDepth 100000 in
theorem bonsairef13_One.calls (k : Nat) (a0_0 : Int) (a0_1 : Int) (a0_2 : Int) (a0_3 : Int) (a0_4 : ByteArray) (a0_5 : Nat) (r : Bool) (w : World) (h : bonsairef13_One.f k a0_0 a0_1 a0_2 a0_3 a0_4 a0_5 = some r) :
    Calls Try.prog 41 #[.agg #[.int .i64 a0_0, .int .i64 a0_1, .int .i64 a0_2, .int .i64 a0_3, .string a0_4, .float .f64 a0_5]] w fun e w' => e = .returned (.bool r) ∧ Below w.heap.size w w' := by
  have hu30 := Try.underlying30
  have hu27 := Try.underlying27
  have HB := Aside0.mk (Below.refl w.heap.size w)
  have H : ((bonsairef13_Time.f a0_0 a0_1).bind fun t183 => (if t183 = true then ((bonsairef13_Row.f a0_0 a0_1 a0_2 a0_3 a0_4 a0_5).bind fun bt184 => ((bonsairef12_One.f k bt184.1 bt184.2.1 bt184.2.2.1 bt184.2.2.2).bind fun t188 => (some t188))) else (some false))) = some r := h
  clear h
  replace H := Option.bind_eq_some_iff.mp H
  obtain ⟨t183, A20, H⟩ := H
  replace H : (if t183 = true then ((bonsairef13_Row.f a0_0 a0_1 a0_2 a0_3 a0_4 a0_5).bind fun bt184 => ((bonsairef12_One.f k bt184.1 bt184.2.1 bt184.2.2.1 bt184.2.2.2).bind fun t188 => (some t188))) else (some false)) = some r := H
  have A2 := Aside0.mk A20
  clear A20
  by_cases c3 : t183 = true
  · subst c3
    have H1 : ((bonsairef13_Row.f a0_0 a0_1 a0_2 a0_3 a0_4 a0_5).bind fun bt184 => ((bonsairef12_One.f k bt184.1 bt184.2.1 bt184.2.2.1 bt184.2.2.2).bind fun t188 => (some t188))) = some r := by rw [if_pos rfl] at H; exact H
    clear H
    have H := H1
    clear H1
    replace H := Option.bind_eq_some_iff.mp H
    obtain ⟨⟨t184, t185, t186, t187⟩, A40, H⟩ := H
    replace H : ((bonsairef12_One.f k t184 t185 t186 t187).bind fun t188 => (some t188)) = some r := H
    have A4 := Aside0.mk A40
    clear A40
    replace H := Option.bind_eq_some_iff.mp H
    obtain ⟨t188, A50, H⟩ := H
    replace H : (some t188) = some r := H
    have A5 := Aside0.mk A50
    clear A50
    obtain rfl := Option.some.inj H
    go_enter Try.func41, Try.ntmps41
    go_wp2_with (first | ((with_reducible refine gate_dst (N := 1) rfl ?_); refine box_event ?hg (N := 1) ?hd (cs := #[.int .i64 a0_0, .int .i64 a0_1, .int .i64 a0_2, .int .i64 a0_3, .string a0_4, .float .f64 a0_5]) (t := 30) ?hr ?_; (case hd => rfl); (case hg => rfl); (case hr => first | (go_simp; done) | (go_simp; rfl)); intro gb182 hg w6 hbox hb; have n0_ := Aside0.mk (below_step (by repeat (first | (with_reducible first | exact HB.out | apply below_alloc | apply pw_below_drewN | apply below_drew1) | exact HB.out)) hb); have n1_ := Aside0.mk (hbox); have n2_ := Aside0.mk ((by rw [hg]; exact (below_size (by repeat (first | (with_reducible first | exact HB.out | apply below_alloc | apply pw_below_drewN | apply below_drew1) | exact HB.out))) : w.heap.size ≤ gb182)); have n3_ := Aside0.mk ((by rw [hg]; exact (below_size (by repeat (first | (with_reducible first | exact HB.out | apply below_alloc | apply pw_below_drewN | apply below_drew1) | exact HB.out))) : w.heap.size ≤ gb182)); clear HB; have HB := n0_; have BK182 := n1_; have GW182 := n2_; have GE182 := n3_; clear n0_ n1_ n2_ n3_; clear hb hbox hg; have hcz7_0 : w6.cell? ⟨gb182, 0, none⟩ = some (.int .i64 a0_0) := (blk_cell BK182.out 0).trans rfl; have hcz7_1 : w6.cell? ⟨gb182, 1, none⟩ = some (.int .i64 a0_1) := (blk_cell BK182.out 1).trans rfl; have hcz7_2 : w6.cell? ⟨gb182, 2, none⟩ = some (.int .i64 a0_2) := (blk_cell BK182.out 2).trans rfl; have hcz7_3 : w6.cell? ⟨gb182, 3, none⟩ = some (.int .i64 a0_3) := (blk_cell BK182.out 3).trans rfl; have hcz7_4 : w6.cell? ⟨gb182, 4, none⟩ = some (.string a0_4) := (blk_cell BK182.out 4).trans rfl; have hcz7_5 : w6.cell? ⟨gb182, 5, none⟩ = some (.float .f64 a0_5) := (blk_cell BK182.out 5).trans rfl; have hfz7_0 := blk_frozen BK182.out 0; have hfz7_1 := blk_frozen BK182.out 1; have hfz7_2 := blk_frozen BK182.out 2; have hfz7_3 := blk_frozen BK182.out 3; have hfz7_4 := blk_frozen BK182.out 4; have hfz7_5 := blk_frozen BK182.out 5) | ((with_reducible refine gate_callee (f := 72) rfl ?_); refine goesL_ (some 5) rfl rfl Try.func72 (by kernel_rfl) rfl #[.agg #[.int .i64 a0_0, .int .i64 a0_1]] rfl (by (try simp only [List.map_toArray, List.map_cons, List.map_nil]); first | done | rfl | (simp only [List.length_drop, List.length_take]; rfl)) ?_; (with_reducible refine (bonsairef13_Time.calls a0_0 a0_1 true _ A2.out).mono ?_); rintro e w8 ⟨rfl, hb⟩; refine ⟨_, rfl, ?_⟩; have n0_ := Aside0.mk (blk_below (g := gb182) (o := .cells #[.int .i64 a0_0, .int .i64 a0_1, .int .i64 a0_2, .int .i64 a0_3, .string a0_4, .float .f64 a0_5] 30 (0, 0)) (by (with_reducible repeat (first | refine blk_drewN ?_ _ | refine blk_drew ?_ | refine blk_alloc ?_ _)); exact BK182.out) hb); have n1_ := Aside0.mk (below_step (by repeat (first | (with_reducible first | exact HB.out | apply below_alloc | apply pw_below_drewN | apply below_drew1 | refine below_set ?_ GE182.out) | exact HB.out)) hb); clear BK182; clear HB; have BK182 := n0_; have HB := n1_; clear n0_ n1_; (try clear hb); (try clear hb2); (try clear hk); (try clear hi); have hcz9_0 : w8.cell? ⟨gb182, 0, none⟩ = some (.int .i64 a0_0) := (blk_cell BK182.out 0).trans rfl; have hcz9_1 : w8.cell? ⟨gb182, 1, none⟩ = some (.int .i64 a0_1) := (blk_cell BK182.out 1).trans rfl; have hcz9_2 : w8.cell? ⟨gb182, 2, none⟩ = some (.int .i64 a0_2) := (blk_cell BK182.out 2).trans rfl; have hcz9_3 : w8.cell? ⟨gb182, 3, none⟩ = some (.int .i64 a0_3) := (blk_cell BK182.out 3).trans rfl; have hcz9_4 : w8.cell? ⟨gb182, 4, none⟩ = some (.string a0_4) := (blk_cell BK182.out 4).trans rfl; have hcz9_5 : w8.cell? ⟨gb182, 5, none⟩ = some (.float .f64 a0_5) := (blk_cell BK182.out 5).trans rfl; have hfz9_0 := blk_frozen BK182.out 0; have hfz9_1 := blk_frozen BK182.out 1; have hfz9_2 := blk_frozen BK182.out 2; have hfz9_3 := blk_frozen BK182.out 3; have hfz9_4 := blk_frozen BK182.out 4; have hfz9_5 := blk_frozen BK182.out 5) | (go_at_call 74; (with_reducible refine (bonsairef13_Row.calls a0_0 a0_1 a0_2 a0_3 a0_4 a0_5 t184 t185 t186 t187 _ A4.out).mono ?_); rintro e w10 ⟨rfl, hb⟩; have n0_ := Aside0.mk (blk_below (g := gb182) (o := .cells #[.int .i64 a0_0, .int .i64 a0_1, .int .i64 a0_2, .int .i64 a0_3, .string a0_4, .float .f64 a0_5] 30 (0, 0)) (by (with_reducible repeat (first | refine blk_drewN ?_ _ | refine blk_drew ?_ | refine blk_alloc ?_ _)); exact BK182.out) hb); have n1_ := Aside0.mk (below_step (by repeat (first | (with_reducible first | exact HB.out | apply below_alloc | apply pw_below_drewN | apply below_drew1 | refine below_set ?_ GE182.out) | exact HB.out)) hb); clear BK182; clear HB; have BK182 := n0_; have HB := n1_; clear n0_ n1_; (try clear hb); (try clear hb2); (try clear hk); (try clear hi)) | (go_at_call 73; (with_reducible refine (bonsairef12_One.calls k t184 t185 t186 t187 t188 _ A5.out).mono ?_); rintro e w11 ⟨rfl, hb⟩; have n0_ := Aside0.mk (blk_below (g := gb182) (o := .cells #[.int .i64 a0_0, .int .i64 a0_1, .int .i64 a0_2, .int .i64 a0_3, .string a0_4, .float .f64 a0_5] 30 (0, 0)) (by (with_reducible repeat (first | refine blk_drewN ?_ _ | refine blk_drew ?_ | refine blk_alloc ?_ _)); exact BK182.out) hb); have n1_ := Aside0.mk (below_step (by repeat (first | (with_reducible first | exact HB.out | apply below_alloc | apply pw_below_drewN | apply below_drew1 | refine below_set ?_ GE182.out) | exact HB.out)) hb); clear BK182; clear HB; have BK182 := n0_; have HB := n1_; clear n0_ n1_; (try clear hb); (try clear hb2); (try clear hk); (try clear hi)))
    go_ret
    exact ⟨by first | rfl | (simp [errW_none, errW_some] <;> rfl) | (simp [*, errW_none, errW_some] <;> rfl), by repeat (first | (with_reducible first | exact HB.out | apply below_alloc | apply pw_below_drewN | apply below_drew1 | refine below_set ?_ GE182.out) | exact HB.out)⟩
  · replace c3 := Bool.eq_false_iff.mpr c3
    subst c3
    have H1 : (some false) = some r := by rw [if_neg (show ¬ (false = true) by decide)] at H; exact H
    clear H
    have H := H1
    clear H1
    obtain rfl := Option.some.inj H
    go_enter Try.func41, Try.ntmps41
    go_wp2_with (first | ((with_reducible refine gate_dst (N := 1) rfl ?_); refine box_event ?hg (N := 1) ?hd (cs := #[.int .i64 a0_0, .int .i64 a0_1, .int .i64 a0_2, .int .i64 a0_3, .string a0_4, .float .f64 a0_5]) (t := 30) ?hr ?_; (case hd => rfl); (case hg => rfl); (case hr => first | (go_simp; done) | (go_simp; rfl)); intro gb182 hg w12 hbox hb; have n0_ := Aside0.mk (below_step (by repeat (first | (with_reducible first | exact HB.out | apply below_alloc | apply pw_below_drewN | apply below_drew1) | exact HB.out)) hb); have n1_ := Aside0.mk (hbox); have n2_ := Aside0.mk ((by rw [hg]; exact (below_size (by repeat (first | (with_reducible first | exact HB.out | apply below_alloc | apply pw_below_drewN | apply below_drew1) | exact HB.out))) : w.heap.size ≤ gb182)); have n3_ := Aside0.mk ((by rw [hg]; exact (below_size (by repeat (first | (with_reducible first | exact HB.out | apply below_alloc | apply pw_below_drewN | apply below_drew1) | exact HB.out))) : w.heap.size ≤ gb182)); clear HB; have HB := n0_; have BK182 := n1_; have GW182 := n2_; have GE182 := n3_; clear n0_ n1_ n2_ n3_; clear hb hbox hg; have hcz13_0 : w12.cell? ⟨gb182, 0, none⟩ = some (.int .i64 a0_0) := (blk_cell BK182.out 0).trans rfl; have hcz13_1 : w12.cell? ⟨gb182, 1, none⟩ = some (.int .i64 a0_1) := (blk_cell BK182.out 1).trans rfl; have hcz13_2 : w12.cell? ⟨gb182, 2, none⟩ = some (.int .i64 a0_2) := (blk_cell BK182.out 2).trans rfl; have hcz13_3 : w12.cell? ⟨gb182, 3, none⟩ = some (.int .i64 a0_3) := (blk_cell BK182.out 3).trans rfl; have hcz13_4 : w12.cell? ⟨gb182, 4, none⟩ = some (.string a0_4) := (blk_cell BK182.out 4).trans rfl; have hcz13_5 : w12.cell? ⟨gb182, 5, none⟩ = some (.float .f64 a0_5) := (blk_cell BK182.out 5).trans rfl; have hfz13_0 := blk_frozen BK182.out 0; have hfz13_1 := blk_frozen BK182.out 1; have hfz13_2 := blk_frozen BK182.out 2; have hfz13_3 := blk_frozen BK182.out 3; have hfz13_4 := blk_frozen BK182.out 4; have hfz13_5 := blk_frozen BK182.out 5) | ((with_reducible refine gate_callee (f := 72) rfl ?_); refine goesL_ (some 5) rfl rfl Try.func72 (by kernel_rfl) rfl #[.agg #[.int .i64 a0_0, .int .i64 a0_1]] rfl (by (try simp only [List.map_toArray, List.map_cons, List.map_nil]); first | done | rfl | (simp only [List.length_drop, List.length_take]; rfl)) ?_; (with_reducible refine (bonsairef13_Time.calls a0_0 a0_1 false _ A2.out).mono ?_); rintro e w14 ⟨rfl, hb⟩; refine ⟨_, rfl, ?_⟩; have n0_ := Aside0.mk (blk_below (g := gb182) (o := .cells #[.int .i64 a0_0, .int .i64 a0_1, .int .i64 a0_2, .int .i64 a0_3, .string a0_4, .float .f64 a0_5] 30 (0, 0)) (by (with_reducible repeat (first | refine blk_drewN ?_ _ | refine blk_drew ?_ | refine blk_alloc ?_ _)); exact BK182.out) hb); have n1_ := Aside0.mk (below_step (by repeat (first | (with_reducible first | exact HB.out | apply below_alloc | apply pw_below_drewN | apply below_drew1 | refine below_set ?_ GE182.out) | exact HB.out)) hb); clear BK182; clear HB; have BK182 := n0_; have HB := n1_; clear n0_ n1_; (try clear hb); (try clear hb2); (try clear hk); (try clear hi)))
    go_ret
    exact ⟨by first | rfl | (simp [errW_none, errW_some] <;> rfl) | (simp [*, errW_none, errW_some] <;> rfl), by repeat (first | (with_reducible first | exact HB.out | apply below_alloc | apply pw_below_drewN | apply below_drew1 | refine below_set ?_ GE182.out) | exact HB.out)⟩
end Go.Proofs.Ytfcndhajcikgiaa.B
namespace Go.Proofs.Ytfcndhajcikgiaa.B
open Go.RowKit Go.Proofs.YtfcndhajcikgiaaW.PrintWords Go.Proofs.YtfcndhajcikgiaaW.PrintLast Go.Proofs.YtfcndhajcikgiaaW.PrintMore
def bonsairef02_Before.f (a0_0 : Int) (a0_1 : Int) (a1_0 : Int) (a1_1 : Int) : Option (Bool) := if a0_0 < a1_0 then (some true) else (if a0_0 = a1_0 then (some (decide (a0_1 < a1_1))) else (some false))
set_option maxHeartbeats 8000000 in
set_option maxRecDepth 100000 in
theorem bonsairef02_Before.calls (a0_0 : Int) (a0_1 : Int) (a1_0 : Int) (a1_1 : Int) (r : Bool) (w : World) (h : bonsairef02_Before.f a0_0 a0_1 a1_0 a1_1 = some r) :
    Calls Try.prog 42 #[.agg #[.int .i64 a0_0, .int .i64 a0_1], .agg #[.int .i64 a1_0, .int .i64 a1_1]] w fun e w' => e = .returned (.bool r) ∧ Below w.heap.size w w' := by
  have hu27 := Try.underlying27
  have HB := Aside0.mk (Below.refl w.heap.size w)
  have H : (if a0_0 < a1_0 then (some true) else (if a0_0 = a1_0 then (some (decide (a0_1 < a1_1))) else (some false))) = some r := h
  clear h
  by_cases c3 : a0_0 < a1_0
  · rw [if_pos c3] at H
    have c3b0 : decide (a0_0 < a1_0) = true := decide_eq_true c3
    clear c3
    obtain rfl := Option.some.inj H
    go_enter Try.func42, Try.ntmps42
    go_wp2_with (first | ((with_reducible refine gate_dst (N := 2) rfl ?_); refine box_event ?hg (N := 2) ?hd (cs := #[.int .i64 a0_0, .int .i64 a0_1]) (t := 27) ?hr ?_; (case hd => rfl); (case hg => rfl); (case hr => first | (go_simp; done) | (go_simp; rfl)); intro gb189 hg w4 hbox hb; have n0_ := Aside0.mk (below_step (by repeat (first | (with_reducible first | exact HB.out | apply below_alloc | apply pw_below_drewN | apply below_drew1) | exact HB.out)) hb); have n1_ := Aside0.mk (hbox); have n2_ := Aside0.mk ((by rw [hg]; exact (below_size (by repeat (first | (with_reducible first | exact HB.out | apply below_alloc | apply pw_below_drewN | apply below_drew1) | exact HB.out))) : w.heap.size ≤ gb189)); have n3_ := Aside0.mk ((by rw [hg]; exact (below_size (by repeat (first | (with_reducible first | exact HB.out | apply below_alloc | apply pw_below_drewN | apply below_drew1) | exact HB.out))) : w.heap.size ≤ gb189)); clear HB; have HB := n0_; have BK189 := n1_; have GW189 := n2_; have GE189 := n3_; clear n0_ n1_ n2_ n3_; clear hb hbox hg) | ((with_reducible refine gate_dst (N := 3) rfl ?_); refine box_event ?hg (N := 3) ?hd (cs := #[.int .i64 a1_0, .int .i64 a1_1]) (t := 27) ?hr ?_; (case hd => rfl); (case hg => rfl); (case hr => first | (go_simp; done) | (go_simp; rfl)); intro gb190 hg w5 hbox hb; have n0_ := Aside0.mk (blk_below (g := gb189) (o := .cells #[.int .i64 a0_0, .int .i64 a0_1] 27 (0, 0)) (by (with_reducible repeat (first | refine blk_drewN ?_ _ | refine blk_drew ?_ | refine blk_alloc ?_ _)); exact BK189.out) hb); have n1_ := Aside0.mk (below_step (by repeat (first | (with_reducible first | exact HB.out | apply below_alloc | apply pw_below_drewN | apply below_drew1 | refine below_set ?_ GE189.out) | exact HB.out)) hb); have n2_ := Aside0.mk (hbox); have n3_ := Aside0.mk ((by rw [hg]; exact (below_size (by repeat (first | (with_reducible first | exact HB.out | apply below_alloc | apply pw_below_drewN | apply below_drew1 | refine below_set ?_ GE189.out) | exact HB.out))) : w.heap.size ≤ gb190)); have n4_ := Aside0.mk ((by rw [hg]; exact (below_size (by repeat (first | (with_reducible first | exact HB.out | apply below_alloc | apply pw_below_drewN | apply below_drew1 | refine below_set ?_ GE189.out) | exact HB.out))) : w.heap.size ≤ gb190)); have n5_ := Aside0.mk ((by rw [hg]; exact Nat.ne_of_lt (blk_lt (g := gb189) (o := .cells #[.int .i64 a0_0, .int .i64 a0_1] 27 (0, 0)) (by (with_reducible repeat (first | refine blk_drewN ?_ _ | refine blk_drew ?_ | refine blk_alloc ?_ _)); exact BK189.out)) : gb189 ≠ gb190)); have n6_ := Aside0.mk ((by rw [hg]; exact Nat.ne_of_gt (blk_lt (g := gb189) (o := .cells #[.int .i64 a0_0, .int .i64 a0_1] 27 (0, 0)) (by (with_reducible repeat (first | refine blk_drewN ?_ _ | refine blk_drew ?_ | refine blk_alloc ?_ _)); exact BK189.out)) : gb190 ≠ gb189)); clear BK189; clear HB; have BK189 := n0_; have HB := n1_; have BK190 := n2_; have GW190 := n3_; have GE190 := n4_; have NB189_190 := n5_; have NB190_189 := n6_; clear n0_ n1_ n2_ n3_ n4_ n5_ n6_; clear hb hbox hg; have hnb6 := NB189_190.out; have hnc6 := NB190_189.out; have hcz7_0 : w5.cell? ⟨gb189, 0, none⟩ = some (.int .i64 a0_0) := (blk_cell BK189.out 0).trans rfl; have hcz7_1 : w5.cell? ⟨gb189, 1, none⟩ = some (.int .i64 a0_1) := (blk_cell BK189.out 1).trans rfl; have hfz7_0 := blk_frozen BK189.out 0; have hfz7_1 := blk_frozen BK189.out 1; have hcz8_0 : w5.cell? ⟨gb190, 0, none⟩ = some (.int .i64 a1_0) := (blk_cell BK190.out 0).trans rfl; have hcz8_1 : w5.cell? ⟨gb190, 1, none⟩ = some (.int .i64 a1_1) := (blk_cell BK190.out 1).trans rfl; have hfz8_0 := blk_frozen BK190.out 0; have hfz8_1 := blk_frozen BK190.out 1))
    go_ret
    exact ⟨by first | rfl | (simp [errW_none, errW_some] <;> rfl) | (simp [*, errW_none, errW_some] <;> rfl), by repeat (first | (with_reducible first | exact HB.out | apply below_alloc | apply pw_below_drewN | apply below_drew1 | refine below_set ?_ GE189.out | refine below_set ?_ GE190.out) | exact HB.out)⟩
  · rw [if_neg c3] at H
    have c3b0 : decide (a0_0 < a1_0) = false := decide_eq_false c3
    clear c3
    by_cases c9 : a0_0 = a1_0
    · rw [if_pos c9] at H
      have c9b0 : (a0_0 == a1_0) = true := beq_iff_eq.mpr c9
      have c9b1 : (a0_0 != a1_0) = false := bne_eq_false_iff_eq.mpr c9
      clear c9
      obtain rfl := Option.some.inj H
      go_enter Try.func42, Try.ntmps42
      go_wp2_with (first | ((with_reducible refine gate_dst (N := 2) rfl ?_); refine box_event ?hg (N := 2) ?hd (cs := #[.int .i64 a0_0, .int .i64 a0_1]) (t := 27) ?hr ?_; (case hd => rfl); (case hg => rfl); (case hr => first | (go_simp; done) | (go_simp; rfl)); intro gb189 hg w10 hbox hb; have n0_ := Aside0.mk (below_step (by repeat (first | (with_reducible first | exact HB.out | apply below_alloc | apply pw_below_drewN | apply below_drew1) | exact HB.out)) hb); have n1_ := Aside0.mk (hbox); have n2_ := Aside0.mk ((by rw [hg]; exact (below_size (by repeat (first | (with_reducible first | exact HB.out | apply below_alloc | apply pw_below_drewN | apply below_drew1) | exact HB.out))) : w.heap.size ≤ gb189)); have n3_ := Aside0.mk ((by rw [hg]; exact (below_size (by repeat (first | (with_reducible first | exact HB.out | apply below_alloc | apply pw_below_drewN | apply below_drew1) | exact HB.out))) : w.heap.size ≤ gb189)); clear HB; have HB := n0_; have BK189 := n1_; have GW189 := n2_; have GE189 := n3_; clear n0_ n1_ n2_ n3_; clear hb hbox hg) | ((with_reducible refine gate_dst (N := 3) rfl ?_); refine box_event ?hg (N := 3) ?hd (cs := #[.int .i64 a1_0, .int .i64 a1_1]) (t := 27) ?hr ?_; (case hd => rfl); (case hg => rfl); (case hr => first | (go_simp; done) | (go_simp; rfl)); intro gb190 hg w11 hbox hb; have n0_ := Aside0.mk (blk_below (g := gb189) (o := .cells #[.int .i64 a0_0, .int .i64 a0_1] 27 (0, 0)) (by (with_reducible repeat (first | refine blk_drewN ?_ _ | refine blk_drew ?_ | refine blk_alloc ?_ _)); exact BK189.out) hb); have n1_ := Aside0.mk (below_step (by repeat (first | (with_reducible first | exact HB.out | apply below_alloc | apply pw_below_drewN | apply below_drew1 | refine below_set ?_ GE189.out) | exact HB.out)) hb); have n2_ := Aside0.mk (hbox); have n3_ := Aside0.mk ((by rw [hg]; exact (below_size (by repeat (first | (with_reducible first | exact HB.out | apply below_alloc | apply pw_below_drewN | apply below_drew1 | refine below_set ?_ GE189.out) | exact HB.out))) : w.heap.size ≤ gb190)); have n4_ := Aside0.mk ((by rw [hg]; exact (below_size (by repeat (first | (with_reducible first | exact HB.out | apply below_alloc | apply pw_below_drewN | apply below_drew1 | refine below_set ?_ GE189.out) | exact HB.out))) : w.heap.size ≤ gb190)); have n5_ := Aside0.mk ((by rw [hg]; exact Nat.ne_of_lt (blk_lt (g := gb189) (o := .cells #[.int .i64 a0_0, .int .i64 a0_1] 27 (0, 0)) (by (with_reducible repeat (first | refine blk_drewN ?_ _ | refine blk_drew ?_ | refine blk_alloc ?_ _)); exact BK189.out)) : gb189 ≠ gb190)); have n6_ := Aside0.mk ((by rw [hg]; exact Nat.ne_of_gt (blk_lt (g := gb189) (o := .cells #[.int .i64 a0_0, .int .i64 a0_1] 27 (0, 0)) (by (with_reducible repeat (first | refine blk_drewN ?_ _ | refine blk_drew ?_ | refine blk_alloc ?_ _)); exact BK189.out)) : gb190 ≠ gb189)); clear BK189; clear HB; have BK189 := n0_; have HB := n1_; have BK190 := n2_; have GW190 := n3_; have GE190 := n4_; have NB189_190 := n5_; have NB190_189 := n6_; clear n0_ n1_ n2_ n3_ n4_ n5_ n6_; clear hb hbox hg; have hnb12 := NB189_190.out; have hnc12 := NB190_189.out; have hcz13_0 : w11.cell? ⟨gb189, 0, none⟩ = some (.int .i64 a0_0) := (blk_cell BK189.out 0).trans rfl; have hcz13_1 : w11.cell? ⟨gb189, 1, none⟩ = some (.int .i64 a0_1) := (blk_cell BK189.out 1).trans rfl; have hfz13_0 := blk_frozen BK189.out 0; have hfz13_1 := blk_frozen BK189.out 1; have hcz14_0 : w11.cell? ⟨gb190, 0, none⟩ = some (.int .i64 a1_0) := (blk_cell BK190.out 0).trans rfl; have hcz14_1 : w11.cell? ⟨gb190, 1, none⟩ = some (.int .i64 a1_1) := (blk_cell BK190.out 1).trans rfl; have hfz14_0 := blk_frozen BK190.out 0; have hfz14_1 := blk_frozen BK190.out 1))
      go_ret
      exact ⟨by first | rfl | (simp [errW_none, errW_some] <;> rfl) | (simp [*, errW_none, errW_some] <;> rfl), by repeat (first | (with_reducible first | exact HB.out | apply below_alloc | apply pw_below_drewN | apply below_drew1 | refine below_set ?_ GE189.out | refine below_set ?_ GE190.out) | exact HB.out)⟩
    · rw [if_neg c9] at H
      have c9b0 : (a0_0 == a1_0) = false := beq_eq_false_iff_ne.mpr c9
      have c9b1 : (a0_0 != a1_0) = true := bne_iff_ne.mpr c9
      obtain rfl := Option.some.inj H
      go_enter Try.func42, Try.ntmps42
      go_wp2_with (first | ((with_reducible refine gate_dst (N := 2) rfl ?_); refine box_event ?hg (N := 2) ?hd (cs := #[.int .i64 a0_0, .int .i64 a0_1]) (t := 27) ?hr ?_; (case hd => rfl); (case hg => rfl); (case hr => first | (go_simp; done) | (go_simp; rfl)); intro gb189 hg w15 hbox hb; have n0_ := Aside0.mk (below_step (by repeat (first | (with_reducible first | exact HB.out | apply below_alloc | apply pw_below_drewN | apply below_drew1) | exact HB.out)) hb); have n1_ := Aside0.mk (hbox); have n2_ := Aside0.mk ((by rw [hg]; exact (below_size (by repeat (first | (with_reducible first | exact HB.out | apply below_alloc | apply pw_below_drewN | apply below_drew1) | exact HB.out))) : w.heap.size ≤ gb189)); have n3_ := Aside0.mk ((by rw [hg]; exact (below_size (by repeat (first | (with_reducible first | exact HB.out | apply below_alloc | apply pw_below_drewN | apply below_drew1) | exact HB.out))) : w.heap.size ≤ gb189)); clear HB; have HB := n0_; have BK189 := n1_; have GW189 := n2_; have GE189 := n3_; clear n0_ n1_ n2_ n3_; clear hb hbox hg) | ((with_reducible refine gate_dst (N := 3) rfl ?_); refine box_event ?hg (N := 3) ?hd (cs := #[.int .i64 a1_0, .int .i64 a1_1]) (t := 27) ?hr ?_; (case hd => rfl); (case hg => rfl); (case hr => first | (go_simp; done) | (go_simp; rfl)); intro gb190 hg w16 hbox hb; have n0_ := Aside0.mk (blk_below (g := gb189) (o := .cells #[.int .i64 a0_0, .int .i64 a0_1] 27 (0, 0)) (by (with_reducible repeat (first | refine blk_drewN ?_ _ | refine blk_drew ?_ | refine blk_alloc ?_ _)); exact BK189.out) hb); have n1_ := Aside0.mk (below_step (by repeat (first | (with_reducible first | exact HB.out | apply below_alloc | apply pw_below_drewN | apply below_drew1 | refine below_set ?_ GE189.out) | exact HB.out)) hb); have n2_ := Aside0.mk (hbox); have n3_ := Aside0.mk ((by rw [hg]; exact (below_size (by repeat (first | (with_reducible first | exact HB.out | apply below_alloc | apply pw_below_drewN | apply below_drew1 | refine below_set ?_ GE189.out) | exact HB.out))) : w.heap.size ≤ gb190)); have n4_ := Aside0.mk ((by rw [hg]; exact (below_size (by repeat (first | (with_reducible first | exact HB.out | apply below_alloc | apply pw_below_drewN | apply below_drew1 | refine below_set ?_ GE189.out) | exact HB.out))) : w.heap.size ≤ gb190)); have n5_ := Aside0.mk ((by rw [hg]; exact Nat.ne_of_lt (blk_lt (g := gb189) (o := .cells #[.int .i64 a0_0, .int .i64 a0_1] 27 (0, 0)) (by (with_reducible repeat (first | refine blk_drewN ?_ _ | refine blk_drew ?_ | refine blk_alloc ?_ _)); exact BK189.out)) : gb189 ≠ gb190)); have n6_ := Aside0.mk ((by rw [hg]; exact Nat.ne_of_gt (blk_lt (g := gb189) (o := .cells #[.int .i64 a0_0, .int .i64 a0_1] 27 (0, 0)) (by (with_reducible repeat (first | refine blk_drewN ?_ _ | refine blk_drew ?_ | refine blk_alloc ?_ _)); exact BK189.out)) : gb190 ≠ gb189)); clear BK189; clear HB; have BK189 := n0_; have HB := n1_; have BK190 := n2_; have GW190 := n3_; have GE190 := n4_; have NB189_190 := n5_; have NB190_189 := n6_; clear n0_ n1_ n2_ n3_ n4_ n5_ n6_; clear hb hbox hg; have hnb17 := NB189_190.out; have hnc17 := NB190_189.out; have hcz18_0 : w16.cell? ⟨gb189, 0, none⟩ = some (.int .i64 a0_0) := (blk_cell BK189.out 0).trans rfl; have hcz18_1 : w16.cell? ⟨gb189, 1, none⟩ = some (.int .i64 a0_1) := (blk_cell BK189.out 1).trans rfl; have hfz18_0 := blk_frozen BK189.out 0; have hfz18_1 := blk_frozen BK189.out 1; have hcz19_0 : w16.cell? ⟨gb190, 0, none⟩ = some (.int .i64 a1_0) := (blk_cell BK190.out 0).trans rfl; have hcz19_1 : w16.cell? ⟨gb190, 1, none⟩ = some (.int .i64 a1_1) := (blk_cell BK190.out 1).trans rfl; have hfz19_0 := blk_frozen BK190.out 0; have hfz19_1 := blk_frozen BK190.out 1))
      go_ret
      exact ⟨by first | rfl | (simp [errW_none, errW_some] <;> rfl) | (simp [*, errW_none, errW_some] <;> rfl), by repeat (first | (with_reducible first | exact HB.out | apply below_alloc | apply pw_below_drewN | apply below_drew1 | refine below_set ?_ GE189.out | refine below_set ?_ GE190.out) | exact HB.out)⟩
end Go.Proofs.Ytfcndhajcikgiaa.B
namespace Go.Proofs.Ytfcndhajcikgiaa.B
open Go.RowKit Go.Proofs.Sp Go.Proofs.Fl Go.Proofs.YtfcndhajcikgiaaW.PrintWords Go.Proofs.YtfcndhajcikgiaaW.PrintLast Go.Proofs.YtfcndhajcikgiaaW.PrintMore
theorem rbefore_f (a b c d : Int) : bonsairef02_Before.f a b c d = some (beforeB a b c d) := by
  unfold bonsairef02_Before.f beforeB
  by_cases h : a < c
  · rw [if_pos h, decide_eq_true h]; rfl
  · rw [if_neg h, decide_eq_false h]
    by_cases h2 : a = c
    · rw [if_pos h2, decide_eq_true h2]; rfl
    · rw [if_neg h2, decide_eq_false h2]; rfl
theorem rone_f (c r p ch : Int) (name : ByteArray) (y k : Nat) (hk : 70 ≤ k) : bonsairef13_One.f k c r p ch name y = some (oneB c r p ch name) := by
  unfold bonsairef13_One.f bonsairef13_Time.f bonsairef13_Row.f bonsairef12_One.f oneB
  by_cases c1 : c ≥ 1
  · rw [if_pos c1, decide_eq_true (show 1 ≤ c from c1)]
    by_cases c2 : c ≤ 4611686018427387903
    · rw [if_pos c2, decide_eq_true c2]
      by_cases c3 : r ≥ 1
      · rw [if_pos c3, decide_eq_true (show 1 ≤ r from c3)]
        by_cases c4 : r ≤ 255
        · rw [decide_eq_true c4]
          simp only [Option.bind_some, if_true]
          by_cases c5 : ch ≥ 1
          · rw [if_pos c5, decide_eq_true (show 1 ≤ ch from c5)]
            by_cases c6 : ch ≤ 2147483647
            · rw [if_pos c6, decide_eq_true c6]
              by_cases c7 : p ≥ 0
              · rw [if_pos c7, decide_eq_true (show 0 ≤ p from c7)]
                by_cases c8 : p ≤ 2147483647
                · rw [if_pos c8, decide_eq_true c8]
                  by_cases c9 : (name.size : Int) ≤ 64
                  · rw [if_pos c9, decide_eq_true (show name.size ≤ 64 by omega), valid_f name k (by omega) (by omega)]
                    rfl
                  · rw [if_neg c9, decide_eq_false (show ¬ name.size ≤ 64 by omega)]; rfl
                · rw [if_neg c8, decide_eq_false c8]; rfl
              · rw [if_neg c7, decide_eq_false (show ¬ 0 ≤ p from c7)]; rfl
            · rw [if_neg c6, decide_eq_false c6]; rfl
          · rw [if_neg c5, decide_eq_false (show ¬ 1 ≤ ch from c5)]; rfl
        · rw [decide_eq_false c4]; rfl
      · rw [if_neg c3, decide_eq_false (show ¬ 1 ≤ r from c3)]; rfl
    · rw [if_neg c2, decide_eq_false c2]; rfl
  · rw [if_neg c1, decide_eq_false (show ¬ 1 ≤ c from c1)]; rfl
end Go.Proofs.Ytfcndhajcikgiaa.B
namespace Go.Proofs.Ytfcndhajcikgiaa.B
open Go.RowKit Go.Proofs.YtfcndhajcikgiaaW.PrintWords Go.Proofs.YtfcndhajcikgiaaW.PrintLast Go.Proofs.YtfcndhajcikgiaaW.PrintMore
def bonsairef13_Few.l0 : Nat → List (S30) → Int → Option (Bool)
  | 0, _, _ => none
  | k + 1, x0, x5 => if x5 < (x0.length : Int) then (if 0 ≤ x5 then (if (((rd_T30 x0 x5).f3).size : Int) > 100 then (some false) else (bonsairef13_Few.l0 k x0 (wrap64 (x5 + 1)))) else (none)) else (some true)
def bonsairef13_Few.f (k : Nat) (l0 : List (S30)) (a1 : Int) : Option (Bool) := if (l0.length : Int) > a1 then (some false) else (bonsairef13_Few.l0 k l0 0)
theorem bonsairef13_Few.mono_l : ∀ k, (∀ y0 y1, LeO (bonsairef13_Few.l0 k y0 y1) (bonsairef13_Few.l0 (k + 1) y0 y1))
  | 0 => fun _ _ r h => by simp [bonsairef13_Few.l0] at h
  | k + 1 => by
    have ih0 := bonsairef13_Few.mono_l k
    · intro y0 y1
      unfold bonsairef13_Few.l0
      repeat' first
      | (with_reducible exact ih0 _ _)
      | (with_reducible exact LeO.refl _)
      | (with_reducible exact LeO.none _)
      | (with_reducible refine LeO.ite ?_ ?_)
      | (with_reducible refine LeO.bind ?_ (fun _ => ?_))
      | exact ih0 _ _
      | exact LeO.none _
      | refine LeO.ite ?_ ?_
      | refine LeO.bind ?_ (fun _ => ?_)
theorem bonsairef13_Few.mono : ∀ a0 a1 k, LeO (bonsairef13_Few.f k a0 a1) (bonsairef13_Few.f (k + 1) a0 a1) := by
  intro a0 a1 k
  have ih0 := bonsairef13_Few.mono_l k
  unfold bonsairef13_Few.f
  repeat' first
      | (with_reducible exact ih0 _ _)
      | (with_reducible exact LeO.refl _)
      | (with_reducible exact LeO.none _)
      | (with_reducible refine LeO.ite ?_ ?_)
      | (with_reducible refine LeO.bind ?_ (fun _ => ?_))
      | exact ih0 _ _
      | exact LeO.none _
      | refine LeO.ite ?_ ?_
      | refine LeO.bind ?_ (fun _ => ?_)
set_option maxHeartbeats 8000000 in
set_option maxRecDepth 100000 in
theorem bonsairef13_Few.calls (k : Nat) (A0 : Option Addr) (c0 : Nat) (l0 : List (S30)) (a1 : Int) (r : Bool) (w : World) (hr0 : Kd.C k30 w A0 l0.length l0) (hc0 : l0.length ≤ c0) (h : bonsairef13_Few.f k l0 a1 = some r) :
    Calls Try.prog 7 #[.slice A0 l0.length c0, .int .i64 a1] w fun e w' => e = .returned (.bool r) ∧ Drawn0 w w' := by
  have HR0 := Aside0.mk hr0
  have HC0 := Aside0.mk hc0
  clear hr0 hc0
  have H : (if (l0.length : Int) > a1 then (some false) else (bonsairef13_Few.l0 k l0 0)) = some r := h
  clear h
  by_cases c3 : (l0.length : Int) > a1
  · rw [if_pos c3] at H
    have c3b0 : decide (a1 < (l0.length : Int)) = true := decide_eq_true c3
    clear c3
    obtain rfl := Option.some.inj H
    go_enter Try.func7, Try.ntmps7
    go_wp2
    go_ret
    exact ⟨by first | rfl | (simp; done) | (simp [*]; done), by repeat (first | exact Drawn0.refl _ | apply Drawn0.step)⟩
  · rw [if_neg c3] at H
    have c3b0 : decide (a1 < (l0.length : Int)) = false := decide_eq_false c3
    clear c3
    have H' := Aside0.mk H
    clear H
    go_enter Try.func7, Try.ntmps7
    go_wp2
    go_loopg [5] k (fun kq v5 w' => ∃ (x5_1 : Int), v5 = .int .i64 x5_1 ∧ Aside0 (bonsairef13_Few.l0 kq l0 x5_1 = some r) ∧ Aside0 (kq ≤ k) ∧ Drawn0 w w')
    case atStart => exact ⟨(0), (by first | rfl | (simp; done) | (simp [*]; done)), H', ⟨Nat.le_refl _⟩, by repeat (first | exact Drawn0.refl _ | apply Drawn0.step)⟩
    case round =>
      clear H'
      try clear p2
      try clear c3
      try clear c3b0
      obtain ⟨x5_1, rfl, HA, HK1, ⟨m1, rfl⟩⟩ := hrel
      cases gk with
      | zero => exact absurd HA.out (by simp [bonsairef13_Few.l0])
      | succ k1 =>
        have H := HA.out
        clear HA
        simp only [bonsairef13_Few.l0] at H
        by_cases c4 : x5_1 < (l0.length : Int)
        · rw [if_pos c4] at H
          have c4b0 : decide (x5_1 < (l0.length : Int)) = true := decide_eq_true c4
          clear c4
          by_cases c5 : 0 ≤ x5_1
          · rw [if_pos c5] at H
            have c5b0 : decide (0 ≤ x5_1) = true := decide_eq_true c5
            clear c5
            by_cases c6 : (((rd_T30 l0 x5_1).f3).size : Int) > 100
            · rw [if_pos c6] at H
              have c6b0 : decide (100 < (((rd_T30 l0 x5_1).f3).size : Int)) = true := decide_eq_true c6
              have c6b1 : decide (100 < ((rd_T30 l0 x5_1).f3).size) = true := decide_eq_true (by omega)
              clear c6
              obtain rfl := Option.some.inj H
              have p101 : 0 ≤ (x5_1 : Int) := of_decide_eq_true (by first | (with_reducible assumption) | assumption)
              have q101 : x5_1 < (l0.length : Int) := of_decide_eq_true (by first | (with_reducible assumption) | assumption)
              obtain ⟨ad101, e101, hx101_0, hx101_1, hx101_2, hx101_3, hx101_4, hx101_5⟩ := at_T30 HR0.out x5_1 p101 q101
              cases e101
              replace p101 := eq_true p101
              replace q101 := eq_true q101
              go_wp2
              go_ret
              exact ⟨by first | rfl | (simp; done) | (simp [*]; done), by repeat (first | exact Drawn0.refl _ | apply Drawn0.step)⟩
            · rw [if_neg c6] at H
              have c6b0 : decide (100 < (((rd_T30 l0 x5_1).f3).size : Int)) = false := decide_eq_false c6
              have c6b1 : decide (100 < ((rd_T30 l0 x5_1).f3).size) = false := decide_eq_false (by omega)
              clear c6
              have H' := Aside0.mk H
              clear H
              have p101 : 0 ≤ (x5_1 : Int) := of_decide_eq_true (by first | (with_reducible assumption) | assumption)
              have q101 : x5_1 < (l0.length : Int) := of_decide_eq_true (by first | (with_reducible assumption) | assumption)
              obtain ⟨ad101, e101, hx101_0, hx101_1, hx101_2, hx101_3, hx101_4, hx101_5⟩ := at_T30 HR0.out x5_1 p101 q101
              cases e101
              replace p101 := eq_true p101
              replace q101 := eq_true q101
              go_wp2
              go_roundg k1
              case measure => have := HK1.out; omega
              case rel => exact ⟨(wrap64 (x5_1 + 1)), (by first | rfl | (simp; done) | (simp [*]; done)), H', ⟨by have := HK1.out; omega⟩, by repeat (first | exact Drawn0.refl _ | apply Drawn0.step)⟩
          · rw [if_neg c5] at H
            exact absurd H (by simp)
        · rw [if_neg c4] at H
          have c4b0 : decide (x5_1 < (l0.length : Int)) = false := decide_eq_false c4
          clear c4
          obtain rfl := Option.some.inj H
          go_wp2
          go_ret
          exact ⟨by first | rfl | (simp; done) | (simp [*]; done), by repeat (first | exact Drawn0.refl _ | apply Drawn0.step)⟩
end Go.Proofs.Ytfcndhajcikgiaa.B
