/- RowsReads: for every input the law returns true, and the input reads behind the call as it read before. (Part 8 of 10.) -/
import Derived.Test.YtfcndhajcikgiaaKReads7
set_option linter.unusedVariables false
set_option linter.unusedSimpArgs false
namespace Go.Proofs.Ytfcndhajcikgiaa.B
open Go.RowKit Go.Proofs.YtfcndhajcikgiaaW.PrintWords Go.Proofs.YtfcndhajcikgiaaW.PrintLast Go.Proofs.YtfcndhajcikgiaaW.PrintMore
def bonsairef04_First.l0 : Nat → ByteArray → Int → Option (Int × Bool)
  | 0, _, _ => none
  | k + 1, x0, x4 => if x4 < (x0.size : Int) then ((bonsairef04_sign.f k x0 x4).bind fun t175 => (if t175 = 0 then (some (x4, true)) else (bonsairef04_First.l0 k x0 (wrap64 (x4 + t175))))) else (some (0, false))
def bonsairef04_First.f (k : Nat) (a0 : ByteArray) : Option (Int × Bool) := bonsairef04_First.l0 k a0 0
theorem bonsairef04_First.mono_l : ∀ k, (∀ y0 y1, LeO (bonsairef04_First.l0 k y0 y1) (bonsairef04_First.l0 (k + 1) y0 y1))
  | 0 => fun _ _ r h => by simp [bonsairef04_First.l0] at h
  | k + 1 => by
    have ih0 := bonsairef04_First.mono_l k
    · intro y0 y1
      unfold bonsairef04_First.l0
      repeat' first
      | (with_reducible exact ih0 _ _)
      | (with_reducible exact bonsairef04_sign.mono _ _ _)
      | (with_reducible exact LeO.refl _)
      | (with_reducible exact LeO.none _)
      | (with_reducible refine LeO.ite ?_ ?_)
      | (with_reducible refine LeO.bind ?_ (fun _ => ?_))
      | exact ih0 _ _
      | exact bonsairef04_sign.mono _ _ _
      | exact LeO.none _
      | refine LeO.ite ?_ ?_
      | refine LeO.bind ?_ (fun _ => ?_)
theorem bonsairef04_First.mono : ∀ a0 k, LeO (bonsairef04_First.f k a0) (bonsairef04_First.f (k + 1) a0) := by
  intro a0 k
  have ih0 := bonsairef04_First.mono_l k
  unfold bonsairef04_First.f
  repeat' first
      | (with_reducible exact ih0 _ _)
      | (with_reducible exact bonsairef04_sign.mono _ _ _)
      | (with_reducible exact LeO.refl _)
      | (with_reducible exact LeO.none _)
      | (with_reducible refine LeO.ite ?_ ?_)
      | (with_reducible refine LeO.bind ?_ (fun _ => ?_))
      | exact ih0 _ _
      | exact bonsairef04_sign.mono _ _ _
      | exact LeO.none _
      | refine LeO.ite ?_ ?_
      | refine LeO.bind ?_ (fun _ => ?_)
set_option maxHeartbeats 8000000 in
set_option maxRecDepth 100000 in
theorem bonsairef04_First.calls (k : Nat) (a0 : ByteArray) (r1 : Int) (r2 : Bool) (w : World) (h : bonsairef04_First.f k a0 = some (r1, r2)) :
    Calls Try.prog 88 #[.string a0] w fun e w' => e = .returned (.tuple #[.int .i64 r1, .bool r2]) ∧ Drawn0 w w' := by
  have H : (bonsairef04_First.l0 k a0 0) = some (r1, r2) := h
  clear h
  have H' := Aside0.mk H
  clear H
  go_enter Try.func88, Try.ntmps88
  go_wp2
  go_loopg [4] k (fun kq v4 w' => ∃ (x4_1 : Int), v4 = .int .i64 x4_1 ∧ Aside0 (bonsairef04_First.l0 kq a0 x4_1 = some (r1, r2)) ∧ Aside0 (kq ≤ k) ∧ Drawn0 w w')
  case atStart => exact ⟨(0), (by first | rfl | (simp; done) | (simp [*]; done)), H', ⟨Nat.le_refl _⟩, by repeat (first | exact Drawn0.refl _ | apply Drawn0.step)⟩
  case round =>
    clear H'
    obtain ⟨x4_1, rfl, HA, HK1, ⟨m1, rfl⟩⟩ := hrel
    cases gk with
    | zero => exact absurd HA.out (by simp [bonsairef04_First.l0])
    | succ k1 =>
      have H := HA.out
      clear HA
      simp only [bonsairef04_First.l0] at H
      by_cases c2 : x4_1 < (a0.size : Int)
      · rw [if_pos c2] at H
        have c2b0 : decide (x4_1 < (a0.size : Int)) = true := decide_eq_true c2
        clear c2
        replace H := Option.bind_eq_some_iff.mp H
        obtain ⟨t175, A30, H⟩ := H
        replace H : (if t175 = 0 then (some (x4_1, true)) else (bonsairef04_First.l0 k1 a0 (wrap64 (x4_1 + t175)))) = some (r1, r2) := H
        have A3 := Aside0.mk A30
        clear A30
        by_cases c4 : t175 = 0
        · rw [if_pos c4] at H
          have c4b0 : (t175 == 0) = true := beq_iff_eq.mpr c4
          have c4b1 : (t175 != 0) = false := bne_eq_false_iff_eq.mpr c4
          clear c4
          simp only [Option.some.injEq, Prod.mk.injEq] at H
          obtain ⟨rfl, rfl⟩ := H
          go_wp2_with (first | ((with_reducible refine gate_callee (f := 93) rfl ?_); refine goesL_ (some 12) rfl rfl Try.func93 (by kernel_rfl) rfl #[.string a0, .int .i64 x4_1] rfl (by (try simp only [List.map_toArray, List.map_cons, List.map_nil]); first | done | rfl | (simp only [List.length_drop, List.length_take]; rfl)) ?_; (with_reducible refine (bonsairef04_sign.calls k1 a0 x4_1 t175 _ A3.out).mono ?_); rintro e w' ⟨rfl, ⟨nd, rfl⟩⟩; refine ⟨_, rfl, ?_⟩))
          go_ret2
          exact ⟨by first | rfl | (simp; done) | (simp [*]; done), by repeat (first | exact Drawn0.refl _ | apply Drawn0.step)⟩
        · rw [if_neg c4] at H
          have c4b0 : (t175 == 0) = false := beq_eq_false_iff_ne.mpr c4
          have c4b1 : (t175 != 0) = true := bne_iff_ne.mpr c4
          have H' := Aside0.mk H
          clear H
          go_wp2_with (first | ((with_reducible refine gate_callee (f := 93) rfl ?_); refine goesL_ (some 12) rfl rfl Try.func93 (by kernel_rfl) rfl #[.string a0, .int .i64 x4_1] rfl (by (try simp only [List.map_toArray, List.map_cons, List.map_nil]); first | done | rfl | (simp only [List.length_drop, List.length_take]; rfl)) ?_; (with_reducible refine (bonsairef04_sign.calls k1 a0 x4_1 t175 _ A3.out).mono ?_); rintro e w' ⟨rfl, ⟨nd, rfl⟩⟩; refine ⟨_, rfl, ?_⟩))
          go_roundg k1
          case measure => have := HK1.out; omega
          case rel => exact ⟨(wrap64 (x4_1 + t175)), (by first | rfl | (simp; done) | (simp [*]; done)), H', ⟨by have := HK1.out; omega⟩, by repeat (first | exact Drawn0.refl _ | apply Drawn0.step)⟩
      · rw [if_neg c2] at H
        have c2b0 : decide (x4_1 < (a0.size : Int)) = false := decide_eq_false c2
        clear c2
        simp only [Option.some.injEq, Prod.mk.injEq] at H
        obtain ⟨rfl, rfl⟩ := H
        go_wp2
        go_ret2
        exact ⟨by first | rfl | (simp; done) | (simp [*]; done), by repeat (first | exact Drawn0.refl _ | apply Drawn0.step)⟩
end Go.Proofs.Ytfcndhajcikgiaa.B
namespace Go.Proofs.Ytfcndhajcikgiaa.B
open Go.RowKit Go.Proofs.YtfcndhajcikgiaaW.PrintWords Go.Proofs.YtfcndhajcikgiaaW.PrintLast Go.Proofs.YtfcndhajcikgiaaW.PrintMore
def bonsairef04_Valid.f (k : Nat) (a0 : ByteArray) : Option (Bool) := (bonsairef04_First.f k a0).bind fun bt176 => (some (!bt176.2))
theorem bonsairef04_Valid.mono : ∀ a0 k, LeO (bonsairef04_Valid.f k a0) (bonsairef04_Valid.f (k + 1) a0) := by
  intro a0 k
  unfold bonsairef04_Valid.f
  repeat' first
      | (with_reducible exact bonsairef04_First.mono _ _)
      | (with_reducible exact LeO.refl _)
      | (with_reducible exact LeO.none _)
      | (with_reducible refine LeO.ite ?_ ?_)
      | (with_reducible refine LeO.bind ?_ (fun _ => ?_))
      | exact bonsairef04_First.mono _ _
      | exact LeO.none _
      | refine LeO.ite ?_ ?_
      | refine LeO.bind ?_ (fun _ => ?_)
set_option maxHeartbeats 8000000 in
set_option maxRecDepth 100000 in
theorem bonsairef04_Valid.calls (k : Nat) (a0 : ByteArray) (r : Bool) (w : World) (h : bonsairef04_Valid.f k a0 = some r) :
    Calls Try.prog 71 #[.string a0] w fun e w' => e = .returned (.bool r) ∧ Drawn0 w w' := by
  have H : ((bonsairef04_First.f k a0).bind fun bt176 => (some (!bt176.2))) = some r := h
  clear h
  replace H := Option.bind_eq_some_iff.mp H
  obtain ⟨⟨t176, t177⟩, A20, H⟩ := H
  replace H : (some (!t177)) = some r := H
  have A2 := Aside0.mk A20
  clear A20
  obtain rfl := Option.some.inj H
  go_enter Try.func71, Try.ntmps71
  go_wp2_with (first | ((with_reducible refine gate_callee (f := 88) rfl ?_); refine goesL_ (some 7) rfl rfl Try.func88 (by kernel_rfl) rfl #[.string a0] rfl (by (try simp only [List.map_toArray, List.map_cons, List.map_nil]); first | done | rfl | (simp only [List.length_drop, List.length_take]; rfl)) ?_; (with_reducible refine (bonsairef04_First.calls k a0 t176 t177 _ A2.out).mono ?_); rintro e w' ⟨rfl, ⟨nd, rfl⟩⟩; refine ⟨_, rfl, ?_⟩))
  go_ret
  exact ⟨by first | rfl | (simp; done) | (simp [*]; done), by repeat (first | exact Drawn0.refl _ | apply Drawn0.step)⟩
end Go.Proofs.Ytfcndhajcikgiaa.B
namespace Go.Proofs.Ytfcndhajcikgiaa.B
open Go.RowKit Go.Proofs.Sp Go.Proofs.Fl Go.Proofs.YtfcndhajcikgiaaW.PrintWords Go.Proofs.YtfcndhajcikgiaaW.PrintLast Go.Proofs.YtfcndhajcikgiaaW.PrintMore
theorem bt_nat (s : ByteArray) (i : Nat) (h : i < s.size) : bt s (i : Int) = (s[i].toNat : Int) := by
  unfold bt; rw [dif_pos (by simpa using h)]; rfl
/-- Is there a byte from lo to hi at a place? -/
def inb (s : ByteArray) (i : Nat) (lo hi : Int) : Bool := decide (i < s.size) && (decide (lo ≤ bt s i) && decide (bt s i ≤ hi))
theorem in_f (s : ByteArray) (j : Int) (i : Nat) (lo hi : Int) (hj : j = i) : bonsairef04_in.f s j lo hi = some (inb s i lo hi) := by
  subst hj
  unfold bonsairef04_in.f inb
  have hr := bt_range s (i : Int)
  by_cases h : i < s.size
  · rw [if_pos (by omega), if_pos (by omega), decide_eq_true h, Bool.true_and]
    rw [show wrap64 (bt s i) = bt s i by unfold wrap64; omega]
    by_cases h1 : lo ≤ bt s i
    · rw [if_pos h1, decide_eq_true h1, Bool.true_and]
    · rw [if_neg h1, decide_eq_false h1, Bool.false_and]
  · rw [if_neg (by omega), decide_eq_false h, Bool.false_and]
theorem tail_inb (s : ByteArray) (k j lo hi : Nat) : tailOk (k + 1) lo hi (s.data.toList.drop j) = (inb s j lo hi && tailOk k 128 191 (s.data.toList.drop (j + 1))) := by
  by_cases h : j < s.size
  · rw [tail_step (by simpa using h)]
    unfold inb
    rw [decide_eq_true h, Bool.true_and, bt_nat s j h]
    congr 1
    have : (s.data.toList[j]'(by simpa using h)) = s[j] := rfl
    rw [this]
    congr 1
    · exact decide_eq_decide.2 (by omega)
    · exact decide_eq_decide.2 (by omega)
  · rw [List.drop_eq_nil_of_le (by simp; omega)]
    unfold inb
    rw [decide_eq_false h]; rfl
/-- What the sign at a place is long: none, where there is none. -/
def signS (s : ByteArray) (i : Nat) : Nat := match headS (bt s i).toNat with
  | none => 0
  | some (k, lo, hi) => if tailOk k lo hi (s.data.toList.drop (i + 1)) then 1 + k else 0
theorem sign_f (s : ByteArray) (i k : Nat) (hi : i < s.size) (hs : s.size ≤ 140737488355328) (hk : 2 ≤ k) : bonsairef04_sign.f k s i = some (signS s i : Int) := by
  obtain ⟨k, rfl⟩ : ∃ m, k = m + 2 := ⟨k - 2, by omega⟩
  have h1 : wrap64 ((i : Int) + 1) = ((i + 1 : Nat) : Int) := by unfold wrap64; omega
  have h2 : wrap64 ((i : Int) + 2) = ((i + 2 : Nat) : Int) := by unfold wrap64; omega
  have h3 : wrap64 ((i : Int) + 3) = ((i + 3 : Nat) : Int) := by unfold wrap64; omega
  have A0 : ∀ lo hi, bonsairef04_in.f s (i : Int) lo hi = some (inb s i lo hi) := fun lo hi => in_f _ _ _ _ _ rfl
  have A1 : ∀ lo hi, bonsairef04_in.f s (((i + 1 : Nat) : Int)) lo hi = some (inb s (i + 1) lo hi) := fun lo hi => in_f _ _ _ _ _ rfl
  have A2 : ∀ lo hi, bonsairef04_in.f s (((i + 2 : Nat) : Int)) lo hi = some (inb s (i + 2) lo hi) := fun lo hi => in_f _ _ _ _ _ rfl
  have A3 : ∀ lo hi, bonsairef04_in.f s (((i + 3 : Nat) : Int)) lo hi = some (inb s (i + 3) lo hi) := fun lo hi => in_f _ _ _ _ _ rfl
  obtain ⟨c, hc, hr⟩ : ∃ c : Nat, bt s i = c ∧ c ≤ 255 := ⟨(bt s i).toNat, by have := bt_range s (i : Int); omega, by have := bt_range s (i : Int); omega⟩
  have A : ∀ lo hi, inb s i lo hi = (decide (lo ≤ (c : Int)) && decide ((c : Int) ≤ hi)) := fun lo hh => by unfold inb; rw [decide_eq_true hi, Bool.true_and, hc]
  unfold signS
  rw [hc]
  simp only [bonsairef04_sign.f, bonsairef04_sign.j0, bonsairef04_sign.j1, h1, h2, h3, A0, A1, A2, A3, A, Option.bind_some, Int.toNat_natCast]
  have T0 : ∀ lo hh, tailOk 0 lo hh (s.data.toList.drop (i + 1)) = true := fun _ _ => rfl
  have T1 : ∀ (lo hh : Nat) (a b : Int), a = lo → b = hh → tailOk 1 lo hh (s.data.toList.drop (i + 1)) = inb s (i + 1) a b := fun lo hh a b e1 e2 => by
    rw [show (1 : Nat) = 0 + 1 from rfl, tail_inb, ← e1, ← e2]; simp [tailOk]
  have T2 : ∀ (lo hh : Nat) (a b : Int), a = lo → b = hh → tailOk 2 lo hh (s.data.toList.drop (i + 1)) = (inb s (i + 1) a b && inb s (i + 2) 128 191) := fun lo hh a b e1 e2 => by
    rw [show (2 : Nat) = 0 + 1 + 1 from rfl, tail_inb, tail_inb, ← e1, ← e2]; simp [tailOk]
  have T3 : ∀ (lo hh : Nat) (a b : Int), a = lo → b = hh → tailOk 3 lo hh (s.data.toList.drop (i + 1)) = (inb s (i + 1) a b && (inb s (i + 2) 128 191 && inb s (i + 3) 128 191)) := fun lo hh a b e1 e2 => by
    rw [show (3 : Nat) = 0 + 1 + 1 + 1 from rfl, tail_inb, tail_inb, tail_inb, ← e1, ← e2]; simp [tailOk]
  have P : ∀ {lo hh : Int}, lo ≤ (c : Int) ∧ (c : Int) ≤ hh → (decide (lo ≤ (c : Int)) && decide ((c : Int) ≤ hh)) = true := fun h => by rw [decide_eq_true h.1, decide_eq_true h.2]; rfl
  have N : ∀ {lo hh : Int}, ¬ (lo ≤ (c : Int) ∧ (c : Int) ≤ hh) → (decide (lo ≤ (c : Int)) && decide ((c : Int) ≤ hh)) = false := fun {lo hh} h => by
    rw [Bool.and_eq_false_iff]; by_cases h1 : lo ≤ (c : Int)
    · exact .inr (decide_eq_false (fun h2 => h ⟨h1, h2⟩))
    · exact .inl (decide_eq_false h1)
  clear A0 A1 A2 A3 A h1 h2 h3
  have hcase : (c < 128) ∨ (128 ≤ c ∧ c < 194) ∨ (194 ≤ c ∧ c < 224) ∨ (c = 224) ∨ (225 ≤ c ∧ c < 237) ∨ (c = 237) ∨ (238 ≤ c ∧ c < 240) ∨ (c = 240) ∨ (241 ≤ c ∧ c < 244) ∨ (c = 244) ∨ (245 ≤ c) := by omega
  rcases hcase with h | h | h | h | h | h | h | h | h | h | h
  · rw [show headS c = some (0, 128, 191) by unfold headS; repeat (first | rw [if_pos (by omega)] | rw [if_neg (by omega)])]
    have e0 : (decide ((0 : Int) ≤ (c : Int)) && decide ((c : Int) ≤ 127)) = true := P (by omega)
    have e194 : (decide ((194 : Int) ≤ (c : Int)) && decide ((c : Int) ≤ 223)) = false := N (by omega)
    have e224 : (decide ((224 : Int) ≤ (c : Int)) && decide ((c : Int) ≤ 224)) = false := N (by omega)
    have e225 : (decide ((225 : Int) ≤ (c : Int)) && decide ((c : Int) ≤ 236)) = false := N (by omega)
    have e237 : (decide ((237 : Int) ≤ (c : Int)) && decide ((c : Int) ≤ 237)) = false := N (by omega)
    have e238 : (decide ((238 : Int) ≤ (c : Int)) && decide ((c : Int) ≤ 239)) = false := N (by omega)
    have e240 : (decide ((240 : Int) ≤ (c : Int)) && decide ((c : Int) ≤ 240)) = false := N (by omega)
    have e241 : (decide ((241 : Int) ≤ (c : Int)) && decide ((c : Int) ≤ 243)) = false := N (by omega)
    have e244 : (decide ((244 : Int) ≤ (c : Int)) && decide ((c : Int) ≤ 244)) = false := N (by omega)
    simp only [e0, e194, e224, e225, e237, e238, e240, e241, e244, T0, Bool.false_eq_true, if_true, if_false, Option.bind_some]
    clear e0 e194 e224 e225 e237 e238 e240 e241 e244
    generalize inb s (i + 1) 128 191 = x1_128_191
    cases x1_128_191 <;> first | rfl | simp
  · rw [show headS c = none by unfold headS; repeat (first | rw [if_pos (by omega)] | rw [if_neg (by omega)])]
    have e0 : (decide ((0 : Int) ≤ (c : Int)) && decide ((c : Int) ≤ 127)) = false := N (by omega)
    have e194 : (decide ((194 : Int) ≤ (c : Int)) && decide ((c : Int) ≤ 223)) = false := N (by omega)
    have e224 : (decide ((224 : Int) ≤ (c : Int)) && decide ((c : Int) ≤ 224)) = false := N (by omega)
    have e225 : (decide ((225 : Int) ≤ (c : Int)) && decide ((c : Int) ≤ 236)) = false := N (by omega)
    have e237 : (decide ((237 : Int) ≤ (c : Int)) && decide ((c : Int) ≤ 237)) = false := N (by omega)
    have e238 : (decide ((238 : Int) ≤ (c : Int)) && decide ((c : Int) ≤ 239)) = false := N (by omega)
    have e240 : (decide ((240 : Int) ≤ (c : Int)) && decide ((c : Int) ≤ 240)) = false := N (by omega)
    have e241 : (decide ((241 : Int) ≤ (c : Int)) && decide ((c : Int) ≤ 243)) = false := N (by omega)
    have e244 : (decide ((244 : Int) ≤ (c : Int)) && decide ((c : Int) ≤ 244)) = false := N (by omega)
    simp only [e0, e194, e224, e225, e237, e238, e240, e241, e244, Bool.false_eq_true, if_true, if_false, Option.bind_some]
    clear e0 e194 e224 e225 e237 e238 e240 e241 e244
    generalize inb s (i + 1) 128 191 = x1_128_191
    generalize inb s (i + 2) 128 191 = x2_128_191
    generalize inb s (i + 3) 128 191 = x3_128_191
    cases x1_128_191 <;> cases x2_128_191 <;> cases x3_128_191 <;> first | rfl | simp
  · rw [show headS c = some (1, 128, 191) by unfold headS; repeat (first | rw [if_pos (by omega)] | rw [if_neg (by omega)])]
    have e0 : (decide ((0 : Int) ≤ (c : Int)) && decide ((c : Int) ≤ 127)) = false := N (by omega)
    have e194 : (decide ((194 : Int) ≤ (c : Int)) && decide ((c : Int) ≤ 223)) = true := P (by omega)
    have e224 : (decide ((224 : Int) ≤ (c : Int)) && decide ((c : Int) ≤ 224)) = false := N (by omega)
    have e225 : (decide ((225 : Int) ≤ (c : Int)) && decide ((c : Int) ≤ 236)) = false := N (by omega)
    have e237 : (decide ((237 : Int) ≤ (c : Int)) && decide ((c : Int) ≤ 237)) = false := N (by omega)
    have e238 : (decide ((238 : Int) ≤ (c : Int)) && decide ((c : Int) ≤ 239)) = false := N (by omega)
    have e240 : (decide ((240 : Int) ≤ (c : Int)) && decide ((c : Int) ≤ 240)) = false := N (by omega)
    have e241 : (decide ((241 : Int) ≤ (c : Int)) && decide ((c : Int) ≤ 243)) = false := N (by omega)
    have e244 : (decide ((244 : Int) ≤ (c : Int)) && decide ((c : Int) ≤ 244)) = false := N (by omega)
    simp only [e0, e194, e224, e225, e237, e238, e240, e241, e244, T1 128 191 128 191 rfl rfl, Bool.false_eq_true, if_true, if_false, Option.bind_some]
    clear e0 e194 e224 e225 e237 e238 e240 e241 e244
    generalize inb s (i + 1) 128 191 = x1_128_191
    generalize inb s (i + 2) 128 191 = x2_128_191
    generalize inb s (i + 3) 128 191 = x3_128_191
    cases x1_128_191 <;> cases x2_128_191 <;> cases x3_128_191 <;> first | rfl | simp
  · rw [show headS c = some (2, 160, 191) by unfold headS; repeat (first | rw [if_pos (by omega)] | rw [if_neg (by omega)])]
    have e0 : (decide ((0 : Int) ≤ (c : Int)) && decide ((c : Int) ≤ 127)) = false := N (by omega)
    have e194 : (decide ((194 : Int) ≤ (c : Int)) && decide ((c : Int) ≤ 223)) = false := N (by omega)
    have e224 : (decide ((224 : Int) ≤ (c : Int)) && decide ((c : Int) ≤ 224)) = true := P (by omega)
    have e225 : (decide ((225 : Int) ≤ (c : Int)) && decide ((c : Int) ≤ 236)) = false := N (by omega)
    have e237 : (decide ((237 : Int) ≤ (c : Int)) && decide ((c : Int) ≤ 237)) = false := N (by omega)
    have e238 : (decide ((238 : Int) ≤ (c : Int)) && decide ((c : Int) ≤ 239)) = false := N (by omega)
    have e240 : (decide ((240 : Int) ≤ (c : Int)) && decide ((c : Int) ≤ 240)) = false := N (by omega)
    have e241 : (decide ((241 : Int) ≤ (c : Int)) && decide ((c : Int) ≤ 243)) = false := N (by omega)
    have e244 : (decide ((244 : Int) ≤ (c : Int)) && decide ((c : Int) ≤ 244)) = false := N (by omega)
    simp only [e0, e194, e224, e225, e237, e238, e240, e241, e244, T2 160 191 160 191 rfl rfl, Bool.false_eq_true, if_true, if_false, Option.bind_some]
    clear e0 e194 e224 e225 e237 e238 e240 e241 e244
    generalize inb s (i + 1) 128 191 = x1_128_191
    generalize inb s (i + 1) 160 191 = x1_160_191
    generalize inb s (i + 2) 128 191 = x2_128_191
    generalize inb s (i + 3) 128 191 = x3_128_191
    cases x1_128_191 <;> cases x1_160_191 <;> cases x2_128_191 <;> cases x3_128_191 <;> first | rfl | simp
  · rw [show headS c = some (2, 128, 191) by unfold headS; repeat (first | rw [if_pos (by omega)] | rw [if_neg (by omega)])]
    have e0 : (decide ((0 : Int) ≤ (c : Int)) && decide ((c : Int) ≤ 127)) = false := N (by omega)
    have e194 : (decide ((194 : Int) ≤ (c : Int)) && decide ((c : Int) ≤ 223)) = false := N (by omega)
    have e224 : (decide ((224 : Int) ≤ (c : Int)) && decide ((c : Int) ≤ 224)) = false := N (by omega)
    have e225 : (decide ((225 : Int) ≤ (c : Int)) && decide ((c : Int) ≤ 236)) = true := P (by omega)
    have e237 : (decide ((237 : Int) ≤ (c : Int)) && decide ((c : Int) ≤ 237)) = false := N (by omega)
    have e238 : (decide ((238 : Int) ≤ (c : Int)) && decide ((c : Int) ≤ 239)) = false := N (by omega)
    have e240 : (decide ((240 : Int) ≤ (c : Int)) && decide ((c : Int) ≤ 240)) = false := N (by omega)
    have e241 : (decide ((241 : Int) ≤ (c : Int)) && decide ((c : Int) ≤ 243)) = false := N (by omega)
    have e244 : (decide ((244 : Int) ≤ (c : Int)) && decide ((c : Int) ≤ 244)) = false := N (by omega)
    simp only [e0, e194, e224, e225, e237, e238, e240, e241, e244, T2 128 191 128 191 rfl rfl, Bool.false_eq_true, if_true, if_false, Option.bind_some]
    clear e0 e194 e224 e225 e237 e238 e240 e241 e244
    generalize inb s (i + 1) 128 191 = x1_128_191
    generalize inb s (i + 2) 128 191 = x2_128_191
    generalize inb s (i + 3) 128 191 = x3_128_191
    cases x1_128_191 <;> cases x2_128_191 <;> cases x3_128_191 <;> first | rfl | simp
  · rw [show headS c = some (2, 128, 159) by unfold headS; repeat (first | rw [if_pos (by omega)] | rw [if_neg (by omega)])]
    have e0 : (decide ((0 : Int) ≤ (c : Int)) && decide ((c : Int) ≤ 127)) = false := N (by omega)
    have e194 : (decide ((194 : Int) ≤ (c : Int)) && decide ((c : Int) ≤ 223)) = false := N (by omega)
    have e224 : (decide ((224 : Int) ≤ (c : Int)) && decide ((c : Int) ≤ 224)) = false := N (by omega)
    have e225 : (decide ((225 : Int) ≤ (c : Int)) && decide ((c : Int) ≤ 236)) = false := N (by omega)
    have e237 : (decide ((237 : Int) ≤ (c : Int)) && decide ((c : Int) ≤ 237)) = true := P (by omega)
    have e238 : (decide ((238 : Int) ≤ (c : Int)) && decide ((c : Int) ≤ 239)) = false := N (by omega)
    have e240 : (decide ((240 : Int) ≤ (c : Int)) && decide ((c : Int) ≤ 240)) = false := N (by omega)
    have e241 : (decide ((241 : Int) ≤ (c : Int)) && decide ((c : Int) ≤ 243)) = false := N (by omega)
    have e244 : (decide ((244 : Int) ≤ (c : Int)) && decide ((c : Int) ≤ 244)) = false := N (by omega)
    simp only [e0, e194, e224, e225, e237, e238, e240, e241, e244, T2 128 159 128 159 rfl rfl, Bool.false_eq_true, if_true, if_false, Option.bind_some]
    clear e0 e194 e224 e225 e237 e238 e240 e241 e244
    generalize inb s (i + 1) 128 159 = x1_128_159
    generalize inb s (i + 1) 128 191 = x1_128_191
    generalize inb s (i + 2) 128 191 = x2_128_191
    generalize inb s (i + 3) 128 191 = x3_128_191
    cases x1_128_159 <;> cases x1_128_191 <;> cases x2_128_191 <;> cases x3_128_191 <;> first | rfl | simp
  · rw [show headS c = some (2, 128, 191) by unfold headS; repeat (first | rw [if_pos (by omega)] | rw [if_neg (by omega)])]
    have e0 : (decide ((0 : Int) ≤ (c : Int)) && decide ((c : Int) ≤ 127)) = false := N (by omega)
    have e194 : (decide ((194 : Int) ≤ (c : Int)) && decide ((c : Int) ≤ 223)) = false := N (by omega)
    have e224 : (decide ((224 : Int) ≤ (c : Int)) && decide ((c : Int) ≤ 224)) = false := N (by omega)
    have e225 : (decide ((225 : Int) ≤ (c : Int)) && decide ((c : Int) ≤ 236)) = false := N (by omega)
    have e237 : (decide ((237 : Int) ≤ (c : Int)) && decide ((c : Int) ≤ 237)) = false := N (by omega)
    have e238 : (decide ((238 : Int) ≤ (c : Int)) && decide ((c : Int) ≤ 239)) = true := P (by omega)
    have e240 : (decide ((240 : Int) ≤ (c : Int)) && decide ((c : Int) ≤ 240)) = false := N (by omega)
    have e241 : (decide ((241 : Int) ≤ (c : Int)) && decide ((c : Int) ≤ 243)) = false := N (by omega)
    have e244 : (decide ((244 : Int) ≤ (c : Int)) && decide ((c : Int) ≤ 244)) = false := N (by omega)
    simp only [e0, e194, e224, e225, e237, e238, e240, e241, e244, T2 128 191 128 191 rfl rfl, Bool.false_eq_true, if_true, if_false, Option.bind_some]
    clear e0 e194 e224 e225 e237 e238 e240 e241 e244
    generalize inb s (i + 1) 128 191 = x1_128_191
    generalize inb s (i + 2) 128 191 = x2_128_191
    generalize inb s (i + 3) 128 191 = x3_128_191
    cases x1_128_191 <;> cases x2_128_191 <;> cases x3_128_191 <;> first | rfl | simp
  · rw [show headS c = some (3, 144, 191) by unfold headS; repeat (first | rw [if_pos (by omega)] | rw [if_neg (by omega)])]
    have e0 : (decide ((0 : Int) ≤ (c : Int)) && decide ((c : Int) ≤ 127)) = false := N (by omega)
    have e194 : (decide ((194 : Int) ≤ (c : Int)) && decide ((c : Int) ≤ 223)) = false := N (by omega)
    have e224 : (decide ((224 : Int) ≤ (c : Int)) && decide ((c : Int) ≤ 224)) = false := N (by omega)
    have e225 : (decide ((225 : Int) ≤ (c : Int)) && decide ((c : Int) ≤ 236)) = false := N (by omega)
    have e237 : (decide ((237 : Int) ≤ (c : Int)) && decide ((c : Int) ≤ 237)) = false := N (by omega)
    have e238 : (decide ((238 : Int) ≤ (c : Int)) && decide ((c : Int) ≤ 239)) = false := N (by omega)
    have e240 : (decide ((240 : Int) ≤ (c : Int)) && decide ((c : Int) ≤ 240)) = true := P (by omega)
    have e241 : (decide ((241 : Int) ≤ (c : Int)) && decide ((c : Int) ≤ 243)) = false := N (by omega)
    have e244 : (decide ((244 : Int) ≤ (c : Int)) && decide ((c : Int) ≤ 244)) = false := N (by omega)
    simp only [e0, e194, e224, e225, e237, e238, e240, e241, e244, T3 144 191 144 191 rfl rfl, Bool.false_eq_true, if_true, if_false, Option.bind_some]
    clear e0 e194 e224 e225 e237 e238 e240 e241 e244
    generalize inb s (i + 1) 128 191 = x1_128_191
    generalize inb s (i + 1) 144 191 = x1_144_191
    generalize inb s (i + 2) 128 191 = x2_128_191
    generalize inb s (i + 3) 128 191 = x3_128_191
    cases x1_128_191 <;> cases x1_144_191 <;> cases x2_128_191 <;> cases x3_128_191 <;> first | rfl | simp
  · rw [show headS c = some (3, 128, 191) by unfold headS; repeat (first | rw [if_pos (by omega)] | rw [if_neg (by omega)])]
    have e0 : (decide ((0 : Int) ≤ (c : Int)) && decide ((c : Int) ≤ 127)) = false := N (by omega)
    have e194 : (decide ((194 : Int) ≤ (c : Int)) && decide ((c : Int) ≤ 223)) = false := N (by omega)
    have e224 : (decide ((224 : Int) ≤ (c : Int)) && decide ((c : Int) ≤ 224)) = false := N (by omega)
    have e225 : (decide ((225 : Int) ≤ (c : Int)) && decide ((c : Int) ≤ 236)) = false := N (by omega)
    have e237 : (decide ((237 : Int) ≤ (c : Int)) && decide ((c : Int) ≤ 237)) = false := N (by omega)
    have e238 : (decide ((238 : Int) ≤ (c : Int)) && decide ((c : Int) ≤ 239)) = false := N (by omega)
    have e240 : (decide ((240 : Int) ≤ (c : Int)) && decide ((c : Int) ≤ 240)) = false := N (by omega)
    have e241 : (decide ((241 : Int) ≤ (c : Int)) && decide ((c : Int) ≤ 243)) = true := P (by omega)
    have e244 : (decide ((244 : Int) ≤ (c : Int)) && decide ((c : Int) ≤ 244)) = false := N (by omega)
    simp only [e0, e194, e224, e225, e237, e238, e240, e241, e244, T3 128 191 128 191 rfl rfl, Bool.false_eq_true, if_true, if_false, Option.bind_some]
    clear e0 e194 e224 e225 e237 e238 e240 e241 e244
    generalize inb s (i + 1) 128 191 = x1_128_191
    generalize inb s (i + 2) 128 191 = x2_128_191
    generalize inb s (i + 3) 128 191 = x3_128_191
    cases x1_128_191 <;> cases x2_128_191 <;> cases x3_128_191 <;> first | rfl | simp
  · rw [show headS c = some (3, 128, 143) by unfold headS; repeat (first | rw [if_pos (by omega)] | rw [if_neg (by omega)])]
    have e0 : (decide ((0 : Int) ≤ (c : Int)) && decide ((c : Int) ≤ 127)) = false := N (by omega)
    have e194 : (decide ((194 : Int) ≤ (c : Int)) && decide ((c : Int) ≤ 223)) = false := N (by omega)
    have e224 : (decide ((224 : Int) ≤ (c : Int)) && decide ((c : Int) ≤ 224)) = false := N (by omega)
    have e225 : (decide ((225 : Int) ≤ (c : Int)) && decide ((c : Int) ≤ 236)) = false := N (by omega)
    have e237 : (decide ((237 : Int) ≤ (c : Int)) && decide ((c : Int) ≤ 237)) = false := N (by omega)
    have e238 : (decide ((238 : Int) ≤ (c : Int)) && decide ((c : Int) ≤ 239)) = false := N (by omega)
    have e240 : (decide ((240 : Int) ≤ (c : Int)) && decide ((c : Int) ≤ 240)) = false := N (by omega)
    have e241 : (decide ((241 : Int) ≤ (c : Int)) && decide ((c : Int) ≤ 243)) = false := N (by omega)
    have e244 : (decide ((244 : Int) ≤ (c : Int)) && decide ((c : Int) ≤ 244)) = true := P (by omega)
    simp only [e0, e194, e224, e225, e237, e238, e240, e241, e244, T3 128 143 128 143 rfl rfl, Bool.false_eq_true, if_true, if_false, Option.bind_some]
    clear e0 e194 e224 e225 e237 e238 e240 e241 e244
    generalize inb s (i + 1) 128 143 = x1_128_143
    generalize inb s (i + 1) 128 191 = x1_128_191
    generalize inb s (i + 2) 128 191 = x2_128_191
    generalize inb s (i + 3) 128 191 = x3_128_191
    cases x1_128_143 <;> cases x1_128_191 <;> cases x2_128_191 <;> cases x3_128_191 <;> first | rfl | simp
  · rw [show headS c = none by unfold headS; repeat (first | rw [if_pos (by omega)] | rw [if_neg (by omega)])]
    have e0 : (decide ((0 : Int) ≤ (c : Int)) && decide ((c : Int) ≤ 127)) = false := N (by omega)
    have e194 : (decide ((194 : Int) ≤ (c : Int)) && decide ((c : Int) ≤ 223)) = false := N (by omega)
    have e224 : (decide ((224 : Int) ≤ (c : Int)) && decide ((c : Int) ≤ 224)) = false := N (by omega)
    have e225 : (decide ((225 : Int) ≤ (c : Int)) && decide ((c : Int) ≤ 236)) = false := N (by omega)
    have e237 : (decide ((237 : Int) ≤ (c : Int)) && decide ((c : Int) ≤ 237)) = false := N (by omega)
    have e238 : (decide ((238 : Int) ≤ (c : Int)) && decide ((c : Int) ≤ 239)) = false := N (by omega)
    have e240 : (decide ((240 : Int) ≤ (c : Int)) && decide ((c : Int) ≤ 240)) = false := N (by omega)
    have e241 : (decide ((241 : Int) ≤ (c : Int)) && decide ((c : Int) ≤ 243)) = false := N (by omega)
    have e244 : (decide ((244 : Int) ≤ (c : Int)) && decide ((c : Int) ≤ 244)) = false := N (by omega)
    simp only [e0, e194, e224, e225, e237, e238, e240, e241, e244, Bool.false_eq_true, if_true, if_false, Option.bind_some]
    clear e0 e194 e224 e225 e237 e238 e240 e241 e244
    generalize inb s (i + 1) 128 191 = x1_128_191
    generalize inb s (i + 2) 128 191 = x2_128_191
    generalize inb s (i + 3) 128 191 = x3_128_191
    cases x1_128_191 <;> cases x2_128_191 <;> cases x3_128_191 <;> first | rfl | simp
/-- From a place on: is there a byte at which no sign begins? -/
theorem first_l (s : ByteArray) (hs : s.size ≤ 140737488355328) : ∀ (d i k : Nat), s.size - i ≤ d → i ≤ s.size → d + 3 ≤ k →
    ∃ r, bonsairef04_First.l0 k s i = some (r, !(decide (stopAt (s.data.toList.drop i) = s.size - i)))
  | 0, i, k, hd, hi, hk => by
    obtain ⟨k, rfl⟩ : ∃ m, k = m + 1 := ⟨k - 1, by omega⟩
    rw [List.drop_eq_nil_of_le (by simp; omega)]
    exact ⟨0, by rw [bonsairef04_First.l0, if_neg (by omega)]; simp [stopAt, show s.size - i = 0 by omega]⟩
  | d + 1, i, k, hd, hi, hk => by
    obtain ⟨k, rfl⟩ : ∃ m, k = m + 1 := ⟨k - 1, by omega⟩
    by_cases h : i < s.size
    · have hl : i < s.data.toList.length := by simpa using h
      have hst := stop_drop hl
      have hb : (bt s (i : Int)).toNat = (s.data.toList[i]'hl).toNat := by rw [bt_nat s i h]; rfl
      rw [bonsairef04_First.l0, if_pos (by omega), sign_f s i k h hs (by omega)]
      simp only [Option.bind_some]
      unfold signS
      rw [hb]
      cases hh : headS (s.data.toList[i]'hl).toNat with
      | none =>
        rw [hh] at hst
        rw [hst]
        refine ⟨i, ?_⟩
        simp only
        rw [if_pos (by simp), decide_eq_false (by omega)]; rfl
      | some q =>
        obtain ⟨n, lo, hh2⟩ := q
        rw [hh] at hst
        simp only at hst ⊢
        by_cases ht : tailOk n lo hh2 (s.data.toList.drop (i + 1)) = true
        · have hn := tailOk_len _ _ _ _ ht
          simp only [List.length_drop] at hn
          have hn2 : n ≤ s.size - (i + 1) := by simpa using hn
          rw [if_pos ht] at hst ⊢
          rw [if_neg (by omega), show wrap64 ((i : Int) + ((1 + n : Nat) : Int)) = ((i + 1 + n : Nat) : Int) by unfold wrap64; omega]
          obtain ⟨r, hr⟩ := first_l s hs d (i + 1 + n) k (by omega) (by omega) (by omega)
          refine ⟨r, ?_⟩
          rw [hr, hst]
          congr 3
          exact decide_eq_decide.2 (by omega)
        · rw [if_neg ht] at hst ⊢
          refine ⟨i, ?_⟩
          rw [if_pos (by simp), hst, decide_eq_false (by omega)]; rfl
    · rw [List.drop_eq_nil_of_le (by simp; omega)]
      exact ⟨0, by rw [bonsairef04_First.l0, if_neg (by omega)]; simp [stopAt, show s.size - i = 0 by omega]⟩
theorem valid_f (s : ByteArray) (k : Nat) (hs : s.size ≤ 140737488355328) (hk : s.size + 3 ≤ k) : bonsairef04_Valid.f k s = some (validS s.data.toList) := by
  obtain ⟨r, hr⟩ := first_l s hs s.size 0 k (by omega) (by omega) hk
  unfold bonsairef04_Valid.f bonsairef04_First.f
  have hr' : bonsairef04_First.l0 k s 0 = some (r, !(decide (stopAt s.data.toList = s.size))) := by simpa using hr
  rw [hr']
  simp only [Option.bind_some, Bool.not_not]
  unfold validS
  congr 1
end Go.Proofs.Ytfcndhajcikgiaa.B
namespace Go.Proofs.Ytfcndhajcikgiaa.B
open Go.RowKit Go.Proofs.YtfcndhajcikgiaaW.PrintWords Go.Proofs.YtfcndhajcikgiaaW.PrintLast Go.Proofs.YtfcndhajcikgiaaW.PrintMore
/-- A state of type 68 at block g of W; what its slices lead to came in by w0. -/
def IsS68 (w0 W : World) (g : Nat) (f0 : ByteArray) (f1 : Int) (f2 : Int) : Prop := W.heap[g]? = some (.cells #[.string f0, .int .i64 f1, .int .i64 f2] 68 (0, 0)) ∧ w0.heap.size ≤ g
theorem IsS68.grown {w0 W : World} {g : Nat} {f0 : ByteArray} {f1 : Int} {f2 : Int} {W1 : World} {row : Option Nat} (h : IsS68 w0 W g f0 f1 f2) (hw : W.grownBy W1 row) (hne : some g ≠ row) : IsS68 w0 W1 g f0 f1 f2 := by
  obtain ⟨hb, hg⟩ := h
  exact ⟨blk_grown hb hw hne, hg⟩
theorem IsS68.fresh {w0 W : World} {g : Nat} {f0 : ByteArray} {f1 : Int} {f2 : Int} (h : IsS68 w0 W g f0 f1 f2) : ∀ k, W.heap.size ≤ k → k ≠ g := by
  obtain ⟨hb, hg⟩ := h
  exact Kd.freshB hb
theorem IsS68.below {w0 W : World} {g : Nat} {f0 : ByteArray} {f1 : Int} {f2 : Int} {W1 : World} (h : IsS68 w0 W g f0 f1 f2) (hw : Below W.heap.size W W1) : IsS68 w0 W1 g f0 f1 f2 := h.grown (grown_of_below hw none) (by simp)
theorem IsS68.alloc {w0 W : World} {g : Nat} {f0 : ByteArray} {f1 : Int} {f2 : Int} (h : IsS68 w0 W g f0 f1 f2) (o : Obj) : IsS68 w0 (W.alloc o) g f0 f1 f2 := h.below (below_alloc (Below.refl _ _) o)
theorem IsS68.drewN {w0 W : World} {g : Nat} {f0 : ByteArray} {f1 : Int} {f2 : Int} (h : IsS68 w0 W g f0 f1 f2) (m : Nat) : IsS68 w0 (W.drewN m) g f0 f1 f2 := h
theorem IsS68.drew {w0 W : World} {g : Nat} {f0 : ByteArray} {f1 : Int} {f2 : Int} (h : IsS68 w0 W g f0 f1 f2) : IsS68 w0 W.drew g f0 f1 f2 := h
theorem IsS68.at_ {w0 W : World} {g : Nat} {f0 : ByteArray} {f1 : Int} {f2 : Int} {w' : World} {m : Nat} (hq : W.drewN m = w') (h : IsS68 w0 W g f0 f1 f2) : IsS68 w0 w' g f0 f1 f2 := by subst hq; exact IsS68.drewN h m
theorem IsS68.lt {w0 W : World} {g : Nat} {f0 : ByteArray} {f1 : Int} {f2 : Int} (h : IsS68 w0 W g f0 f1 f2) : g < W.heap.size := by
  obtain ⟨hb, hg⟩ := h
  exact blk_lt hb
theorem IsS68.ge {w0 W : World} {g : Nat} {f0 : ByteArray} {f1 : Int} {f2 : Int} (h : IsS68 w0 W g f0 f1 f2) : w0.heap.size ≤ g := by
  obtain ⟨hb, hg⟩ := h
  exact hg
theorem IsS68.far {w0 W : World} {g : Nat} {f0 : ByteArray} {f1 : Int} {f2 : Int} {p : Addr} (h : IsS68 w0 W g f0 f1 f2) (hne : g ≠ p.block) (u : Value) : IsS68 w0 (W.setCell p u) g f0 f1 f2 := by
  obtain ⟨hb, hg⟩ := h
  exact ⟨blk_far hb hne u, hg⟩
theorem cellS68_0 {W : World} {g : Nat} {f0 : ByteArray} {f1 : Int} {f2 : Int} (h : W.heap[g]? = some (.cells #[.string f0, .int .i64 f1, .int .i64 f2] 68 (0, 0))) : W.cell? ⟨g, 0, none⟩ = some (.string f0) := (blk_cell h 0).trans rfl
theorem IsS68.set_0 {w0 W : World} {g : Nat} {f0 : ByteArray} {f1 : Int} {f2 : Int} (h : IsS68 w0 W g f0 f1 f2) (x : ByteArray) : IsS68 w0 (W.setCell ⟨g, 0, none⟩ (.string x)) g x f1 f2 := by
  obtain ⟨hb, hg⟩ := h
  exact ⟨by simpa using blk_set hb 0 (.string x), hg⟩
theorem cellS68_1 {W : World} {g : Nat} {f0 : ByteArray} {f1 : Int} {f2 : Int} (h : W.heap[g]? = some (.cells #[.string f0, .int .i64 f1, .int .i64 f2] 68 (0, 0))) : W.cell? ⟨g, 1, none⟩ = some (.int .i64 f1) := (blk_cell h 1).trans rfl
theorem IsS68.set_1 {w0 W : World} {g : Nat} {f0 : ByteArray} {f1 : Int} {f2 : Int} (h : IsS68 w0 W g f0 f1 f2) (x : Int) : IsS68 w0 (W.setCell ⟨g, 1, none⟩ (.int .i64 x)) g f0 x f2 := by
  obtain ⟨hb, hg⟩ := h
  exact ⟨by simpa using blk_set hb 1 (.int .i64 x), hg⟩
theorem cellS68_2 {W : World} {g : Nat} {f0 : ByteArray} {f1 : Int} {f2 : Int} (h : W.heap[g]? = some (.cells #[.string f0, .int .i64 f1, .int .i64 f2] 68 (0, 0))) : W.cell? ⟨g, 2, none⟩ = some (.int .i64 f2) := (blk_cell h 2).trans rfl
theorem IsS68.set_2 {w0 W : World} {g : Nat} {f0 : ByteArray} {f1 : Int} {f2 : Int} (h : IsS68 w0 W g f0 f1 f2) (x : Int) : IsS68 w0 (W.setCell ⟨g, 2, none⟩ (.int .i64 x)) g f0 f1 x := by
  obtain ⟨hb, hg⟩ := h
  exact ⟨by simpa using blk_set hb 2 (.int .i64 x), hg⟩
theorem IsS68.new (w0 W : World) (f0 : ByteArray) (f1 : Int) (f2 : Int) (hB : Below w0.heap.size w0 W) : IsS68 w0 (W.alloc (.cells #[.string f0, .int .i64 f1, .int .i64 f2] 68)) W.heap.size f0 f1 f2 := ⟨by simpa using heap_alloc_new W _, hB.size⟩
mutual
def bonsairef03_Reader_Num.l0 : Nat → Int → Int → Int → ByteArray → Int → Int → Option (Int × ByteArray × Int × Int)
  | 0, _, _, _, _, _, _ => none
  | k + 1, x3, x4, x5, x1000, x1001, x1002 => if x5 < 10 then (bonsairef03_Reader_Num.j1 k x3 x4 x5 (x1002 == 0) x1000 x1001 x1002) else (bonsairef03_Reader_Num.j1 k x3 x4 x5 false x1000 x1001 x1002)
def bonsairef03_Reader_Num.j1 : Nat → Int → Int → Int → Bool → ByteArray → Int → Int → Option (Int × ByteArray × Int × Int)
  | 0, _, _, _, _, _, _, _ => none
  | k + 1, x3, x4, x5, x15, x1000, x1001, x1002 => if x15 = true then (if (wrap64 (x1001 + x5)) ≥ (x1000.size : Int) then (some (0, x1000, x1001, 2)) else (if 0 ≤ (wrap64 (x1001 + x5)) then (if (wrap64 (x1001 + x5)) < (x1000.size : Int) then (if x5 = 9 then (if (IntKind.u64.wrap (bt x1000 (wrap64 (x1001 + x5)))) > 1 then (bonsairef03_Reader_Num.j2 k x3 x4 x5 (IntKind.u64.wrap (bt x1000 (wrap64 (x1001 + x5)))) true x1000 x1001 x1002) else (if x5 > 0 then (bonsairef03_Reader_Num.j2 k x3 x4 x5 (IntKind.u64.wrap (bt x1000 (wrap64 (x1001 + x5)))) ((IntKind.u64.wrap (bt x1000 (wrap64 (x1001 + x5)))) == 0) x1000 x1001 x1002) else (bonsairef03_Reader_Num.j2 k x3 x4 x5 (IntKind.u64.wrap (bt x1000 (wrap64 (x1001 + x5)))) false x1000 x1001 x1002))) else (if x5 > 0 then (bonsairef03_Reader_Num.j2 k x3 x4 x5 (IntKind.u64.wrap (bt x1000 (wrap64 (x1001 + x5)))) ((IntKind.u64.wrap (bt x1000 (wrap64 (x1001 + x5)))) == 0) x1000 x1001 x1002) else (bonsairef03_Reader_Num.j2 k x3 x4 x5 (IntKind.u64.wrap (bt x1000 (wrap64 (x1001 + x5)))) false x1000 x1001 x1002))) else (none)) else (none))) else (some (0, x1000, x1001, x1002))
def bonsairef03_Reader_Num.j2 : Nat → Int → Int → Int → Int → Bool → ByteArray → Int → Int → Option (Int × ByteArray × Int × Int)
  | 0, _, _, _, _, _, _, _, _ => none
  | k + 1, x3, x4, x5, x6, x58, x1000, x1001, x1002 => if x58 = true then (some (0, x1000, x1001, 3)) else (if x6 < 128 then (some (IntKind.u64.wrap (x3 + (IntKind.u64.wrap ((Int.tmod x6 128) * x4))), x1000, wrap64 ((wrap64 (x1001 + x5)) + 1), x1002)) else (bonsairef03_Reader_Num.l0 k (IntKind.u64.wrap (x3 + (IntKind.u64.wrap ((Int.tmod x6 128) * x4)))) (IntKind.u64.wrap (x4 * 128)) (wrap64 (x5 + 1)) x1000 x1001 x1002))
end
def bonsairef03_Reader_Num.f (k : Nat) (s0_0 : ByteArray) (s0_1 : Int) (s0_2 : Int) : Option (Int × ByteArray × Int × Int) := bonsairef03_Reader_Num.l0 k 0 1 0 s0_0 s0_1 s0_2
theorem bonsairef03_Reader_Num.mono_l : ∀ k, (∀ y0 y1 y2 y3 y4 y5, LeO (bonsairef03_Reader_Num.l0 k y0 y1 y2 y3 y4 y5) (bonsairef03_Reader_Num.l0 (k + 1) y0 y1 y2 y3 y4 y5)) ∧ (∀ y0 y1 y2 y3 y4 y5 y6, LeO (bonsairef03_Reader_Num.j1 k y0 y1 y2 y3 y4 y5 y6) (bonsairef03_Reader_Num.j1 (k + 1) y0 y1 y2 y3 y4 y5 y6)) ∧ (∀ y0 y1 y2 y3 y4 y5 y6 y7, LeO (bonsairef03_Reader_Num.j2 k y0 y1 y2 y3 y4 y5 y6 y7) (bonsairef03_Reader_Num.j2 (k + 1) y0 y1 y2 y3 y4 y5 y6 y7))
  | 0 => ⟨fun _ _ _ _ _ _ r h => by simp [bonsairef03_Reader_Num.l0] at h, fun _ _ _ _ _ _ _ r h => by simp [bonsairef03_Reader_Num.j1] at h, fun _ _ _ _ _ _ _ _ r h => by simp [bonsairef03_Reader_Num.j2] at h⟩
  | k + 1 => by
    obtain ⟨ih0, ih1, ih2⟩ := bonsairef03_Reader_Num.mono_l k
    refine ⟨?_, ?_, ?_⟩
    · intro y0 y1 y2 y3 y4 y5
      unfold bonsairef03_Reader_Num.l0
      repeat' first
      | (with_reducible exact ih0 _ _ _ _ _ _)
      | (with_reducible exact ih1 _ _ _ _ _ _ _)
      | (with_reducible exact ih2 _ _ _ _ _ _ _ _)
      | (with_reducible exact LeO.refl _)
      | (with_reducible exact LeO.none _)
      | (with_reducible refine LeO.ite ?_ ?_)
      | (with_reducible refine LeO.bind ?_ (fun _ => ?_))
      | exact ih0 _ _ _ _ _ _
      | exact ih1 _ _ _ _ _ _ _
      | exact ih2 _ _ _ _ _ _ _ _
      | exact LeO.none _
      | refine LeO.ite ?_ ?_
      | refine LeO.bind ?_ (fun _ => ?_)
    · intro y0 y1 y2 y3 y4 y5 y6
      unfold bonsairef03_Reader_Num.j1
      repeat' first
      | (with_reducible exact ih0 _ _ _ _ _ _)
      | (with_reducible exact ih1 _ _ _ _ _ _ _)
      | (with_reducible exact ih2 _ _ _ _ _ _ _ _)
      | (with_reducible exact LeO.refl _)
      | (with_reducible exact LeO.none _)
      | (with_reducible refine LeO.ite ?_ ?_)
      | (with_reducible refine LeO.bind ?_ (fun _ => ?_))
      | exact ih0 _ _ _ _ _ _
      | exact ih1 _ _ _ _ _ _ _
      | exact ih2 _ _ _ _ _ _ _ _
      | exact LeO.none _
      | refine LeO.ite ?_ ?_
      | refine LeO.bind ?_ (fun _ => ?_)
    · intro y0 y1 y2 y3 y4 y5 y6 y7
      unfold bonsairef03_Reader_Num.j2
      repeat' first
      | (with_reducible exact ih0 _ _ _ _ _ _)
      | (with_reducible exact ih1 _ _ _ _ _ _ _)
      | (with_reducible exact ih2 _ _ _ _ _ _ _ _)
      | (with_reducible exact LeO.refl _)
      | (with_reducible exact LeO.none _)
      | (with_reducible refine LeO.ite ?_ ?_)
      | (with_reducible refine LeO.bind ?_ (fun _ => ?_))
      | exact ih0 _ _ _ _ _ _
      | exact ih1 _ _ _ _ _ _ _
      | exact ih2 _ _ _ _ _ _ _ _
      | exact LeO.none _
      | refine LeO.ite ?_ ?_
      | refine LeO.bind ?_ (fun _ => ?_)
theorem bonsairef03_Reader_Num.mono : ∀ a0 a1 a2 k, LeO (bonsairef03_Reader_Num.f k a0 a1 a2) (bonsairef03_Reader_Num.f (k + 1) a0 a1 a2) := by
  intro a0 a1 a2 k
  obtain ⟨ih0, ih1, ih2⟩ := bonsairef03_Reader_Num.mono_l k
  unfold bonsairef03_Reader_Num.f
  repeat' first
      | (with_reducible exact ih0 _ _ _ _ _ _)
      | (with_reducible exact ih1 _ _ _ _ _ _ _)
      | (with_reducible exact ih2 _ _ _ _ _ _ _ _)
      | (with_reducible exact LeO.refl _)
      | (with_reducible exact LeO.none _)
      | (with_reducible refine LeO.ite ?_ ?_)
      | (with_reducible refine LeO.bind ?_ (fun _ => ?_))
      | exact ih0 _ _ _ _ _ _
      | exact ih1 _ _ _ _ _ _ _
      | exact ih2 _ _ _ _ _ _ _ _
      | exact LeO.none _
      | refine LeO.ite ?_ ?_
      | refine LeO.bind ?_ (fun _ => ?_)
set_option maxHeartbeats 8000000 in
set_option maxRecDepth 100000 in
theorem bonsairef03_Reader_Num.calls (k : Nat) (g : Nat) (s0_0 : ByteArray) (s0_1 : Int) (s0_2 : Int) (r1 : Int) (r2 : ByteArray) (r3 : Int) (r4 : Int) (w0 w : World) (hI : IsS68 w0 w g s0_0 s0_1 s0_2) (hB : Below w0.heap.size w0 w) (h : bonsairef03_Reader_Num.f k s0_0 s0_1 s0_2 = some (r1, r2, r3, r4)) :
    Calls Try.prog 36 #[.pointer (some ⟨g, 0, none⟩)] w fun e w' => e = .returned (.int .u64 r1) ∧ IsS68 w0 w' g r2 r3 r4 ∧ Below w0.heap.size w0 w' ∧ KeepBut w w' g none := by
  have HI0 := Aside0.mk hI
  have HK := Aside0.mk (KeepBut.refl w g none)
  have HL := Aside0.mk hB.size
  clear hI
  have HW0 := Aside0.mk hB.size
  have HB := Aside0.mk hB
  clear hB
  have H : (bonsairef03_Reader_Num.l0 k 0 1 0 s0_0 s0_1 s0_2) = some (r1, r2, r3, r4) := h
  clear h
  have H' := Aside0.mk H
  clear H
  go_enter Try.func36, Try.ntmps36
  go_wp2
  repeat (go_quiet (fail); try go_wp2)
  go_loopg [3, 4, 5] k (fun kq v3 v4 v5 w' => ∃ (x3_1 : Int) (x4_1 : Int) (x5_1 : Int) (x1001_1 : Int) (x1002_1 : Int), v3 = .int .u64 x3_1 ∧ v4 = .int .u64 x4_1 ∧ v5 = .int .i64 x5_1 ∧ Aside0 (bonsairef03_Reader_Num.l0 kq x3_1 x4_1 x5_1 s0_0 x1001_1 x1002_1 = some (r1, r2, r3, r4)) ∧ Aside0 (kq ≤ k) ∧ Aside0 (IsS68 w0 w' g s0_0 x1001_1 x1002_1) ∧ Aside0 (KeepBut w w' g none) ∧ Aside0 (Below w0.heap.size w0 w'))
  case atStart => exact ⟨(0), (1), (0), (s0_1), (s0_2), (by first | rfl | (simp; done) | (simp [*]; done)), (by first | rfl | (simp; done) | (simp [*]; done)), (by first | rfl | (simp; done) | (simp [*]; done)), H', ⟨Nat.le_refl _⟩, ⟨by repeat (first | (with_reducible first | exact HI0.out | apply IsS68.alloc | apply IsS68.drewN | apply IsS68.drew | apply IsS68.set_0 | apply IsS68.set_1 | apply IsS68.set_2) | exact HI0.out)⟩, ⟨by repeat (first | (with_reducible first | exact HK.out | apply KeepBut.set_ | apply keep_drewN | apply keep_drew | apply keep_alloc) | exact HK.out)⟩, ⟨by repeat (first | (with_reducible first | exact HB.out | apply below_alloc | apply pw_below_drewN | apply below_drew1 | refine below_set ?_ (IsS68.ge HI0.out)) | exact HB.out)⟩⟩
  case round =>
    clear H'
    obtain ⟨x3_1, x4_1, x5_1, x1001_1, x1002_1, rfl, rfl, rfl, HA, HK1, HI0, HK, HB⟩ := hrel
    cases gk with
    | zero => exact absurd HA.out (by simp [bonsairef03_Reader_Num.l0])
    | succ k1 =>
      have H := HA.out
      clear HA
      simp only [bonsairef03_Reader_Num.l0] at H
      have HC2 := Aside0.mk H
      clear H
      go_upto_region 4 with (fail)
      repeat (go_quiet (fail); go_upto_region 4 with (fail))
      go_cut [15] (fun v15 wc => ∃ (kq : Nat) (x15_1 : Bool), v15 = .bool x15_1 ∧ Aside0 (bonsairef03_Reader_Num.j1 kq x3_1 x4_1 x5_1 x15_1 s0_0 x1001_1 x1002_1 = some (r1, r2, r3, r4)) ∧ Aside0 (kq ≤ k1) ∧ Aside0 (IsS68 w0 wc g s0_0 x1001_1 x1002_1) ∧ Aside0 (KeepBut w wc g none) ∧ Aside0 (Below w0.heap.size w0 wc))
      case first =>
        have H := HC2.out
        clear HC2
        by_cases c3 : x5_1 < 10
        · rw [if_pos c3] at H
          have c3b0 : decide (x5_1 < 10) = true := decide_eq_true c3
          clear c3
          (first | rw [c3b0] | (simp only [i64_w, i32_w]; rw [c3b0]) | skip)
          have H' := Aside0.mk H
          clear H
          obtain ⟨HGz4, hgz4⟩ := HI0.out
          have hcz4_0 := cellS68_0 HGz4
          have hcz4_1 := cellS68_1 HGz4
          have hcz4_2 := cellS68_2 HGz4
          have hfz4_0 := blk_frozen HGz4 0
          have hfz4_1 := blk_frozen HGz4 1
          have hfz4_2 := blk_frozen HGz4 2
          clear HGz4 hgz4
          go_wp2
          repeat (go_quiet (fail); try go_wp2)
          go_meet
          case rel => exact ⟨_, ((x1002_1 == 0)), (by first | rfl | (simp; done) | (simp [*]; done)), H', ⟨by have := HK1.out; first | omega | exact Nat.le_refl _⟩, ⟨by repeat (first | (with_reducible first | exact HI0.out | apply IsS68.alloc | apply IsS68.drewN | apply IsS68.drew | apply IsS68.set_0 | apply IsS68.set_1 | apply IsS68.set_2) | exact HI0.out)⟩, ⟨by repeat (first | (with_reducible first | exact HK.out | apply KeepBut.set_ | apply keep_drewN | apply keep_drew | apply keep_alloc) | exact HK.out)⟩, ⟨by repeat (first | (with_reducible first | exact HB.out | apply below_alloc | apply pw_below_drewN | apply below_drew1 | refine below_set ?_ (IsS68.ge HI0.out)) | exact HB.out)⟩⟩
        · rw [if_neg c3] at H
          have c3b0 : decide (x5_1 < 10) = false := decide_eq_false c3
          clear c3
          (first | rw [c3b0] | (simp only [i64_w, i32_w]; rw [c3b0]) | skip)
          have H' := Aside0.mk H
          clear H
          go_wp2
          repeat (go_quiet (fail); try go_wp2)
          go_meet
          case rel => exact ⟨_, (false), (by first | rfl | (simp; done) | (simp [*]; done)), H', ⟨by have := HK1.out; first | omega | exact Nat.le_refl _⟩, ⟨by repeat (first | (with_reducible first | exact HI0.out | apply IsS68.alloc | apply IsS68.drewN | apply IsS68.drew | apply IsS68.set_0 | apply IsS68.set_1 | apply IsS68.set_2) | exact HI0.out)⟩, ⟨by repeat (first | (with_reducible first | exact HK.out | apply KeepBut.set_ | apply keep_drewN | apply keep_drew | apply keep_alloc) | exact HK.out)⟩, ⟨by repeat (first | (with_reducible first | exact HB.out | apply below_alloc | apply pw_below_drewN | apply below_drew1 | refine below_set ?_ (IsS68.ge HI0.out)) | exact HB.out)⟩⟩
      case rest =>
        clear HC2
        try clear p2
        try clear c3
        try clear c3b0
        try clear hcz4_0
        try clear hcz4_1
        try clear hcz4_2
        try clear hfz4_0
        try clear hfz4_1
        try clear hfz4_2
        obtain ⟨kq, x15_1, rfl, HA, HJ1, HI0, HK, HB⟩ := hcut
        cases kq with
        | zero => exact absurd HA.out (by simp [bonsairef03_Reader_Num.j1])
        | succ kj1 =>
          have H := HA.out
          clear HA
          simp only [bonsairef03_Reader_Num.j1] at H
          by_cases c5 : x15_1 = true
          · subst c5
            have H1 : (if (wrap64 (x1001_1 + x5_1)) ≥ (s0_0.size : Int) then (some (0, s0_0, x1001_1, 2)) else (if 0 ≤ (wrap64 (x1001_1 + x5_1)) then (if (wrap64 (x1001_1 + x5_1)) < (s0_0.size : Int) then (if x5_1 = 9 then (if (IntKind.u64.wrap (bt s0_0 (wrap64 (x1001_1 + x5_1)))) > 1 then (bonsairef03_Reader_Num.j2 kj1 x3_1 x4_1 x5_1 (IntKind.u64.wrap (bt s0_0 (wrap64 (x1001_1 + x5_1)))) true s0_0 x1001_1 x1002_1) else (if x5_1 > 0 then (bonsairef03_Reader_Num.j2 kj1 x3_1 x4_1 x5_1 (IntKind.u64.wrap (bt s0_0 (wrap64 (x1001_1 + x5_1)))) ((IntKind.u64.wrap (bt s0_0 (wrap64 (x1001_1 + x5_1)))) == 0) s0_0 x1001_1 x1002_1) else (bonsairef03_Reader_Num.j2 kj1 x3_1 x4_1 x5_1 (IntKind.u64.wrap (bt s0_0 (wrap64 (x1001_1 + x5_1)))) false s0_0 x1001_1 x1002_1))) else (if x5_1 > 0 then (bonsairef03_Reader_Num.j2 kj1 x3_1 x4_1 x5_1 (IntKind.u64.wrap (bt s0_0 (wrap64 (x1001_1 + x5_1)))) ((IntKind.u64.wrap (bt s0_0 (wrap64 (x1001_1 + x5_1)))) == 0) s0_0 x1001_1 x1002_1) else (bonsairef03_Reader_Num.j2 kj1 x3_1 x4_1 x5_1 (IntKind.u64.wrap (bt s0_0 (wrap64 (x1001_1 + x5_1)))) false s0_0 x1001_1 x1002_1))) else (none)) else (none))) = some (r1, r2, r3, r4) := by rw [if_pos rfl] at H; exact H
            clear H
            have H := H1
            clear H1
            by_cases c6 : (wrap64 (x1001_1 + x5_1)) ≥ (s0_0.size : Int)
            · rw [if_pos c6] at H
              have c6b0 : decide ((s0_0.size : Int) ≤ (wrap64 (x1001_1 + x5_1))) = true := decide_eq_true c6
              clear c6
              simp only [Option.some.injEq, Prod.mk.injEq] at H
              obtain ⟨rfl, rfl, rfl, rfl⟩ := H
              obtain ⟨HGz7, hgz7⟩ := HI0.out
              have hcz7_0 := cellS68_0 HGz7
              have hcz7_1 := cellS68_1 HGz7
              have hcz7_2 := cellS68_2 HGz7
              have hfz7_0 := blk_frozen HGz7 0
              have hfz7_1 := blk_frozen HGz7 1
              have hfz7_2 := blk_frozen HGz7 2
              clear HGz7 hgz7
              go_wp2
              repeat (go_quiet (fail); try go_wp2)
              go_ret
              exact ⟨by first | rfl | (simp [errW_none, errW_some] <;> rfl) | (simp [*, errW_none, errW_some] <;> rfl), by repeat (first | (with_reducible first | exact HI0.out | apply IsS68.alloc | apply IsS68.drewN | apply IsS68.drew | apply IsS68.set_0 | apply IsS68.set_1 | apply IsS68.set_2) | exact HI0.out), by repeat (first | (with_reducible first | exact HB.out | apply below_alloc | apply pw_below_drewN | apply below_drew1 | refine below_set ?_ (IsS68.ge HI0.out)) | exact HB.out), by repeat (first | (with_reducible first | exact HK.out | apply KeepBut.set_ | apply keep_drewN | apply keep_drew | apply keep_alloc) | exact HK.out)⟩
            · rw [if_neg c6] at H
              have c6b0 : decide ((s0_0.size : Int) ≤ (wrap64 (x1001_1 + x5_1))) = false := decide_eq_false c6
              clear c6
              obtain ⟨ji8, hji8⟩ : ∃ j_ : Int, (wrap64 (x1001_1 + x5_1)) = j_ := ⟨_, rfl⟩
              replace H : (if 0 ≤ (ji8) then (if (ji8) < (s0_0.size : Int) then (if x5_1 = 9 then (if (IntKind.u64.wrap (bt s0_0 (ji8))) > 1 then (bonsairef03_Reader_Num.j2 kj1 x3_1 x4_1 x5_1 (IntKind.u64.wrap (bt s0_0 (ji8))) true s0_0 x1001_1 x1002_1) else (if x5_1 > 0 then (bonsairef03_Reader_Num.j2 kj1 x3_1 x4_1 x5_1 (IntKind.u64.wrap (bt s0_0 (ji8))) ((IntKind.u64.wrap (bt s0_0 (ji8))) == 0) s0_0 x1001_1 x1002_1) else (bonsairef03_Reader_Num.j2 kj1 x3_1 x4_1 x5_1 (IntKind.u64.wrap (bt s0_0 (ji8))) false s0_0 x1001_1 x1002_1))) else (if x5_1 > 0 then (bonsairef03_Reader_Num.j2 kj1 x3_1 x4_1 x5_1 (IntKind.u64.wrap (bt s0_0 (ji8))) ((IntKind.u64.wrap (bt s0_0 (ji8))) == 0) s0_0 x1001_1 x1002_1) else (bonsairef03_Reader_Num.j2 kj1 x3_1 x4_1 x5_1 (IntKind.u64.wrap (bt s0_0 (ji8))) false s0_0 x1001_1 x1002_1))) else (none)) else (none)) = some (r1, r2, r3, r4) := by first | (rw [hji8] at H; exact H) | (simp only [hji8] at H ⊢; exact H)
              (try rw [hji8] at c6b0)
              have hji8w : (IntKind.i64.wrap (x1001_1 + x5_1)) = ji8 := (i64_w _).trans hji8
              by_cases c9 : 0 ≤ (ji8)
              · rw [if_pos c9] at H
                have c9b0 : decide (0 ≤ (ji8)) = true := decide_eq_true c9
                clear c9
                by_cases c10 : (ji8) < (s0_0.size : Int)
                · rw [if_pos c10] at H
                  have c10b0 : decide ((ji8) < (s0_0.size : Int)) = true := decide_eq_true c10
                  clear c10
                  have HC12 := Aside0.mk H
                  clear H
                  obtain ⟨HGz13, hgz13⟩ := HI0.out
                  have hcz13_0 := cellS68_0 HGz13
                  have hcz13_1 := cellS68_1 HGz13
                  have hcz13_2 := cellS68_2 HGz13
                  have hfz13_0 := blk_frozen HGz13 0
                  have hfz13_1 := blk_frozen HGz13 1
                  have hfz13_2 := blk_frozen HGz13 2
                  clear HGz13 hgz13
                  have p11 : 0 ≤ ((ji8) : Int) := of_decide_eq_true (by first | (with_reducible assumption) | assumption)
                  have q11 : (ji8) < (s0_0.size : Int) := of_decide_eq_true (by first | (with_reducible assumption) | assumption)
                  have hx11 := bt_at s0_0 (ji8)
                  replace p11 := eq_true p11
                  replace q11 := eq_true q11
                  go_upto_region 10 with (fail)
                  repeat (go_quiet (fail); go_upto_region 10 with (fail))
                  go_cut [58] (fun v58 wc => ∃ (kq : Nat) (x58_11 : Bool), v58 = .bool x58_11 ∧ Aside0 (bonsairef03_Reader_Num.j2 kq x3_1 x4_1 x5_1 (IntKind.u64.wrap (bt s0_0 (ji8))) x58_11 s0_0 x1001_1 x1002_1 = some (r1, r2, r3, r4)) ∧ Aside0 (kq ≤ kj1) ∧ Aside0 (IsS68 w0 wc g s0_0 x1001_1 x1002_1) ∧ Aside0 (KeepBut w wc g none) ∧ Aside0 (Below w0.heap.size w0 wc))
                  case first =>
                    have H := HC12.out
                    clear HC12
                    by_cases c14 : x5_1 = 9
                    · rw [if_pos c14] at H
                      have c14b0 : (x5_1 == 9) = true := beq_iff_eq.mpr c14
                      have c14b1 : (x5_1 != 9) = false := bne_eq_false_iff_eq.mpr c14
                      clear c14
                      (first | rw [c14b0] | (simp only [i64_w, i32_w]; rw [c14b0]) | skip)
                      by_cases c15 : (IntKind.u64.wrap (bt s0_0 (ji8))) > 1
                      · rw [if_pos c15] at H
                        have c15b0 : decide (1 < (IntKind.u64.wrap (bt s0_0 (ji8)))) = true := decide_eq_true c15
                        clear c15
                        have H' := Aside0.mk H
                        clear H
                        go_wp2
                        repeat (go_quiet (fail); try go_wp2)
                        go_meet
                        case rel => exact ⟨_, (true), (by first | rfl | (simp; done) | (simp [*]; done)), H', ⟨by have := HK1.out; have := HJ1.out; first | omega | exact Nat.le_refl _⟩, ⟨by repeat (first | (with_reducible first | exact HI0.out | apply IsS68.alloc | apply IsS68.drewN | apply IsS68.drew | apply IsS68.set_0 | apply IsS68.set_1 | apply IsS68.set_2) | exact HI0.out)⟩, ⟨by repeat (first | (with_reducible first | exact HK.out | apply KeepBut.set_ | apply keep_drewN | apply keep_drew | apply keep_alloc) | exact HK.out)⟩, ⟨by repeat (first | (with_reducible first | exact HB.out | apply below_alloc | apply pw_below_drewN | apply below_drew1 | refine below_set ?_ (IsS68.ge HI0.out)) | exact HB.out)⟩⟩
                      · rw [if_neg c15] at H
                        have c15b0 : decide (1 < (IntKind.u64.wrap (bt s0_0 (ji8)))) = false := decide_eq_false c15
                        clear c15
                        by_cases c16 : x5_1 > 0
                        · rw [if_pos c16] at H
                          have c16b0 : decide (0 < x5_1) = true := decide_eq_true c16
                          clear c16
                          have H' := Aside0.mk H
                          clear H
                          go_wp2
                          repeat (go_quiet (fail); try go_wp2)
                          go_meet
                          case rel => exact ⟨_, (((IntKind.u64.wrap (bt s0_0 (ji8))) == 0)), (by first | rfl | (simp; done) | (simp only [← hji8] <;> (first | rfl | simp)) | (simp [*]; done)), H', ⟨by have := HK1.out; have := HJ1.out; first | omega | exact Nat.le_refl _⟩, ⟨by repeat (first | (with_reducible first | exact HI0.out | apply IsS68.alloc | apply IsS68.drewN | apply IsS68.drew | apply IsS68.set_0 | apply IsS68.set_1 | apply IsS68.set_2) | exact HI0.out)⟩, ⟨by repeat (first | (with_reducible first | exact HK.out | apply KeepBut.set_ | apply keep_drewN | apply keep_drew | apply keep_alloc) | exact HK.out)⟩, ⟨by repeat (first | (with_reducible first | exact HB.out | apply below_alloc | apply pw_below_drewN | apply below_drew1 | refine below_set ?_ (IsS68.ge HI0.out)) | exact HB.out)⟩⟩
                        · rw [if_neg c16] at H
                          have c16b0 : decide (0 < x5_1) = false := decide_eq_false c16
                          clear c16
                          have H' := Aside0.mk H
                          clear H
                          go_wp2
                          repeat (go_quiet (fail); try go_wp2)
                          go_meet
                          case rel => exact ⟨_, (false), (by first | rfl | (simp; done) | (simp [*]; done)), H', ⟨by have := HK1.out; have := HJ1.out; first | omega | exact Nat.le_refl _⟩, ⟨by repeat (first | (with_reducible first | exact HI0.out | apply IsS68.alloc | apply IsS68.drewN | apply IsS68.drew | apply IsS68.set_0 | apply IsS68.set_1 | apply IsS68.set_2) | exact HI0.out)⟩, ⟨by repeat (first | (with_reducible first | exact HK.out | apply KeepBut.set_ | apply keep_drewN | apply keep_drew | apply keep_alloc) | exact HK.out)⟩, ⟨by repeat (first | (with_reducible first | exact HB.out | apply below_alloc | apply pw_below_drewN | apply below_drew1 | refine below_set ?_ (IsS68.ge HI0.out)) | exact HB.out)⟩⟩
                    · rw [if_neg c14] at H
                      have c14b0 : (x5_1 == 9) = false := beq_eq_false_iff_ne.mpr c14
                      have c14b1 : (x5_1 != 9) = true := bne_iff_ne.mpr c14
                      (first | rw [c14b0] | (simp only [i64_w, i32_w]; rw [c14b0]) | skip)
                      by_cases c17 : x5_1 > 0
                      · rw [if_pos c17] at H
                        have c17b0 : decide (0 < x5_1) = true := decide_eq_true c17
                        clear c17
                        have H' := Aside0.mk H
                        clear H
                        go_wp2
                        repeat (go_quiet (fail); try go_wp2)
                        go_meet
                        case rel => exact ⟨_, (((IntKind.u64.wrap (bt s0_0 (ji8))) == 0)), (by first | rfl | (simp; done) | (simp only [← hji8] <;> (first | rfl | simp)) | (simp [*]; done)), H', ⟨by have := HK1.out; have := HJ1.out; first | omega | exact Nat.le_refl _⟩, ⟨by repeat (first | (with_reducible first | exact HI0.out | apply IsS68.alloc | apply IsS68.drewN | apply IsS68.drew | apply IsS68.set_0 | apply IsS68.set_1 | apply IsS68.set_2) | exact HI0.out)⟩, ⟨by repeat (first | (with_reducible first | exact HK.out | apply KeepBut.set_ | apply keep_drewN | apply keep_drew | apply keep_alloc) | exact HK.out)⟩, ⟨by repeat (first | (with_reducible first | exact HB.out | apply below_alloc | apply pw_below_drewN | apply below_drew1 | refine below_set ?_ (IsS68.ge HI0.out)) | exact HB.out)⟩⟩
                      · rw [if_neg c17] at H
                        have c17b0 : decide (0 < x5_1) = false := decide_eq_false c17
                        clear c17
                        have H' := Aside0.mk H
                        clear H
                        go_wp2
                        repeat (go_quiet (fail); try go_wp2)
                        go_meet
                        case rel => exact ⟨_, (false), (by first | rfl | (simp; done) | (simp [*]; done)), H', ⟨by have := HK1.out; have := HJ1.out; first | omega | exact Nat.le_refl _⟩, ⟨by repeat (first | (with_reducible first | exact HI0.out | apply IsS68.alloc | apply IsS68.drewN | apply IsS68.drew | apply IsS68.set_0 | apply IsS68.set_1 | apply IsS68.set_2) | exact HI0.out)⟩, ⟨by repeat (first | (with_reducible first | exact HK.out | apply KeepBut.set_ | apply keep_drewN | apply keep_drew | apply keep_alloc) | exact HK.out)⟩, ⟨by repeat (first | (with_reducible first | exact HB.out | apply below_alloc | apply pw_below_drewN | apply below_drew1 | refine below_set ?_ (IsS68.ge HI0.out)) | exact HB.out)⟩⟩
                  case rest =>
                    clear HC12
                    try clear c1
                    try clear p1
                    try clear q1
                    try clear hx1
                    try clear p2
                    try clear c3
                    try clear c3b0
                    try clear c5
                    try clear c6
                    try clear c6b0
                    try clear p6
                    try clear c9
                    try clear c9b0
                    try clear c10
                    try clear c10b0
                    try clear p11
                    try clear q11
                    try clear hx11
                    try clear c14
                    try clear c14b0
                    try clear c14b1
                    try clear c15
                    try clear c15b0
                    try clear c16
                    try clear c16b0
                    try clear c17
                    try clear c17b0
                    try clear hcz13_0
                    try clear hcz13_1
                    try clear hcz13_2
                    try clear hcz4_0
                    try clear hcz4_1
                    try clear hcz4_2
                    try clear hcz7_0
                    try clear hcz7_1
                    try clear hcz7_2
                    try clear hfz13_0
                    try clear hfz13_1
                    try clear hfz13_2
                    try clear hfz4_0
                    try clear hfz4_1
                    try clear hfz4_2
                    try clear hfz7_0
                    try clear hfz7_1
                    try clear hfz7_2
                    try clear p11
                    try clear p2
                    try clear q11
                    obtain ⟨kq, x58_11, rfl, HA, HJ11, HI0, HK, HB⟩ := hcut
                    cases kq with
                    | zero => exact absurd HA.out (by simp [bonsairef03_Reader_Num.j2])
                    | succ kj11 =>
                      have H := HA.out
                      clear HA
                      simp only [bonsairef03_Reader_Num.j2] at H
                      by_cases c18 : x58_11 = true
                      · subst c18
                        have H1 : (some (0, s0_0, x1001_1, 3)) = some (r1, r2, r3, r4) := by rw [if_pos rfl] at H; exact H
                        clear H
                        have H := H1
                        clear H1
                        simp only [Option.some.injEq, Prod.mk.injEq] at H
                        obtain ⟨rfl, rfl, rfl, rfl⟩ := H
                        obtain ⟨HGz19, hgz19⟩ := HI0.out
                        have hcz19_0 := cellS68_0 HGz19
                        have hcz19_1 := cellS68_1 HGz19
                        have hcz19_2 := cellS68_2 HGz19
                        have hfz19_0 := blk_frozen HGz19 0
                        have hfz19_1 := blk_frozen HGz19 1
                        have hfz19_2 := blk_frozen HGz19 2
                        clear HGz19 hgz19
                        go_wp2
                        repeat (go_quiet (fail); try go_wp2)
                        go_ret
                        exact ⟨by first | rfl | (simp [errW_none, errW_some] <;> rfl) | (simp only [← hji8]; first | rfl | (simp [errW_none, errW_some] <;> rfl)) | (simp [*, errW_none, errW_some] <;> rfl), by (try simp only [← hji8]); repeat (first | (with_reducible first | exact HI0.out | apply IsS68.alloc | apply IsS68.drewN | apply IsS68.drew | apply IsS68.set_0 | apply IsS68.set_1 | apply IsS68.set_2) | exact HI0.out), by repeat (first | (with_reducible first | exact HB.out | apply below_alloc | apply pw_below_drewN | apply below_drew1 | refine below_set ?_ (IsS68.ge HI0.out)) | exact HB.out), by repeat (first | (with_reducible first | exact HK.out | apply KeepBut.set_ | apply keep_drewN | apply keep_drew | apply keep_alloc) | exact HK.out)⟩
                      · replace c18 := Bool.eq_false_iff.mpr c18
                        subst c18
                        have H1 : (if (IntKind.u64.wrap (bt s0_0 (ji8))) < 128 then (some (IntKind.u64.wrap (x3_1 + (IntKind.u64.wrap ((Int.tmod (IntKind.u64.wrap (bt s0_0 (ji8))) 128) * x4_1))), s0_0, wrap64 ((wrap64 (x1001_1 + x5_1)) + 1), x1002_1)) else (bonsairef03_Reader_Num.l0 kj11 (IntKind.u64.wrap (x3_1 + (IntKind.u64.wrap ((Int.tmod (IntKind.u64.wrap (bt s0_0 (ji8))) 128) * x4_1)))) (IntKind.u64.wrap (x4_1 * 128)) (wrap64 (x5_1 + 1)) s0_0 x1001_1 x1002_1)) = some (r1, r2, r3, r4) := by rw [if_neg (show ¬ (false = true) by decide)] at H; exact H
                        clear H
                        have H := H1
                        clear H1
                        by_cases c20 : (IntKind.u64.wrap (bt s0_0 (ji8))) < 128
                        · rw [if_pos c20] at H
                          have c20b0 : decide ((IntKind.u64.wrap (bt s0_0 (ji8))) < 128) = true := decide_eq_true c20
                          clear c20
                          simp only [Option.some.injEq, Prod.mk.injEq] at H
                          obtain ⟨rfl, rfl, rfl, rfl⟩ := H
                          obtain ⟨HGz21, hgz21⟩ := HI0.out
                          have hcz21_0 := cellS68_0 HGz21
                          have hcz21_1 := cellS68_1 HGz21
                          have hcz21_2 := cellS68_2 HGz21
                          have hfz21_0 := blk_frozen HGz21 0
                          have hfz21_1 := blk_frozen HGz21 1
                          have hfz21_2 := blk_frozen HGz21 2
                          clear HGz21 hgz21
                          go_wp2
                          repeat (go_quiet (fail); try go_wp2)
                          go_ret
                          exact ⟨by first | rfl | (simp [errW_none, errW_some] <;> rfl) | (simp only [← hji8]; first | rfl | (simp [errW_none, errW_some] <;> rfl)) | (simp [*, errW_none, errW_some] <;> rfl), by (try simp only [← hji8]); repeat (first | (with_reducible first | exact HI0.out | apply IsS68.alloc | apply IsS68.drewN | apply IsS68.drew | apply IsS68.set_0 | apply IsS68.set_1 | apply IsS68.set_2) | exact HI0.out), by repeat (first | (with_reducible first | exact HB.out | apply below_alloc | apply pw_below_drewN | apply below_drew1 | refine below_set ?_ (IsS68.ge HI0.out)) | exact HB.out), by repeat (first | (with_reducible first | exact HK.out | apply KeepBut.set_ | apply keep_drewN | apply keep_drew | apply keep_alloc) | exact HK.out)⟩
                        · rw [if_neg c20] at H
                          have c20b0 : decide ((IntKind.u64.wrap (bt s0_0 (ji8))) < 128) = false := decide_eq_false c20
                          clear c20
                          have H' := Aside0.mk H
                          clear H
                          go_wp2
                          repeat (go_quiet (fail); try go_wp2)
                          go_roundg kj11
                          case measure => have := HK1.out; have := HJ1.out; have := HJ11.out; omega
                          case rel => exact ⟨(IntKind.u64.wrap (x3_1 + (IntKind.u64.wrap ((Int.tmod (IntKind.u64.wrap (bt s0_0 (ji8))) 128) * x4_1)))), (IntKind.u64.wrap (x4_1 * 128)), (wrap64 (x5_1 + 1)), (x1001_1), (x1002_1), (by first | rfl | (simp; done) | (simp only [← hji8] <;> (first | rfl | simp)) | (simp [*]; done)), (by first | rfl | (simp; done) | (simp [*]; done)), (by first | rfl | (simp; done) | (simp [*]; done)), H', ⟨by have := HK1.out; have := HJ1.out; have := HJ11.out; omega⟩, ⟨by repeat (first | (with_reducible first | exact HI0.out | apply IsS68.alloc | apply IsS68.drewN | apply IsS68.drew | apply IsS68.set_0 | apply IsS68.set_1 | apply IsS68.set_2) | exact HI0.out)⟩, ⟨by repeat (first | (with_reducible first | exact HK.out | apply KeepBut.set_ | apply keep_drewN | apply keep_drew | apply keep_alloc) | exact HK.out)⟩, ⟨by repeat (first | (with_reducible first | exact HB.out | apply below_alloc | apply pw_below_drewN | apply below_drew1 | refine below_set ?_ (IsS68.ge HI0.out)) | exact HB.out)⟩⟩
                · rw [if_neg c10] at H
                  exact absurd H (by simp)
              · rw [if_neg c9] at H
                exact absurd H (by simp)
          · replace c5 := Bool.eq_false_iff.mpr c5
            subst c5
            have H1 : (some (0, s0_0, x1001_1, x1002_1)) = some (r1, r2, r3, r4) := by rw [if_neg (show ¬ (false = true) by decide)] at H; exact H
            clear H
            have H := H1
            clear H1
            simp only [Option.some.injEq, Prod.mk.injEq] at H
            obtain ⟨rfl, rfl, rfl, rfl⟩ := H
            go_wp2
            repeat (go_quiet (fail); try go_wp2)
            go_ret
            exact ⟨by first | rfl | (simp [errW_none, errW_some] <;> rfl) | (simp [*, errW_none, errW_some] <;> rfl), by repeat (first | (with_reducible first | exact HI0.out | apply IsS68.alloc | apply IsS68.drewN | apply IsS68.drew | apply IsS68.set_0 | apply IsS68.set_1 | apply IsS68.set_2) | exact HI0.out), by repeat (first | (with_reducible first | exact HB.out | apply below_alloc | apply pw_below_drewN | apply below_drew1 | refine below_set ?_ (IsS68.ge HI0.out)) | exact HB.out), by repeat (first | (with_reducible first | exact HK.out | apply KeepBut.set_ | apply keep_drewN | apply keep_drew | apply keep_alloc) | exact HK.out)⟩
end Go.Proofs.Ytfcndhajcikgiaa.B
namespace Go.Proofs.Ytfcndhajcikgiaa.B
open Go.RowKit Go.Proofs.YtfcndhajcikgiaaW.PrintWords Go.Proofs.YtfcndhajcikgiaaW.PrintLast Go.Proofs.YtfcndhajcikgiaaW.PrintMore
def bonsairef03_Reader_Take.j0 : Nat → Int → Bool → ByteArray → Int → Int → Option (ByteArray × ByteArray × Int × Int)
  | 0, _, _, _, _, _ => none
  | k + 1, x1, x27, x1000, x1001, x1002 => if x27 = true then (if 2 = 0 then (if 0 ≤ (wrap64 ((wrap64 (x1001 + x1)) - x1)) then (if (wrap64 ((wrap64 (x1001 + x1)) - x1)) ≤ (wrap64 (x1001 + x1)) then (if (wrap64 (x1001 + x1)) ≤ (x1000.size : Int) then (some (x1000.extract ((wrap64 ((wrap64 (x1001 + x1)) - x1)) : Int).toNat ((wrap64 (x1001 + x1)) : Int).toNat, x1000, wrap64 (x1001 + x1), 2)) else (none)) else (none)) else (none)) else (some ((⟨#[]⟩ : ByteArray), x1000, x1001, 2))) else (if x1002 = 0 then (if 0 ≤ (wrap64 ((wrap64 (x1001 + x1)) - x1)) then (if (wrap64 ((wrap64 (x1001 + x1)) - x1)) ≤ (wrap64 (x1001 + x1)) then (if (wrap64 (x1001 + x1)) ≤ (x1000.size : Int) then (some (x1000.extract ((wrap64 ((wrap64 (x1001 + x1)) - x1)) : Int).toNat ((wrap64 (x1001 + x1)) : Int).toNat, x1000, wrap64 (x1001 + x1), x1002)) else (none)) else (none)) else (none)) else (some ((⟨#[]⟩ : ByteArray), x1000, x1001, x1002)))
def bonsairef03_Reader_Take.f (k : Nat) (s0_0 : ByteArray) (s0_1 : Int) (s0_2 : Int) (a1 : Int) : Option (ByteArray × ByteArray × Int × Int) := if s0_2 = 0 then (if a1 < 0 then (bonsairef03_Reader_Take.j0 k a1 true s0_0 s0_1 s0_2) else (bonsairef03_Reader_Take.j0 k a1 (decide (a1 > (wrap64 ((s0_0.size : Int) - s0_1)))) s0_0 s0_1 s0_2)) else (bonsairef03_Reader_Take.j0 k a1 false s0_0 s0_1 s0_2)
theorem bonsairef03_Reader_Take.mono_l : ∀ k, (∀ y0 y1 y2 y3 y4, LeO (bonsairef03_Reader_Take.j0 k y0 y1 y2 y3 y4) (bonsairef03_Reader_Take.j0 (k + 1) y0 y1 y2 y3 y4))
  | 0 => fun _ _ _ _ _ r h => by simp [bonsairef03_Reader_Take.j0] at h
  | k + 1 => by
    have ih0 := bonsairef03_Reader_Take.mono_l k
    · intro y0 y1 y2 y3 y4
      unfold bonsairef03_Reader_Take.j0
      repeat' first
      | (with_reducible exact ih0 _ _ _ _ _)
      | (with_reducible exact LeO.refl _)
      | (with_reducible exact LeO.none _)
      | (with_reducible refine LeO.ite ?_ ?_)
      | (with_reducible refine LeO.bind ?_ (fun _ => ?_))
      | exact ih0 _ _ _ _ _
      | exact LeO.none _
      | refine LeO.ite ?_ ?_
      | refine LeO.bind ?_ (fun _ => ?_)
theorem bonsairef03_Reader_Take.mono : ∀ a0 a1 a2 a3 k, LeO (bonsairef03_Reader_Take.f k a0 a1 a2 a3) (bonsairef03_Reader_Take.f (k + 1) a0 a1 a2 a3) := by
  intro a0 a1 a2 a3 k
  have ih0 := bonsairef03_Reader_Take.mono_l k
  unfold bonsairef03_Reader_Take.f
  repeat' first
      | (with_reducible exact ih0 _ _ _ _ _)
      | (with_reducible exact LeO.refl _)
      | (with_reducible exact LeO.none _)
      | (with_reducible refine LeO.ite ?_ ?_)
      | (with_reducible refine LeO.bind ?_ (fun _ => ?_))
      | exact ih0 _ _ _ _ _
      | exact LeO.none _
      | refine LeO.ite ?_ ?_
      | refine LeO.bind ?_ (fun _ => ?_)
set_option maxHeartbeats 8000000 in
set_option maxRecDepth 100000 in
theorem bonsairef03_Reader_Take.calls (k : Nat) (g : Nat) (s0_0 : ByteArray) (s0_1 : Int) (s0_2 : Int) (a1 : Int) (r1 : ByteArray) (r2 : ByteArray) (r3 : Int) (r4 : Int) (w0 w : World) (hI : IsS68 w0 w g s0_0 s0_1 s0_2) (hB : Below w0.heap.size w0 w) (h : bonsairef03_Reader_Take.f k s0_0 s0_1 s0_2 a1 = some (r1, r2, r3, r4)) :
    Calls Try.prog 70 #[.pointer (some ⟨g, 0, none⟩), .int .i64 a1] w fun e w' => e = .returned (.string r1) ∧ IsS68 w0 w' g r2 r3 r4 ∧ Below w0.heap.size w0 w' ∧ KeepBut w w' g none := by
  have HI0 := Aside0.mk hI
  have HK := Aside0.mk (KeepBut.refl w g none)
  have HL := Aside0.mk hB.size
  clear hI
  have HW0 := Aside0.mk hB.size
  have HB := Aside0.mk hB
  clear hB
  have H : (if s0_2 = 0 then (if a1 < 0 then (bonsairef03_Reader_Take.j0 k a1 true s0_0 s0_1 s0_2) else (bonsairef03_Reader_Take.j0 k a1 (decide (a1 > (wrap64 ((s0_0.size : Int) - s0_1)))) s0_0 s0_1 s0_2)) else (bonsairef03_Reader_Take.j0 k a1 false s0_0 s0_1 s0_2)) = some (r1, r2, r3, r4) := h
  clear h
  have HC3 := Aside0.mk H
  clear H
  go_enter Try.func70, Try.ntmps70
  go_upto_region 1 with (fail)
  repeat (go_quiet (fail); go_upto_region 1 with (fail))
  go_cut [27] (fun v27 wc => ∃ (kq : Nat) (x27_2 : Bool), v27 = .bool x27_2 ∧ Aside0 (bonsairef03_Reader_Take.j0 kq a1 x27_2 s0_0 s0_1 s0_2 = some (r1, r2, r3, r4)) ∧ Aside0 (kq ≤ k) ∧ Aside0 (IsS68 w0 wc g s0_0 s0_1 s0_2) ∧ Aside0 (KeepBut w wc g none) ∧ Aside0 (Below w0.heap.size w0 wc))
  case first =>
    have H := HC3.out
    clear HC3
    by_cases c4 : s0_2 = 0
    · rw [if_pos c4] at H
      have c4b0 : (s0_2 == 0) = true := beq_iff_eq.mpr c4
      have c4b1 : (s0_2 != 0) = false := bne_eq_false_iff_eq.mpr c4
      clear c4
      (first | rw [c4b0] | (simp only [i64_w, i32_w]; rw [c4b0]) | skip)
      by_cases c5 : a1 < 0
      · rw [if_pos c5] at H
        have c5b0 : decide (a1 < 0) = true := decide_eq_true c5
        clear c5
        have H' := Aside0.mk H
        clear H
        obtain ⟨HGz6, hgz6⟩ := HI0.out
        have hcz6_0 := cellS68_0 HGz6
        have hcz6_1 := cellS68_1 HGz6
        have hcz6_2 := cellS68_2 HGz6
        have hfz6_0 := blk_frozen HGz6 0
        have hfz6_1 := blk_frozen HGz6 1
        have hfz6_2 := blk_frozen HGz6 2
        clear HGz6 hgz6
        go_wp2
        repeat (go_quiet (fail); try go_wp2)
        go_meet
        case rel => exact ⟨_, (true), (by first | rfl | (simp; done) | (simp [*]; done)), H', ⟨by first | omega | exact Nat.le_refl _⟩, ⟨by repeat (first | (with_reducible first | exact HI0.out | apply IsS68.alloc | apply IsS68.drewN | apply IsS68.drew | apply IsS68.set_0 | apply IsS68.set_1 | apply IsS68.set_2) | exact HI0.out)⟩, ⟨by repeat (first | (with_reducible first | exact HK.out | apply KeepBut.set_ | apply keep_drewN | apply keep_drew | apply keep_alloc) | exact HK.out)⟩, ⟨by repeat (first | (with_reducible first | exact HB.out | apply below_alloc | apply pw_below_drewN | apply below_drew1 | refine below_set ?_ (IsS68.ge HI0.out)) | exact HB.out)⟩⟩
      · rw [if_neg c5] at H
        have c5b0 : decide (a1 < 0) = false := decide_eq_false c5
        clear c5
        have H' := Aside0.mk H
        clear H
        obtain ⟨HGz7, hgz7⟩ := HI0.out
        have hcz7_0 := cellS68_0 HGz7
        have hcz7_1 := cellS68_1 HGz7
        have hcz7_2 := cellS68_2 HGz7
        have hfz7_0 := blk_frozen HGz7 0
        have hfz7_1 := blk_frozen HGz7 1
        have hfz7_2 := blk_frozen HGz7 2
        clear HGz7 hgz7
        go_wp2
        repeat (go_quiet (fail); try go_wp2)
        go_meet
        case rel => exact ⟨_, (decide (a1 > (wrap64 ((s0_0.size : Int) - s0_1)))), (by first | rfl | (simp; done) | (simp [*]; done)), H', ⟨by first | omega | exact Nat.le_refl _⟩, ⟨by repeat (first | (with_reducible first | exact HI0.out | apply IsS68.alloc | apply IsS68.drewN | apply IsS68.drew | apply IsS68.set_0 | apply IsS68.set_1 | apply IsS68.set_2) | exact HI0.out)⟩, ⟨by repeat (first | (with_reducible first | exact HK.out | apply KeepBut.set_ | apply keep_drewN | apply keep_drew | apply keep_alloc) | exact HK.out)⟩, ⟨by repeat (first | (with_reducible first | exact HB.out | apply below_alloc | apply pw_below_drewN | apply below_drew1 | refine below_set ?_ (IsS68.ge HI0.out)) | exact HB.out)⟩⟩
    · rw [if_neg c4] at H
      have c4b0 : (s0_2 == 0) = false := beq_eq_false_iff_ne.mpr c4
      have c4b1 : (s0_2 != 0) = true := bne_iff_ne.mpr c4
      (first | rw [c4b0] | (simp only [i64_w, i32_w]; rw [c4b0]) | skip)
      have H' := Aside0.mk H
      clear H
      obtain ⟨HGz8, hgz8⟩ := HI0.out
      have hcz8_0 := cellS68_0 HGz8
      have hcz8_1 := cellS68_1 HGz8
      have hcz8_2 := cellS68_2 HGz8
      have hfz8_0 := blk_frozen HGz8 0
      have hfz8_1 := blk_frozen HGz8 1
      have hfz8_2 := blk_frozen HGz8 2
      clear HGz8 hgz8
      go_wp2
      repeat (go_quiet (fail); try go_wp2)
      go_meet
      case rel => exact ⟨_, (false), (by first | rfl | (simp; done) | (simp [*]; done)), H', ⟨by first | omega | exact Nat.le_refl _⟩, ⟨by repeat (first | (with_reducible first | exact HI0.out | apply IsS68.alloc | apply IsS68.drewN | apply IsS68.drew | apply IsS68.set_0 | apply IsS68.set_1 | apply IsS68.set_2) | exact HI0.out)⟩, ⟨by repeat (first | (with_reducible first | exact HK.out | apply KeepBut.set_ | apply keep_drewN | apply keep_drew | apply keep_alloc) | exact HK.out)⟩, ⟨by repeat (first | (with_reducible first | exact HB.out | apply below_alloc | apply pw_below_drewN | apply below_drew1 | refine below_set ?_ (IsS68.ge HI0.out)) | exact HB.out)⟩⟩
  case rest =>
    clear HC3
    try clear p2
    try clear c4
    try clear c4b0
    try clear c4b1
    try clear c5
    try clear c5b0
    try clear p6
    try clear c7
    try clear hcz6_0
    try clear hcz6_1
    try clear hcz6_2
    try clear hcz7_0
    try clear hcz7_1
    try clear hcz7_2
    try clear hcz8_0
    try clear hcz8_1
    try clear hcz8_2
    try clear hfz6_0
    try clear hfz6_1
    try clear hfz6_2
    try clear hfz7_0
    try clear hfz7_1
    try clear hfz7_2
    try clear hfz8_0
    try clear hfz8_1
    try clear hfz8_2
    obtain ⟨kq, x27_2, rfl, HA, HJ2, HI0, HK, HB⟩ := hcut
    cases kq with
    | zero => exact absurd HA.out (by simp [bonsairef03_Reader_Take.j0])
    | succ kj2 =>
      have H := HA.out
      clear HA
      simp only [bonsairef03_Reader_Take.j0] at H
      by_cases c9 : x27_2 = true
      · subst c9
        have H1 : (if 2 = 0 then (if 0 ≤ (wrap64 ((wrap64 (s0_1 + a1)) - a1)) then (if (wrap64 ((wrap64 (s0_1 + a1)) - a1)) ≤ (wrap64 (s0_1 + a1)) then (if (wrap64 (s0_1 + a1)) ≤ (s0_0.size : Int) then (some (s0_0.extract ((wrap64 ((wrap64 (s0_1 + a1)) - a1)) : Int).toNat ((wrap64 (s0_1 + a1)) : Int).toNat, s0_0, wrap64 (s0_1 + a1), 2)) else (none)) else (none)) else (none)) else (some ((⟨#[]⟩ : ByteArray), s0_0, s0_1, 2))) = some (r1, r2, r3, r4) := by rw [if_pos rfl] at H; exact H
        clear H
        have H := H1
        clear H1
        by_cases c10 : 2 = 0
        · exact absurd c10 (by decide)
        · rw [if_neg c10] at H
          have c10b0 : (2 == 0) = false := beq_eq_false_iff_ne.mpr c10
          have c10b1 : (2 != 0) = true := bne_iff_ne.mpr c10
          simp only [Option.some.injEq, Prod.mk.injEq] at H
          obtain ⟨rfl, rfl, rfl, rfl⟩ := H
          obtain ⟨HGz16, hgz16⟩ := HI0.out
          have hcz16_0 := cellS68_0 HGz16
          have hcz16_1 := cellS68_1 HGz16
          have hcz16_2 := cellS68_2 HGz16
          have hfz16_0 := blk_frozen HGz16 0
          have hfz16_1 := blk_frozen HGz16 1
          have hfz16_2 := blk_frozen HGz16 2
          clear HGz16 hgz16
          go_wp2
          repeat (go_quiet (fail); try go_wp2)
          go_ret
          exact ⟨by first | rfl | (simp [errW_none, errW_some] <;> rfl) | (simp [*, errW_none, errW_some] <;> rfl), by repeat (first | (with_reducible first | exact HI0.out | apply IsS68.alloc | apply IsS68.drewN | apply IsS68.drew | apply IsS68.set_0 | apply IsS68.set_1 | apply IsS68.set_2) | exact HI0.out), by repeat (first | (with_reducible first | exact HB.out | apply below_alloc | apply pw_below_drewN | apply below_drew1 | refine below_set ?_ (IsS68.ge HI0.out)) | exact HB.out), by repeat (first | (with_reducible first | exact HK.out | apply KeepBut.set_ | apply keep_drewN | apply keep_drew | apply keep_alloc) | exact HK.out)⟩
      · replace c9 := Bool.eq_false_iff.mpr c9
        subst c9
        have H1 : (if s0_2 = 0 then (if 0 ≤ (wrap64 ((wrap64 (s0_1 + a1)) - a1)) then (if (wrap64 ((wrap64 (s0_1 + a1)) - a1)) ≤ (wrap64 (s0_1 + a1)) then (if (wrap64 (s0_1 + a1)) ≤ (s0_0.size : Int) then (some (s0_0.extract ((wrap64 ((wrap64 (s0_1 + a1)) - a1)) : Int).toNat ((wrap64 (s0_1 + a1)) : Int).toNat, s0_0, wrap64 (s0_1 + a1), s0_2)) else (none)) else (none)) else (none)) else (some ((⟨#[]⟩ : ByteArray), s0_0, s0_1, s0_2))) = some (r1, r2, r3, r4) := by rw [if_neg (show ¬ (false = true) by decide)] at H; exact H
        clear H
        have H := H1
        clear H1
        by_cases c17 : s0_2 = 0
        · rw [if_pos c17] at H
          have c17b0 : (s0_2 == 0) = true := beq_iff_eq.mpr c17
          have c17b1 : (s0_2 != 0) = false := bne_eq_false_iff_eq.mpr c17
          clear c17
          obtain ⟨ji18, hji18⟩ : ∃ j_ : Int, (wrap64 ((wrap64 (s0_1 + a1)) - a1)) = j_ := ⟨_, rfl⟩
          replace H : (if 0 ≤ (ji18) then (if (ji18) ≤ (wrap64 (s0_1 + a1)) then (if (wrap64 (s0_1 + a1)) ≤ (s0_0.size : Int) then (some (s0_0.extract ((ji18) : Int).toNat ((wrap64 (s0_1 + a1)) : Int).toNat, s0_0, wrap64 (s0_1 + a1), s0_2)) else (none)) else (none)) else (none)) = some (r1, r2, r3, r4) := by first | (rw [hji18] at H; exact H) | (simp only [hji18] at H ⊢; exact H)
          have hji18w : (IntKind.i64.wrap ((wrap64 (s0_1 + a1)) - a1)) = ji18 := (i64_w _).trans hji18
          by_cases c19 : 0 ≤ (ji18)
          · rw [if_pos c19] at H
            have c19b0 := eq_true c19
            have c19b1 : decide (0 ≤ (ji18)) = true := decide_eq_true c19
            clear c19
            by_cases c20 : (ji18) ≤ (wrap64 (s0_1 + a1))
            · rw [if_pos c20] at H
              have c20b0 := eq_true c20
              have c20b1 : decide ((ji18) ≤ (wrap64 (s0_1 + a1))) = true := decide_eq_true c20
              by_cases c21 : (wrap64 (s0_1 + a1)) ≤ (s0_0.size : Int)
              · rw [if_pos c21] at H
                have c21b0 := eq_true c21
                have c21b1 : decide ((wrap64 (s0_1 + a1)) ≤ (s0_0.size : Int)) = true := decide_eq_true c21
                simp only [Option.some.injEq, Prod.mk.injEq] at H
                obtain ⟨rfl, rfl, rfl, rfl⟩ := H
                obtain ⟨HGz22, hgz22⟩ := HI0.out
                have hcz22_0 := cellS68_0 HGz22
                have hcz22_1 := cellS68_1 HGz22
                have hcz22_2 := cellS68_2 HGz22
                have hfz22_0 := blk_frozen HGz22 0
                have hfz22_1 := blk_frozen HGz22 1
                have hfz22_2 := blk_frozen HGz22 2
                clear HGz22 hgz22
                go_wp2
                repeat (go_quiet (fail); try go_wp2)
                go_ret
                exact ⟨by first | rfl | (simp [errW_none, errW_some] <;> rfl) | (simp only [← hji18]; first | rfl | (simp [errW_none, errW_some] <;> rfl)) | (simp [*, errW_none, errW_some] <;> rfl), by (try simp only [← hji18]); repeat (first | (with_reducible first | exact HI0.out | apply IsS68.alloc | apply IsS68.drewN | apply IsS68.drew | apply IsS68.set_0 | apply IsS68.set_1 | apply IsS68.set_2) | exact HI0.out), by repeat (first | (with_reducible first | exact HB.out | apply below_alloc | apply pw_below_drewN | apply below_drew1 | refine below_set ?_ (IsS68.ge HI0.out)) | exact HB.out), by repeat (first | (with_reducible first | exact HK.out | apply KeepBut.set_ | apply keep_drewN | apply keep_drew | apply keep_alloc) | exact HK.out)⟩
              · rw [if_neg c21] at H
                exact absurd H (by simp)
            · rw [if_neg c20] at H
              exact absurd H (by simp)
          · rw [if_neg c19] at H
            exact absurd H (by simp)
        · rw [if_neg c17] at H
          have c17b0 : (s0_2 == 0) = false := beq_eq_false_iff_ne.mpr c17
          have c17b1 : (s0_2 != 0) = true := bne_iff_ne.mpr c17
          simp only [Option.some.injEq, Prod.mk.injEq] at H
          obtain ⟨rfl, rfl, rfl, rfl⟩ := H
          obtain ⟨HGz23, hgz23⟩ := HI0.out
          have hcz23_0 := cellS68_0 HGz23
          have hcz23_1 := cellS68_1 HGz23
          have hcz23_2 := cellS68_2 HGz23
          have hfz23_0 := blk_frozen HGz23 0
          have hfz23_1 := blk_frozen HGz23 1
          have hfz23_2 := blk_frozen HGz23 2
          clear HGz23 hgz23
          go_wp2
          repeat (go_quiet (fail); try go_wp2)
          go_ret
          exact ⟨by first | rfl | (simp [errW_none, errW_some] <;> rfl) | (simp [*, errW_none, errW_some] <;> rfl), by repeat (first | (with_reducible first | exact HI0.out | apply IsS68.alloc | apply IsS68.drewN | apply IsS68.drew | apply IsS68.set_0 | apply IsS68.set_1 | apply IsS68.set_2) | exact HI0.out), by repeat (first | (with_reducible first | exact HB.out | apply below_alloc | apply pw_below_drewN | apply below_drew1 | refine below_set ?_ (IsS68.ge HI0.out)) | exact HB.out), by repeat (first | (with_reducible first | exact HK.out | apply KeepBut.set_ | apply keep_drewN | apply keep_drew | apply keep_alloc) | exact HK.out)⟩
end Go.Proofs.Ytfcndhajcikgiaa.B
namespace Go.Proofs.Ytfcndhajcikgiaa.B
open Go.RowKit Go.Proofs.YtfcndhajcikgiaaW.PrintWords Go.Proofs.YtfcndhajcikgiaaW.PrintLast Go.Proofs.YtfcndhajcikgiaaW.PrintMore
def bonsairef03_Reader_Fix.l0 : Nat → ByteArray → Int → Int → ByteArray → Int → Int → Option (Int × ByteArray × Int × Int)
  | 0, _, _, _, _, _, _ => none
  | k + 1, x3, x4, x5, x1000, x1001, x1002 => if x5 ≥ 0 then (if 0 ≤ x5 then (if x5 < (x3.size : Int) then (bonsairef03_Reader_Fix.l0 k x3 (IntKind.u64.wrap ((IntKind.u64.wrap (256 * x4)) + (IntKind.u64.wrap (bt x3 x5)))) (wrap64 (x5 - 1)) x1000 x1001 x1002) else (none)) else (none)) else (some (x4, x1000, x1001, x1002))
def bonsairef03_Reader_Fix.f (k : Nat) (s0_0 : ByteArray) (s0_1 : Int) (s0_2 : Int) : Option (Int × ByteArray × Int × Int) := (bonsairef03_Reader_Take.f k s0_0 s0_1 s0_2 8).bind fun bt269 => (bonsairef03_Reader_Fix.l0 k bt269.1 0 (wrap64 ((bt269.1.size : Int) - 1)) bt269.2.1 bt269.2.2.1 bt269.2.2.2)
theorem bonsairef03_Reader_Fix.mono_l : ∀ k, (∀ y0 y1 y2 y3 y4 y5, LeO (bonsairef03_Reader_Fix.l0 k y0 y1 y2 y3 y4 y5) (bonsairef03_Reader_Fix.l0 (k + 1) y0 y1 y2 y3 y4 y5))
  | 0 => fun _ _ _ _ _ _ r h => by simp [bonsairef03_Reader_Fix.l0] at h
  | k + 1 => by
    have ih0 := bonsairef03_Reader_Fix.mono_l k
    · intro y0 y1 y2 y3 y4 y5
      unfold bonsairef03_Reader_Fix.l0
      repeat' first
      | (with_reducible exact ih0 _ _ _ _ _ _)
      | (with_reducible exact bonsairef03_Reader_Take.mono _ _ _ _ _)
      | (with_reducible exact LeO.refl _)
      | (with_reducible exact LeO.none _)
      | (with_reducible refine LeO.ite ?_ ?_)
      | (with_reducible refine LeO.bind ?_ (fun _ => ?_))
      | exact ih0 _ _ _ _ _ _
      | exact bonsairef03_Reader_Take.mono _ _ _ _ _
      | exact LeO.none _
      | refine LeO.ite ?_ ?_
      | refine LeO.bind ?_ (fun _ => ?_)
theorem bonsairef03_Reader_Fix.mono : ∀ a0 a1 a2 k, LeO (bonsairef03_Reader_Fix.f k a0 a1 a2) (bonsairef03_Reader_Fix.f (k + 1) a0 a1 a2) := by
  intro a0 a1 a2 k
  have ih0 := bonsairef03_Reader_Fix.mono_l k
  unfold bonsairef03_Reader_Fix.f
  repeat' first
      | (with_reducible exact ih0 _ _ _ _ _ _)
      | (with_reducible exact bonsairef03_Reader_Take.mono _ _ _ _ _)
      | (with_reducible exact LeO.refl _)
      | (with_reducible exact LeO.none _)
      | (with_reducible refine LeO.ite ?_ ?_)
      | (with_reducible refine LeO.bind ?_ (fun _ => ?_))
      | exact ih0 _ _ _ _ _ _
      | exact bonsairef03_Reader_Take.mono _ _ _ _ _
      | exact LeO.none _
      | refine LeO.ite ?_ ?_
      | refine LeO.bind ?_ (fun _ => ?_)
set_option maxHeartbeats 8000000 in
set_option maxRecDepth 100000 in
theorem bonsairef03_Reader_Fix.calls (k : Nat) (g : Nat) (s0_0 : ByteArray) (s0_1 : Int) (s0_2 : Int) (r1 : Int) (r2 : ByteArray) (r3 : Int) (r4 : Int) (w0 w : World) (hI : IsS68 w0 w g s0_0 s0_1 s0_2) (hB : Below w0.heap.size w0 w) (h : bonsairef03_Reader_Fix.f k s0_0 s0_1 s0_2 = some (r1, r2, r3, r4)) :
    Calls Try.prog 38 #[.pointer (some ⟨g, 0, none⟩)] w fun e w' => e = .returned (.int .u64 r1) ∧ IsS68 w0 w' g r2 r3 r4 ∧ Below w0.heap.size w0 w' ∧ KeepBut w w' g none := by
  have HI0 := Aside0.mk hI
  have HK := Aside0.mk (KeepBut.refl w g none)
  have HL := Aside0.mk hB.size
  clear hI
  have HW0 := Aside0.mk hB.size
  have HB := Aside0.mk hB
  clear hB
  have H : ((bonsairef03_Reader_Take.f k s0_0 s0_1 s0_2 8).bind fun bt269 => (bonsairef03_Reader_Fix.l0 k bt269.1 0 (wrap64 ((bt269.1.size : Int) - 1)) bt269.2.1 bt269.2.2.1 bt269.2.2.2)) = some (r1, r2, r3, r4) := h
  clear h
  replace H := Option.bind_eq_some_iff.mp H
  obtain ⟨⟨t269, t270, t271, t272⟩, A20, H⟩ := H
  replace H : (bonsairef03_Reader_Fix.l0 k t269 0 (wrap64 ((t269.size : Int) - 1)) t270 t271 t272) = some (r1, r2, r3, r4) := H
  have A2 := Aside0.mk A20
  clear A20
  have H' := Aside0.mk H
  clear H
  go_enter Try.func38, Try.ntmps38
  go_wp2_with (first | ((with_reducible refine gate_callee (f := 70) rfl ?_); refine goesL_ (some 7) rfl rfl Try.func70 (by kernel_rfl) rfl #[.pointer (some ⟨g, 0, none⟩), .int .i64 8] rfl (by (try simp only [List.map_toArray, List.map_cons, List.map_nil]); first | done | rfl | (simp only [List.length_drop, List.length_take]; rfl)) ?_; (with_reducible refine (bonsairef03_Reader_Take.calls k g s0_0 s0_1 s0_2 8 t269 t270 t271 t272 w0 _ ?side1 ?side2 A2.out).mono ?_); (case side1 => repeat (first | (with_reducible first | exact HI0.out | apply IsS68.alloc | apply IsS68.drewN | apply IsS68.drew | apply IsS68.set_0 | apply IsS68.set_1 | apply IsS68.set_2) | exact HI0.out)); (case side2 => repeat (first | (with_reducible first | exact HB.out | apply below_alloc | apply pw_below_drewN | apply below_drew1 | refine below_set ?_ (IsS68.ge HI0.out)) | exact HB.out)); rintro e w3 ⟨rfl, hi, hb, hk⟩; refine ⟨_, rfl, ?_⟩; have n0_ := Aside0.mk (KeepBut.trans (by repeat (first | (with_reducible first | exact HK.out | apply KeepBut.set_ | apply keep_drewN | apply keep_drew | apply keep_alloc) | exact HK.out)) hk (.inl rfl)); have n1_ := Aside0.mk (hb); have n2_ := Aside0.mk (hi); clear HK; clear HB; clear HI0; have HK := n0_; have HB := n1_; have HI0 := n2_; clear n0_ n1_ n2_; (try clear hb); (try clear hb2); (try clear hk); (try clear hi)))
  go_loopg [4, 5] k (fun kq v4 v5 w' => ∃ (x4_1 : Int) (x5_1 : Int), v4 = .int .u64 x4_1 ∧ v5 = .int .i64 x5_1 ∧ Aside0 (bonsairef03_Reader_Fix.l0 kq t269 x4_1 x5_1 t270 t271 t272 = some (r1, r2, r3, r4)) ∧ Aside0 (kq ≤ k) ∧ Aside0 (IsS68 w0 w' g t270 t271 t272) ∧ Aside0 (KeepBut w w' g none) ∧ Aside0 (Below w0.heap.size w0 w'))
  case atStart => exact ⟨(0), (wrap64 ((t269.size : Int) - 1)), (by first | rfl | (simp; done) | (simp [*]; done)), (by first | rfl | (simp; done) | (simp [*]; done)), H', ⟨Nat.le_refl _⟩, ⟨by repeat (first | (with_reducible first | exact HI0.out | apply IsS68.alloc | apply IsS68.drewN | apply IsS68.drew | apply IsS68.set_0 | apply IsS68.set_1 | apply IsS68.set_2) | exact HI0.out)⟩, ⟨by repeat (first | (with_reducible first | exact HK.out | apply KeepBut.set_ | apply keep_drewN | apply keep_drew | apply keep_alloc) | exact HK.out)⟩, ⟨by repeat (first | (with_reducible first | exact HB.out | apply below_alloc | apply pw_below_drewN | apply below_drew1 | refine below_set ?_ (IsS68.ge HI0.out)) | exact HB.out)⟩⟩
  case round =>
    clear H'
    try clear p2
    try clear c3
    obtain ⟨x4_1, x5_1, rfl, rfl, HA, HK1, HI0, HK, HB⟩ := hrel
    cases gk with
    | zero => exact absurd HA.out (by simp [bonsairef03_Reader_Fix.l0])
    | succ k1 =>
      have H := HA.out
      clear HA
      simp only [bonsairef03_Reader_Fix.l0] at H
      by_cases c4 : x5_1 ≥ 0
      · rw [if_pos c4] at H
        have c4b0 : decide (0 ≤ x5_1) = true := decide_eq_true c4
        clear c4
        by_cases c5 : 0 ≤ x5_1
        · rw [if_pos c5] at H
          have c5b0 : decide (0 ≤ x5_1) = true := decide_eq_true c5
          clear c5
          by_cases c6 : x5_1 < (t269.size : Int)
          · rw [if_pos c6] at H
            have c6b0 : decide (x5_1 < (t269.size : Int)) = true := decide_eq_true c6
            clear c6
            have H' := Aside0.mk H
            clear H
            have p7 : 0 ≤ (x5_1 : Int) := of_decide_eq_true (by first | (with_reducible assumption) | assumption)
            have q7 : x5_1 < (t269.size : Int) := of_decide_eq_true (by first | (with_reducible assumption) | assumption)
            have hx7 := bt_at t269 x5_1
            replace p7 := eq_true p7
            replace q7 := eq_true q7
            go_wp2
            go_roundg k1
            case measure => have := HK1.out; omega
            case rel => exact ⟨(IntKind.u64.wrap ((IntKind.u64.wrap (256 * x4_1)) + (IntKind.u64.wrap (bt t269 x5_1)))), (wrap64 (x5_1 - 1)), (by first | rfl | (simp; done) | (simp [*]; done)), (by first | rfl | (simp; done) | (simp [*]; done)), H', ⟨by have := HK1.out; omega⟩, ⟨by repeat (first | (with_reducible first | exact HI0.out | apply IsS68.alloc | apply IsS68.drewN | apply IsS68.drew | apply IsS68.set_0 | apply IsS68.set_1 | apply IsS68.set_2) | exact HI0.out)⟩, ⟨by repeat (first | (with_reducible first | exact HK.out | apply KeepBut.set_ | apply keep_drewN | apply keep_drew | apply keep_alloc) | exact HK.out)⟩, ⟨by repeat (first | (with_reducible first | exact HB.out | apply below_alloc | apply pw_below_drewN | apply below_drew1 | refine below_set ?_ (IsS68.ge HI0.out)) | exact HB.out)⟩⟩
          · rw [if_neg c6] at H
            exact absurd H (by simp)
        · rw [if_neg c5] at H
          exact absurd H (by simp)
      · rw [if_neg c4] at H
        have c4b0 : decide (0 ≤ x5_1) = false := decide_eq_false c4
        clear c4
        simp only [Option.some.injEq, Prod.mk.injEq] at H
        obtain ⟨rfl, rfl, rfl, rfl⟩ := H
        go_wp2
        go_ret
        exact ⟨by first | rfl | (simp [errW_none, errW_some] <;> rfl) | (simp [*, errW_none, errW_some] <;> rfl), by repeat (first | (with_reducible first | exact HI0.out | apply IsS68.alloc | apply IsS68.drewN | apply IsS68.drew | apply IsS68.set_0 | apply IsS68.set_1 | apply IsS68.set_2) | exact HI0.out), by repeat (first | (with_reducible first | exact HB.out | apply below_alloc | apply pw_below_drewN | apply below_drew1 | refine below_set ?_ (IsS68.ge HI0.out)) | exact HB.out), by repeat (first | (with_reducible first | exact HK.out | apply KeepBut.set_ | apply keep_drewN | apply keep_drew | apply keep_alloc) | exact HK.out)⟩
end Go.Proofs.Ytfcndhajcikgiaa.B
namespace Go.Proofs.Ytfcndhajcikgiaa.B
open Go.RowKit Go.Proofs.YtfcndhajcikgiaaW.PrintWords Go.Proofs.YtfcndhajcikgiaaW.PrintLast Go.Proofs.YtfcndhajcikgiaaW.PrintMore
def bonsairef03_Reader_Left.f (s0_0 : ByteArray) (s0_1 : Int) (s0_2 : Int) : Option (Int × ByteArray × Int × Int) := some (wrap64 ((s0_0.size : Int) - s0_1), s0_0, s0_1, s0_2)
set_option maxHeartbeats 8000000 in
set_option maxRecDepth 100000 in
theorem bonsairef03_Reader_Left.calls (g : Nat) (s0_0 : ByteArray) (s0_1 : Int) (s0_2 : Int) (r1 : Int) (r2 : ByteArray) (r3 : Int) (r4 : Int) (w0 w : World) (hI : IsS68 w0 w g s0_0 s0_1 s0_2) (hB : Below w0.heap.size w0 w) (h : bonsairef03_Reader_Left.f s0_0 s0_1 s0_2 = some (r1, r2, r3, r4)) :
    Calls Try.prog 43 #[.pointer (some ⟨g, 0, none⟩)] w fun e w' => e = .returned (.int .i64 r1) ∧ IsS68 w0 w' g r2 r3 r4 ∧ Below w0.heap.size w0 w' ∧ KeepBut w w' g none := by
  have HI0 := Aside0.mk hI
  have HK := Aside0.mk (KeepBut.refl w g none)
  have HL := Aside0.mk hB.size
  clear hI
  have HW0 := Aside0.mk hB.size
  have HB := Aside0.mk hB
  clear hB
  have H : (some (wrap64 ((s0_0.size : Int) - s0_1), s0_0, s0_1, s0_2)) = some (r1, r2, r3, r4) := h
  clear h
  simp only [Option.some.injEq, Prod.mk.injEq] at H
  obtain ⟨rfl, rfl, rfl, rfl⟩ := H
  obtain ⟨HGz2, hgz2⟩ := HI0.out
  have hcz2_0 := cellS68_0 HGz2
  have hcz2_1 := cellS68_1 HGz2
  have hcz2_2 := cellS68_2 HGz2
  have hfz2_0 := blk_frozen HGz2 0
  have hfz2_1 := blk_frozen HGz2 1
  have hfz2_2 := blk_frozen HGz2 2
  clear HGz2 hgz2
  go_enter Try.func43, Try.ntmps43
  go_wp2
  repeat (go_quiet (fail); try go_wp2)
  go_ret
  exact ⟨by first | rfl | (simp [errW_none, errW_some] <;> rfl) | (simp [*, errW_none, errW_some] <;> rfl), by repeat (first | (with_reducible first | exact HI0.out | apply IsS68.alloc | apply IsS68.drewN | apply IsS68.drew | apply IsS68.set_0 | apply IsS68.set_1 | apply IsS68.set_2) | exact HI0.out), by repeat (first | (with_reducible first | exact HB.out | apply below_alloc | apply pw_below_drewN | apply below_drew1 | refine below_set ?_ (IsS68.ge HI0.out)) | exact HB.out), by repeat (first | (with_reducible first | exact HK.out | apply KeepBut.set_ | apply keep_drewN | apply keep_drew | apply keep_alloc) | exact HK.out)⟩
end Go.Proofs.Ytfcndhajcikgiaa.B
namespace Go.Proofs.Ytfcndhajcikgiaa.B
open Go.RowKit Go.Proofs.Sp Go.Proofs.Fl Go.Proofs.YtfcndhajcikgiaaW.PrintWords Go.Proofs.YtfcndhajcikgiaaW.PrintLast Go.Proofs.YtfcndhajcikgiaaW.PrintMore
theorem Suf.get {S s : ByteArray} (h : Suf S s) {i : Nat} (hi : i < s.size) : bt S (((S.size - s.size + i : Nat)) : Int) = (s[i].toNat : Int) := by
  have h1 := h.1
  rw [bt_nat S _ (by omega)]
  have h2 : S.data.toList[S.size - s.size + i]? = s.data.toList[i]? := by rw [h.list, List.getElem?_drop]
  rw [List.getElem?_eq_getElem (by simp; omega), List.getElem?_eq_getElem (by simpa using hi)] at h2
  have h3 := Option.some.inj h2
  have h4 : (S.data.toList[S.size - s.size + i]'(by simp; omega)) = S[S.size - s.size + i]'(by omega) := rfl
  have h5 : (s.data.toList[i]'(by simpa using hi)) = s[i] := rfl
  rw [h4, h5] at h3
  rw [h3]
theorem numL_le : ∀ (i v : Nat) (l : List UInt8) (w n : Nat), numL i v l = .ok (w, n) → n ≤ i + l.length
  | i, v, [], w, n, h => by simp [numL] at h
  | i, v, b :: r, w, n, h => by
    rw [numL] at h
    split at h
    · split at h
      · cases h; simp
      · have := numL_le _ _ _ _ _ h; simp; omega
    · cases h
def NumEnd (S s : ByteArray) : Except Int (Nat × Nat) → Option (Int × ByteArray × Int × Int)
  | .ok (v, n) => some ((v : Int), S, (S.size : Int) - s.size + n, 0)
  | .error f => some (0, S, (S.size : Int) - s.size, f)
theorem num_j2 (S s : ByteArray) (k : Nat) (v i : Nat) (c : UInt8) (fl : Bool) (hs : Suf S s) (hS : S.size ≤ 140737488355328) (hi : i < s.size) (h9 : i ≤ 9) (hv : v < 2 ^ (7 * i)) (hc : c = s[i]) (hf : fl = !decide ((i < 9 ∨ c.toNat ≤ 1) ∧ (i = 0 ∨ c.toNat ≠ 0)))
    (hn : i < 9 → ¬ c.toNat < 128 → bonsairef03_Reader_Num.l0 k ((v + (c.toNat - 128) * 2 ^ (7 * i) : Nat) : Int) ((2 ^ (7 * (i + 1)) : Nat) : Int) ((i + 1 : Nat) : Int) S ((S.size : Int) - s.size) 0 = NumEnd S s (numL (i + 1) (v + (c.toNat - 128) * 2 ^ (7 * i)) (s.data.toList.drop (i + 1)))) :
    bonsairef03_Reader_Num.j2 (k + 1) v ((2 ^ (7 * i) : Nat) : Int) i (c.toNat : Int) fl S ((S.size : Int) - s.size) 0 = NumEnd S s (numL i v (s.data.toList.drop i)) := by
  have h1 := hs.1
  have hcl := c.toNat_lt
  have hd : s.data.toList.drop i = c :: s.data.toList.drop (i + 1) := by rw [List.drop_eq_getElem_cons (by simpa using hi), hc]; rfl
  rw [bonsairef03_Reader_Num.j2, hd, numL]
  by_cases hq : (i < 9 ∨ c.toNat ≤ 1) ∧ (i = 0 ∨ c.toNat ≠ 0)
  · have hfl : fl = false := by rw [hf, decide_eq_true hq]; rfl
    rw [hfl, if_neg (by decide), if_pos hq]
    have hp : 2 ^ (7 * i) ≤ 2 ^ 63 := Nat.pow_le_pow_right (by decide) (by omega)
    have hm : (c.toNat : Int).tmod 128 = ((c.toNat % 128 : Nat) : Int) := by rw [Int.tmod_eq_emod_of_nonneg (by omega)]; rfl
    have hb : (c.toNat % 128) * 2 ^ (7 * i) < 2 ^ 64 - 2 ^ (7 * i) + 1 := by
      rcases Nat.lt_or_ge i 9 with h | h
      · have h8 : 2 ^ (7 * i) ≤ 2 ^ 56 := Nat.pow_le_pow_right (by decide) (by omega)
        have : (c.toNat % 128) * 2 ^ (7 * i) ≤ 127 * 2 ^ 56 := Nat.mul_le_mul (by omega) h8
        omega
      · have hi9 : i = 9 := by omega
        subst hi9
        have hc1 : c.toNat ≤ 1 := by omega
        have : (c.toNat % 128) * 2 ^ (7 * 9) ≤ 1 * 2 ^ 63 := Nat.mul_le_mul (by omega) (Nat.le_refl _)
        omega
    have e1 : IntKind.u64.wrap ((c.toNat : Int).tmod 128 * ((2 ^ (7 * i) : Nat) : Int)) = (((c.toNat % 128) * 2 ^ (7 * i) : Nat) : Int) := by
      rw [hm, ← Int.natCast_mul]; exact IntWalk.u64_in _ (by omega)
    rw [e1]
    have hvb : v + (c.toNat % 128) * 2 ^ (7 * i) < 2 ^ 64 := by omega
    have e2 : IntKind.u64.wrap ((v : Int) + (((c.toNat % 128) * 2 ^ (7 * i) : Nat) : Int)) = ((v + (c.toNat % 128) * 2 ^ (7 * i) : Nat) : Int) := by
      rw [← Int.natCast_add]; exact IntWalk.u64_in _ (by omega)
    rw [e2]
    by_cases hl : c.toNat < 128
    · rw [if_pos (by omega), if_pos hl, show c.toNat % 128 = c.toNat by omega, w64 (n := (S.size : Int) - s.size + i) (by omega) (by omega), w64 (by omega) (by omega)]
      rw [show (S.size : Int) - s.size + i + 1 = (S.size : Int) - s.size + ((i + 1 : Nat) : Int) by omega]
      rfl
    · have hi9 : i < 9 := by omega
      rw [if_neg (by omega), if_neg hl, show c.toNat % 128 = c.toNat - 128 by omega, ← hn hi9 hl]
      have e3 : IntKind.u64.wrap (((2 ^ (7 * i) : Nat) : Int) * 128) = ((2 ^ (7 * (i + 1)) : Nat) : Int) := by
        have h8 : 2 ^ (7 * (i + 1)) ≤ 2 ^ 63 := Nat.pow_le_pow_right (by decide) (by omega)
        have h9' : 2 ^ (7 * (i + 1)) = 2 ^ (7 * i) * 128 := by rw [show 7 * (i + 1) = 7 * i + 7 by omega, Nat.pow_add]
        rw [h9'] at h8 ⊢
        rw [Int.natCast_mul]; exact IntWalk.u64_in _ (by omega)
      rw [e3, w64 (by omega) (by omega)]
      rfl
  · have hfl : fl = true := by rw [hf, decide_eq_false hq]; rfl
    rw [hfl, if_pos rfl, if_neg hq]; rfl
theorem num_l (S s : ByteArray) (hs : Suf S s) (hS : S.size ≤ 140737488355328) : ∀ (m i v k : Nat), i + m = 9 → v < 2 ^ (7 * i) → 3 * m + 3 ≤ k →
    bonsairef03_Reader_Num.l0 k v ((2 ^ (7 * i) : Nat) : Int) i S ((S.size : Int) - s.size) 0 = NumEnd S s (numL i v (s.data.toList.drop i)) := by
  intro m
  induction m with
  | zero => exact fun i v k him hv hk => step 0 i v k him hv hk (fun h => absurd h (by omega))
  | succ m ih => exact fun i v k him hv hk => step (m + 1) i v k him hv hk (fun h9 c hcl hc => ih (i + 1) _ (k - 3) (by omega) hcl (by omega))
where
  step (m i v k : Nat) (him : i + m = 9) (hv : v < 2 ^ (7 * i)) (hk : 3 * m + 3 ≤ k)
      (hn : i < 9 → ∀ c : UInt8, v + (c.toNat - 128) * 2 ^ (7 * i) < 2 ^ (7 * (i + 1)) → ¬ c.toNat < 128 → bonsairef03_Reader_Num.l0 (k - 3) ((v + (c.toNat - 128) * 2 ^ (7 * i) : Nat) : Int) ((2 ^ (7 * (i + 1)) : Nat) : Int) ((i + 1 : Nat) : Int) S ((S.size : Int) - s.size) 0 = NumEnd S s (numL (i + 1) (v + (c.toNat - 128) * 2 ^ (7 * i)) (s.data.toList.drop (i + 1)))) :
      bonsairef03_Reader_Num.l0 k v ((2 ^ (7 * i) : Nat) : Int) i S ((S.size : Int) - s.size) 0 = NumEnd S s (numL i v (s.data.toList.drop i)) := by
    have h1 := hs.1
    obtain ⟨k, rfl⟩ : ∃ j, k = j + 3 := ⟨k - 3, by omega⟩
    rw [bonsairef03_Reader_Num.l0, if_pos (by omega), bonsairef03_Reader_Num.j1, if_pos (show ((0 : Int) == 0) = true from rfl), w64 (n := (S.size : Int) - s.size + i) (by omega) (by omega)]
    by_cases hi : i < s.size
    · rw [if_neg (by omega), if_pos (by omega), if_pos (by omega), show (S.size : Int) - s.size + i = ((S.size - s.size + i : Nat) : Int) by omega, hs.get hi]
      obtain ⟨c, hc⟩ : ∃ c, c = s[i] := ⟨_, rfl⟩
      rw [← hc]
      have hcl := c.toNat_lt
      rw [IntWalk.u64_in _ (show (0 : Int) ≤ (c.toNat : Int) ∧ (c.toNat : Int) ≤ 18446744073709551615 by omega)]
      have key : ∀ fl, fl = (!decide ((i < 9 ∨ c.toNat ≤ 1) ∧ (i = 0 ∨ c.toNat ≠ 0))) → bonsairef03_Reader_Num.j2 (k + 1) v ((2 ^ (7 * i) : Nat) : Int) i (c.toNat : Int) fl S ((S.size : Int) - s.size) 0 = NumEnd S s (numL i v (s.data.toList.drop i)) := by
        intro fl hfl
        refine num_j2 S s k v i c fl hs hS hi (by omega) hv hc hfl ?_
        intro h9 hl
        have hp : (c.toNat - 128) * 2 ^ (7 * i) ≤ 127 * 2 ^ (7 * i) := Nat.mul_le_mul (by omega) (Nat.le_refl _)
        have hp2 : 2 ^ (7 * (i + 1)) = 128 * 2 ^ (7 * i) := by rw [show 7 * (i + 1) = 7 + 7 * i by omega, Nat.pow_add]
        exact hn h9 c (by omega) hl
      by_cases c9 : i = 9
      · rw [if_pos (show ((i : Nat) : Int) = 9 by omega)]
        by_cases c1 : (c.toNat : Int) > 1
        · rw [if_pos c1]; exact key _ (by rw [decide_eq_false (by omega)]; rfl)
        · rw [if_neg c1, if_pos (by omega)]
          refine key _ ?_
          by_cases c0 : c.toNat = 0
          · rw [decide_eq_false (by omega), c0]; rfl
          · rw [decide_eq_true (by omega)]; simp; omega
      · rw [if_neg (show ¬ ((i : Nat) : Int) = 9 by omega)]
        by_cases ci : i = 0
        · rw [if_neg (by omega)]; exact key _ (by rw [decide_eq_true (by omega)]; rfl)
        · rw [if_pos (by omega)]
          refine key _ ?_
          by_cases c0 : c.toNat = 0
          · rw [decide_eq_false (by omega), c0]; rfl
          · rw [decide_eq_true (by omega)]; simp; omega
    · rw [if_pos (by omega), List.drop_eq_nil_of_le (by simp; omega)]; rfl
/-- Num, by what is left. -/
theorem rnum_f (S : ByteArray) (q : ByteArray × Int) (hs : Suf S q.1) (hS : S.size ≤ 140737488355328) (k : Nat) (hk : 30 ≤ k) :
    bonsairef03_Reader_Num.f k S ((S.size : Int) - q.1.size) q.2 = some ((numR q).1, S, (S.size : Int) - (numR q).2.1.size, (numR q).2.2) := by
  unfold bonsairef03_Reader_Num.f numR
  by_cases he : q.2 = 0
  · rw [if_pos he, he]
    have := num_l S q.1 hs hS 9 0 0 k (by omega) (by decide) (by omega)
    rw [show ((2 ^ (7 * 0) : Nat) : Int) = 1 from rfl, show ((0 : Nat) : Int) = 0 from rfl] at this
    rw [this]
    unfold numS
    rw [List.drop_zero]
    cases hn : numL 0 0 q.1.data.toList with
    | error f => rfl
    | ok r =>
      obtain ⟨v, n⟩ := r
      have hle := numL_le _ _ _ _ _ hn
      simp only [NumEnd]
      congr 3
      have h1 : (q.1.extract n q.1.size).size = q.1.size - n := by rw [ByteArray.size_extract]; omega
      have h2 : q.1.data.toList.length = q.1.size := by simp
      rw [h1]; congr 1; omega
  · rw [if_neg he]
    obtain ⟨k, rfl⟩ : ∃ j, k = j + 2 := ⟨k - 2, by omega⟩
    rw [bonsairef03_Reader_Num.l0, if_pos (by decide), bonsairef03_Reader_Num.j1, if_neg (by simpa using he)]
/-- Take, by what is left. -/
theorem rtake_f (S : ByteArray) (q : ByteArray × Int) (n : Int) (hs : Suf S q.1) (hS : S.size ≤ 140737488355328) (hn : n ≤ 9223372036854775807) (k : Nat) (hk : 1 ≤ k) :
    bonsairef03_Reader_Take.f k S ((S.size : Int) - q.1.size) q.2 n = some ((takeR q n).1, S, (S.size : Int) - (takeR q n).2.1.size, (takeR q n).2.2) := by
  obtain ⟨k, rfl⟩ : ∃ j, k = j + 1 := ⟨k - 1, by omega⟩
  have h1 := hs.1
  unfold bonsairef03_Reader_Take.f takeR
  by_cases he : q.2 = 0
  · rw [if_pos he, if_pos he]
    have hw : wrap64 ((S.size : Int) - ((S.size : Int) - q.1.size)) = q.1.size := by unfold wrap64; omega
    by_cases h0 : n < 0
    · rw [if_pos h0, bonsairef03_Reader_Take.j0, if_pos rfl, if_neg (by decide), if_neg (by omega)]
    · rw [if_neg h0, hw]
      by_cases h2 : n > (q.1.size : Int)
      · rw [decide_eq_true h2, bonsairef03_Reader_Take.j0, if_pos rfl, if_neg (by decide), if_neg (by omega)]
      · have e1 : wrap64 ((S.size : Int) - q.1.size + n) = ((S.size - q.1.size + n.toNat : Nat) : Int) := by unfold wrap64; omega
        have e2 : wrap64 (((S.size - q.1.size + n.toNat : Nat) : Int) - n) = ((S.size - q.1.size : Nat) : Int) := by unfold wrap64; omega
        rw [decide_eq_false h2, bonsairef03_Reader_Take.j0, if_neg (by decide), if_pos he, e1, e2, if_pos (by omega), if_pos (by omega), if_pos (by omega), if_pos (by omega), Int.toNat_natCast, Int.toNat_natCast]
        have e3 : S.extract (S.size - q.1.size) (S.size - q.1.size + n.toNat) = q.1.extract 0 n.toNat := by
          apply ba_ext
          rw [extract_list, extract_list, hs.list, List.drop_zero]
          congr 1; omega
        have e4 : (q.1.extract n.toNat q.1.size).size = q.1.size - n.toNat := by rw [ByteArray.size_extract]; omega
        rw [e3, e4, he]
        congr 3
        congr 1
        omega
  · rw [if_neg he, if_neg he, bonsairef03_Reader_Take.j0, if_neg (by decide), if_neg he]
/-- Fix's rounds. -/
theorem fix_l (t : ByteArray) (S : ByteArray) (a e : Int) (ht : t.size ≤ 8) : ∀ (d j k : Nat), j + d = t.size → d + 1 ≤ k →
    bonsairef03_Reader_Fix.l0 k t (backV (upto (backF (fun j => t.data.toList.getD j 0) t.size) j) : Nat) ((t.size : Int) - 1 - j) S a e = some (((backV (upto (backF (fun j => t.data.toList.getD j 0) t.size) t.size) : Nat) : Int), S, a, e)
  | 0, j, k, hd, hk => by
    obtain ⟨k, rfl⟩ : ∃ m, k = m + 1 := ⟨k - 1, by omega⟩
    rw [bonsairef03_Reader_Fix.l0, if_neg (by omega), show j = t.size by omega]
  | d + 1, j, k, hd, hk => by
    obtain ⟨k, rfl⟩ : ∃ m, k = m + 1 := ⟨k - 1, by omega⟩
    rw [bonsairef03_Reader_Fix.l0, if_pos (by omega), if_pos (by omega), if_pos (by omega)]
    have hv := backV_lt (backF (fun j => t.data.toList.getD j 0) t.size) j
    have hv2 : 256 ^ j ≤ 256 ^ 7 := Nat.pow_le_pow_right (by decide) (by omega)
    have hb : bt t ((t.size : Int) - 1 - j) = ((t.data.toList.getD (t.size - 1 - j) 0).toNat : Int) := by
      rw [show (t.size : Int) - 1 - j = ((t.size - 1 - j : Nat) : Int) by omega, bt_nat t _ (by omega), List.getD_eq_getElem?_getD, List.getElem?_eq_getElem (by simp; omega)]; rfl
    have hc := (t.data.toList.getD (t.size - 1 - j) 0).toNat_lt
    rw [hb, IntWalk.u64_in (((t.data.toList.getD (t.size - 1 - j) 0).toNat : Nat) : Int) (by omega), IntWalk.u64_in (256 * _) (by omega), IntWalk.u64_in _ (by omega),
      show wrap64 ((t.size : Int) - 1 - j - 1) = (t.size : Int) - 1 - ((j + 1 : Nat) : Int) by unfold wrap64; omega, ← fix_l t S a e ht d (j + 1) k (by omega) (by omega)]
    rw [upto_succ, backV_snoc]
    congr 1
    show (256 * (_ : Int) + _) = ((_ * 256 + (t.data.toList.getD (t.size - 1 - j) 0).toNat : Nat) : Int)
    omega
theorem rfix_f (S : ByteArray) (q : ByteArray × Int) (hs : Suf S q.1) (hS : S.size ≤ 140737488355328) (k : Nat) (hk : 10 ≤ k) :
    bonsairef03_Reader_Fix.f k S ((S.size : Int) - q.1.size) q.2 = some (((fixR q).1 : Int), S, (S.size : Int) - (fixR q).2.1.size, (fixR q).2.2) := by
  unfold bonsairef03_Reader_Fix.f fixR
  rw [rtake_f S q 8 hs hS (by decide) k (by omega)]
  simp only [Option.bind_some]
  have ht := takeR_size q 8 rfl
  rw [show wrap64 (((takeR q 8).1.size : Int) - 1) = ((takeR q 8).1.size : Int) - 1 - ((0 : Nat) : Int) by unfold wrap64; omega]
  exact fix_l (takeR q 8).1 S _ _ ht (takeR q 8).1.size 0 k (by omega) (by omega)
end Go.Proofs.Ytfcndhajcikgiaa.B
