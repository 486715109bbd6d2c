/- RowsBack: for every input the law returns true, and the input reads behind the call as it read before. (Part 1 of 10.) -/
import Derived.Test.YtfcndhajcikgiaaWWords
import Derived.Test.YtfcndhajcikgiaaProg
import Derived.Test.YtfcndhajcikgiaaWLast
import Derived.Test.YtfcndhajcikgiaaWTab
import Derived.Test.YtfcndhajcikgiaaWGuard
import Derived.Test.YtfcndhajcikgiaaWEqStruct
import Derived.Test.YtfcndhajcikgiaaShelf
import Derived.Laws.FloatArith
import Derived.Below
import Derived.Deep.Draws
import Derived.Deep.AppendLies
import Derived.Maps.AppendAt
import Derived.OwnWalk
import Derived.Laws.BytesArg
import Derived.Laws.MakeOwn
import Derived.Laws.OwnMore
import Derived.Deep.OwnRows
import Derived.Tactics
import Derived.Lib.ConvBytes
import Derived.Laws.Slices
import Derived.WalkKit
import Derived.KernelRfl
import Derived.RowKit3
import Derived.Deep.LoopGhost
import Derived.Deep.QuietTactic
import Derived.BigQuiet
import Derived.WideLaws
import Derived.Deep.DeepCutAuto
import Derived.Deep.CutBlock
import Derived.Deep.RegionHeld3
import Derived.Laws.Rows
import Derived.Lib.AppendStr
import Derived.ArgAppend
import Derived.Laws.IdiomCopy
import Derived.OrdersHeld
import Derived.Laws.BitsLemmas
import Derived.RowKit
import Derived.Lib.Hide
import Derived.LoopTactic
import Derived.Outline
import Derived.WalkMore
import Derived.Defers
import Derived.Recover
import Derived.WalkSmall
import Derived.Laws.BitsAllLaws
import Derived.RegionTactic
import Derived.Deep.RegionWith
import Derived.RegionDies
import Derived.RangeFuncNested
import Derived.RangeFuncBound
import Derived.RangeFuncCalls
import Derived.RangeFuncLeaves
import Derived.RangeFuncBox
import Derived.RangeFuncWrites
import Derived.Shelf.Abstract
import Derived.Shelf.RegionOpen
import Derived.OwnWalkIn
import Derived.TacticsInMore
import Derived.LoopNIn
import Derived.LoopIn
import Derived.Laws.ResultCell
import Derived.WalkLawsBesides
import Derived.Deep.WholeRow
import Derived.Laws.EntriesVeiled
import Derived.Shelf.Strings.BuilderK
import Derived.Deep.Slices
import Derived.ChangeSame
import Derived.ProofKit
import Derived.OpenShut
import Derived.ShutString
import Derived.ChangeOld
import Derived.SizedLaws
set_option linter.unusedVariables false
set_option linter.unusedSimpArgs false
set_option autoImplicit false
namespace Go.Proofs.Fl
open Ieee
/-- A finite size's word, in units of the least one. -/
def val (r : Nat) : Nat := if r < 2 ^ 52 then r else (2 ^ 52 + r % 2 ^ 52) * 2 ^ (r / 2 ^ 52 - 1)
/-- The word of a number of units. -/
def rung (v : Nat) : Nat := (v.log2 - 52) * 2 ^ 52 + v / 2 ^ (v.log2 - 52)
/-- A number of units that a word has. -/
def Has (v : Nat) : Prop := 0 < v ∧ v.log2 < 2098 ∧ v % 2 ^ (v.log2 - 52) = 0
theorem log2_eq {v k : Nat} (h1 : 2 ^ k ≤ v) (h2 : v < 2 ^ (k + 1)) : v.log2 = k := by
  have hv : v ≠ 0 := by have := Nat.two_pow_pos k; omega
  have a : k ≤ v.log2 := (Nat.le_log2 hv).2 h1
  have b : v.log2 < k + 1 := (Nat.log2_lt hv).2 h2
  omega
theorem log2_mul_pow {v : Nat} (hv : 0 < v) (k : Nat) : (v * 2 ^ k).log2 = v.log2 + k := by
  refine log2_eq ?_ ?_
  · rw [Nat.pow_add]; exact Nat.mul_le_mul_right _ (Nat.log2_self_le (by omega))
  · rw [Nat.add_right_comm, Nat.pow_add]
    exact Nat.mul_lt_mul_of_pos_right (Nat.lt_log2_self) (Nat.two_pow_pos _)
theorem dbl_binade : double.binade = 2 ^ 52 := rfl
theorem dbl_inf : double.infRung = 2047 * 2 ^ 52 := by decide
theorem dbl_sign : double.signWeight = 2 ^ 63 := by decide
theorem dbl_least : double.leastPlace = -1074 := by decide
theorem read_small {r : Nat} (h : r < 2 ^ 52) : double.read r = .number false r (-1074) := by
  unfold Format.read
  rw [dbl_sign, dbl_binade, dbl_least]
  have h1 : r / 2 ^ 63 = 0 := Nat.div_eq_of_lt (by omega)
  have h2 : r % 2 ^ 63 = r := Nat.mod_eq_of_lt (by omega)
  simp only [h1, h2]
  rw [if_pos h]
  rfl
theorem read_plain {r : Nat} (h : 2 ^ 52 ≤ r) (h' : r < 2047 * 2 ^ 52) : double.read r = .number false (2 ^ 52 + r % 2 ^ 52) (-1074 + ((r / 2 ^ 52 - 1 : Nat) : Int)) := by
  unfold Format.read
  rw [dbl_sign, dbl_binade, dbl_least, dbl_inf]
  have h1 : r / 2 ^ 63 = 0 := Nat.div_eq_of_lt (by omega)
  have h2 : r % 2 ^ 63 = r := Nat.mod_eq_of_lt (by omega)
  simp only [h1, h2]
  rw [if_neg (by omega), if_pos h']
  rfl
/-- A finite size reads as its units. -/
theorem read_val {r : Nat} (h : r < 2047 * 2 ^ 52) : ∃ (m e : Nat), double.read r = .number false m (-1074 + (e : Int)) ∧ val r = m * 2 ^ e ∧ (0 < r → 0 < m) := by
  unfold val
  by_cases h' : r < 2 ^ 52
  · exact ⟨r, 0, by rw [read_small h']; rfl, by rw [if_pos h']; simp, fun h => h⟩
  · exact ⟨_, _, read_plain (by omega) h, by rw [if_neg h'], fun _ => by have := Nat.two_pow_pos 52; omega⟩
theorem val_lt_aux {r : Nat} (h : r < 2047 * 2 ^ 52) (h' : 2 ^ 52 ≤ r) : (val r).log2 = 52 + (r / 2 ^ 52 - 1) := by
  unfold val
  rw [if_neg (by omega), log2_mul_pow (by omega)]
  have : (2 ^ 52 + r % 2 ^ 52).log2 = 52 := log2_eq (by omega) (by omega)
  rw [this]
theorem val_has {r : Nat} (h0 : 0 < r) (h : r < 2047 * 2 ^ 52) : Has (val r) := by
  by_cases h' : r < 2 ^ 52
  · have hv : val r = r := by unfold val; rw [if_pos h']
    rw [hv]
    have hl := (Nat.log2_lt (n := r) (k := 52) (by omega)).2 h'
    refine ⟨h0, by omega, ?_⟩
    have : r.log2 - 52 = 0 := by omega
    rw [this]; simp [Nat.mod_one]
  · have hl := val_lt_aux h (by omega)
    have hv : val r = (2 ^ 52 + r % 2 ^ 52) * 2 ^ (r / 2 ^ 52 - 1) := by unfold val; rw [if_neg h']
    have hpos : 0 < val r := by rw [hv]; exact Nat.mul_pos (by omega) (Nat.two_pow_pos _)
    refine ⟨hpos, ?_, ?_⟩
    · rw [hl]
      have : r / 2 ^ 52 < 2047 := (Nat.div_lt_iff_lt_mul (by omega)).2 h
      omega
    · rw [hl, hv]
      have : 52 + (r / 2 ^ 52 - 1) - 52 = r / 2 ^ 52 - 1 := by omega
      rw [this, Nat.mul_mod_left]
theorem rung_val {r : Nat} (h : r < 2047 * 2 ^ 52) : rung (val r) = r := by
  unfold rung
  by_cases h' : r < 2 ^ 52
  · have hv : val r = r := by unfold val; rw [if_pos h']
    rw [hv]
    have : r.log2 - 52 = 0 := by
      by_cases hz : r = 0
      · subst hz; rfl
      · have := (Nat.log2_lt (n := r) (k := 52) (by omega)).2 h'; omega
    rw [this]; simp
  · have hl := val_lt_aux h (by omega)
    have hv : val r = (2 ^ 52 + r % 2 ^ 52) * 2 ^ (r / 2 ^ 52 - 1) := by unfold val; rw [if_neg h']
    have e : 52 + (r / 2 ^ 52 - 1) - 52 = r / 2 ^ 52 - 1 := by omega
    rw [hl, e, hv, Nat.mul_div_cancel _ (Nat.two_pow_pos _)]
    have h1 : 1 ≤ r / 2 ^ 52 := (Nat.one_le_div_iff (by omega)).2 (by omega)
    have h2 : 2 ^ 52 * (r / 2 ^ 52) + r % 2 ^ 52 = r := Nat.div_add_mod r (2 ^ 52)
    generalize r / 2 ^ 52 = q at *
    generalize r % 2 ^ 52 = s at *
    obtain ⟨q, rfl⟩ : ∃ p, q = p + 1 := ⟨q - 1, by omega⟩
    omega
theorem rung_lt {v : Nat} (h : Has v) : rung v < 2047 * 2 ^ 52 := by
  obtain ⟨h0, h1, h2⟩ := h
  have hd : v / 2 ^ (v.log2 - 52) < 2 ^ 53 := by
    refine Nat.div_lt_of_lt_mul ?_
    rw [← Nat.pow_add]
    exact Nat.lt_of_lt_of_le Nat.lt_log2_self (Nat.pow_le_pow_right (by omega) (by omega))
  unfold rung
  have : v.log2 - 52 ≤ 2045 := by omega
  generalize v.log2 - 52 = t at *
  generalize v / 2 ^ t = k at *
  have : t * 2 ^ 52 ≤ 2045 * 2 ^ 52 := Nat.mul_le_mul_right _ this
  omega
theorem val_rung {v : Nat} (h : Has v) : val (rung v) = v := by
  obtain ⟨h0, h1, h2⟩ := h
  unfold val rung
  by_cases hs : v.log2 < 52
  · have e : v.log2 - 52 = 0 := by omega
    have : v < 2 ^ 52 := (Nat.log2_lt (by omega)).1 hs
    rw [e]; simp only [Nat.zero_mul, Nat.pow_zero, Nat.div_one, Nat.zero_add]
    rw [if_pos this]
  · have hlo : 2 ^ 52 ≤ v / 2 ^ (v.log2 - 52) := by
      refine (Nat.le_div_iff_mul_le (Nat.two_pow_pos _)).2 ?_
      rw [← Nat.pow_add]
      have : 52 + (v.log2 - 52) = v.log2 := by omega
      rw [this]; exact Nat.log2_self_le (by omega)
    have hhi : v / 2 ^ (v.log2 - 52) < 2 ^ 53 := by
      refine Nat.div_lt_of_lt_mul ?_
      rw [← Nat.pow_add]
      exact Nat.lt_of_lt_of_le Nat.lt_log2_self (Nat.pow_le_pow_right (by omega) (by omega))
    have hm : v / 2 ^ (v.log2 - 52) * 2 ^ (v.log2 - 52) = v := Nat.div_mul_cancel (Nat.dvd_of_mod_eq_zero h2)
    generalize v.log2 - 52 = t at *
    generalize v / 2 ^ t = k at *
    rw [if_neg (by omega)]
    have e1 : (t * 2 ^ 52 + k) / 2 ^ 52 = t + 1 := by omega
    have e2 : (t * 2 ^ 52 + k) % 2 ^ 52 = k - 2 ^ 52 := by omega
    rw [e1, e2]
    have e3 : 2 ^ 52 + (k - 2 ^ 52) = k := by omega
    rw [e3, Nat.add_sub_cancel, hm]
theorem cut_zero (s : Bool) (n : Nat) : Toward.even.cut s n 0 = n := by
  simp [Toward.cut, Nat.mod_one]
theorem cut_exact (s : Bool) {k d : Nat} (hk : 0 < k) : Toward.even.cut s (k * 2 ^ d) d = k := by
  have hl : (k * 2 ^ d).log2 = k.log2 + d := log2_mul_pow hk d
  have hmin : min d ((k * 2 ^ d).log2 + 2) = d := by rw [hl]; omega
  have hp : 0 < 2 ^ d := Nat.two_pow_pos d
  unfold Toward.cut
  simp only [hmin, Nat.one_shiftLeft]
  rw [Nat.mul_div_cancel _ hp, Nat.mul_mod_left]
  have h1 : decide (2 ^ d < 2 * 0) = false := by simp
  have h2 : (2 ^ d == 2 * 0) = false := by rw [beq_eq_false_iff_ne]; omega
  simp only [h1, h2, Bool.false_and, Bool.or_false, Bool.toNat_false, Nat.add_zero]
/-- A number that a word has is told exactly. -/
theorem nearest_exact {v mag a c : Nat} {place : Int} (s : Bool) (hv : Has v) (he : mag * 2 ^ a = v * 2 ^ c) (hp : place + 1074 = (a : Int) - c) :
    double.nearest s mag place = double.word s (rung v) := by
  have hlt := rung_lt hv
  obtain ⟨h0, h1, h2⟩ := hv
  have hmag : 0 < mag := by
    rcases Nat.eq_zero_or_pos mag with h | h
    · subst h
      have := Nat.mul_pos h0 (Nat.two_pow_pos c)
      omega
    · exact h
  have hlog : mag.log2 + a = v.log2 + c := by
    rw [← log2_mul_pow hmag, he, log2_mul_pow h0]
  unfold Format.nearest
  rw [if_neg (by omega), dbl_least, dbl_inf, dbl_binade]
  have hfb : ((double.fractionBits : Nat) : Int) = 52 := rfl
  have hlast : max (place + (mag.log2 : Int) - (double.fractionBits : Nat)) (-1074) = -1074 + ((v.log2 - 52 : Nat) : Int) := by
    rw [hfb]; omega
  simp only [hlast]
  have e1 : (-1074 + ((v.log2 - 52 : Nat) : Int) - -1074).toNat = v.log2 - 52 := by omega
  rw [e1]
  have hk : v / 2 ^ (v.log2 - 52) * 2 ^ (v.log2 - 52) = v := Nat.div_mul_cancel (Nat.dvd_of_mod_eq_zero h2)
  have hkpos : 0 < v / 2 ^ (v.log2 - 52) := Nat.div_pos (Nat.le_trans (Nat.pow_le_pow_right (by omega) (by omega)) (Nat.log2_self_le (by omega))) (Nat.two_pow_pos _)
  have key : Toward.even.cut s (mag <<< (place - (-1074 + ((v.log2 - 52 : Nat) : Int))).toNat) ((-1074 + ((v.log2 - 52 : Nat) : Int)) - place).toNat = v / 2 ^ (v.log2 - 52) := by
    generalize v.log2 - 52 = t at *
    generalize hq : v / 2 ^ t = k at *
    rw [Nat.shiftLeft_eq]
    by_cases hc : (t : Int) ≤ place + 1074
    · have e2 : ((-1074 + (t : Int)) - place).toNat = 0 := by omega
      rw [e2, cut_zero]
      obtain ⟨n, hn⟩ : ∃ n : Nat, (place - (-1074 + (t : Int))).toNat = n := ⟨_, rfl⟩
      rw [hn]
      -- a = c + t + n
      have ha : a = t + n + c := by omega
      have : mag * 2 ^ (t + n + c) = k * 2 ^ t * 2 ^ c := by rw [← ha, he, hk]
      rw [Nat.pow_add, Nat.pow_add, ← Nat.mul_assoc] at this
      have t2 := Nat.eq_of_mul_eq_mul_right (Nat.two_pow_pos c) this
      rw [Nat.mul_comm (2 ^ t) (2 ^ n), ← Nat.mul_assoc] at t2
      exact Nat.eq_of_mul_eq_mul_right (Nat.two_pow_pos t) t2
    · have e2 : (place - (-1074 + (t : Int))).toNat = 0 := by omega
      rw [e2, Nat.pow_zero, Nat.mul_one]
      obtain ⟨n, hn⟩ : ∃ n : Nat, ((-1074 + (t : Int)) - place).toNat = n := ⟨_, rfl⟩
      rw [hn]
      have ha : t + c = n + a := by omega
      have : mag * 2 ^ a = k * 2 ^ n * 2 ^ a := by rw [he, ← hk, Nat.mul_assoc, Nat.mul_assoc, ← Nat.pow_add, ← Nat.pow_add, ha]
      have t2 := Nat.eq_of_mul_eq_mul_right (Nat.two_pow_pos a) this
      rw [t2, cut_exact s hkpos]
  rw [key]
  rw [Nat.min_eq_left]
  · rfl
  · unfold rung at hlt; omega
theorem word_false (r : Nat) : double.word false r = r := rfl
theorem word_true (r : Nat) : double.word true r = 2 ^ 63 + r := by unfold Format.word; rw [dbl_sign]; rfl
theorem word_r {r : Nat} (h : r < 2047 * 2 ^ 52) (s : Bool) : ∃ (m e : Nat), double.read (double.word s r) = .number s m (-1074 + (e : Int)) ∧ val r = m * 2 ^ e ∧ (0 < r → 0 < m) := by
  cases s
  · exact read_val h
  · obtain ⟨m, e, hr, hv, hm⟩ := read_val h
    refine ⟨m, e, ?_, hv, hm⟩
    rw [word_true]
    unfold Format.read at hr ⊢
    rw [dbl_sign] at hr ⊢
    have h1 : (2 ^ 63 + r) / 2 ^ 63 = 1 := by omega
    have h2 : (2 ^ 63 + r) % 2 ^ 63 = r := by omega
    have h3 : r / 2 ^ 63 = 0 := by omega
    have h4 : r % 2 ^ 63 = r := by omega
    simp only [h1, h2]
    simp only [h3, h4] at hr
    split at hr
    · rename_i hs
      rw [if_pos hs]
      injection hr with a b c
      rw [b, c]; rfl
    · rename_i hs
      rw [if_neg hs]
      split at hr
      · rename_i hs2
        rw [if_pos hs2]
        injection hr with a b c
        rw [b, c]; rfl
      · split at hr <;> cases hr
theorem val_pos {r : Nat} (h : 0 < r) : 0 < val r := by
  unfold val
  split
  · exact h
  · exact Nat.mul_pos (by omega) (Nat.two_pow_pos _)
/-- A product of two finite sizes, where a word has it. u, v: their units; p / 2^c = u * v / 2^1074 .. -/
theorem mul_exact {u v p : Nat} (hu : Has u) (hv : Has v) (hp : Has p) {c : Nat} (hc : c = 1074) (h : u * v = p * 2 ^ c) : double.mul (rung u) (rung v) = some (rung p) := by
  obtain ⟨m, i, hr1, hv1, _⟩ := read_val (rung_lt hu)
  obtain ⟨n, j, hr2, hv2, _⟩ := read_val (rung_lt hv)
  rw [val_rung hu] at hv1
  rw [val_rung hv] at hv2
  unfold Format.mul
  rw [hr1, hr2]
  simp only [Datum.product, Option.map_some, Format.write, Bool.xor_self]
  have : double.nearest (false ^^ false) (m * n) (-1074 + (i : Int) + (-1074 + (j : Int))) = double.word false (rung p) := by
    refine nearest_exact (a := i + j) (c := c) false hp ?_ (by omega)
    rw [← h, hv1, hv2, Nat.pow_add]
    simp only [Nat.mul_assoc, Nat.mul_left_comm]
  rw [Bool.xor_self] at this
  rw [this]; rfl
theorem has_pow {k : Nat} (h : k < 2098) : Has (2 ^ k) := by
  have hl : (2 ^ k).log2 = k := Nat.log2_two_pow
  refine ⟨Nat.two_pow_pos _, by rw [hl]; exact h, ?_⟩
  rw [hl]
  exact Nat.mod_eq_zero_of_dvd (Nat.pow_dvd_pow 2 (by omega))
theorem rung_pow {k : Nat} (h : 52 ≤ k) : rung (2 ^ k) = (k - 51) * 2 ^ 52 := by
  have hl : (2 ^ k).log2 = k := Nat.log2_two_pow
  unfold rung
  rw [hl]
  have : 2 ^ k / 2 ^ (k - 52) = 2 ^ 52 := by
    rw [Nat.pow_div (by omega) (by omega)]
    congr 1
    omega
  rw [this]
  have : k - 51 = (k - 52) + 1 := by omega
  rw [this, Nat.succ_mul]
theorem has_up {v k : Nat} (h : Has v) (hk : v.log2 + k < 2098) : Has (v * 2 ^ k) := by
  obtain ⟨h0, h1, h2⟩ := h
  refine ⟨Nat.mul_pos h0 (Nat.two_pow_pos _), by rw [log2_mul_pow h0]; exact hk, ?_⟩
  rw [log2_mul_pow h0]
  refine Nat.mod_eq_zero_of_dvd ?_
  by_cases hc : v.log2 < 52
  · exact Nat.dvd_mul_left_of_dvd (Nat.pow_dvd_pow 2 (by omega)) v
  · have : v.log2 + k - 52 = (v.log2 - 52) + k := by omega
    rw [this, Nat.pow_add]
    exact Nat.mul_dvd_mul_right (Nat.dvd_of_mod_eq_zero h2) _
theorem has_down {v k : Nat} (h : Has (v * 2 ^ k)) (hk : k + 52 ≤ (v * 2 ^ k).log2) : Has v := by
  obtain ⟨h0, h1, h2⟩ := h
  have hv : 0 < v := Nat.pos_of_mul_pos_right h0
  rw [log2_mul_pow hv] at h1 h2 hk
  refine ⟨hv, by omega, Nat.mod_eq_zero_of_dvd ?_⟩
  have : v.log2 + k - 52 = (v.log2 - 52) + k := by omega
  rw [this, Nat.pow_add] at h2
  exact Nat.dvd_of_mul_dvd_mul_right (Nat.two_pow_pos k) (Nat.dvd_of_mod_eq_zero h2)
theorem has_split {v k : Nat} (h : Has v) (hk : k + 52 ≤ v.log2) : ∃ u, v = u * 2 ^ k ∧ Has u ∧ u.log2 + k = v.log2 := by
  have hd : 2 ^ k ∣ v := Nat.dvd_trans (Nat.pow_dvd_pow 2 (by omega)) (Nat.dvd_of_mod_eq_zero h.2.2)
  obtain ⟨u, hu⟩ := hd
  rw [Nat.mul_comm] at hu
  subst hu
  have hp : 0 < u := Nat.pos_of_mul_pos_right h.1
  exact ⟨u, rfl, has_down h hk, (log2_mul_pow hp k).symm⟩
/-- Times a two, so often. -/
theorem mul_up {v k : Nat} (h : Has v) (hk : v.log2 + k < 2098) (hk2 : k ≤ 1023) : double.mul (rung v) ((1023 + k) * 2 ^ 52) = some (rung (v * 2 ^ k)) := by
  obtain ⟨c, hc⟩ : ∃ c, c = 1074 := ⟨_, rfl⟩
  have e : (1023 + k) * 2 ^ 52 = rung (2 ^ (c + k)) := by
    rw [rung_pow (by omega)]
    have : c + k - 51 = 1023 + k := by omega
    rw [this]
  rw [e]
  refine mul_exact h (has_pow (by omega)) (has_up h hk) hc ?_
  rw [Nat.pow_add, Nat.mul_assoc, Nat.mul_comm (2 ^ c) (2 ^ k)]
/-- By a two, so often, where nothing is lost. -/
theorem mul_down {v k : Nat} (h : Has v) (hvk : Has (v * 2 ^ k)) (hk2 : k ≤ 1022) : double.mul (rung (v * 2 ^ k)) ((1023 - k) * 2 ^ 52) = some (rung v) := by
  obtain ⟨c, hc⟩ : ∃ c, c = 1074 := ⟨_, rfl⟩
  have e : (1023 - k) * 2 ^ 52 = rung (2 ^ (c - k)) := by
    rw [rung_pow (by omega)]
    have : c - k - 51 = 1023 - k := by omega
    rw [this]
  rw [e]
  refine mul_exact hvk (has_pow (by omega)) h hc ?_
  rw [Nat.mul_assoc, ← Nat.pow_add]
  have : k + (c - k) = c := by omega
  rw [this]
theorem cmp_cast (a b : Nat) : compare (a : Int) (b : Int) = compare a b := by
  simp only [compare, compareOfLessAndEq]
  by_cases h : a < b
  · rw [if_pos h, if_pos (by omega)]
  · rw [if_neg h, if_neg (by omega)]
    by_cases h2 : a = b
    · rw [if_pos h2, if_pos (by omega)]
    · rw [if_neg h2, if_neg (by omega)]
theorem cmp_mul (a b : Nat) {p : Nat} (hp : 0 < p) : compare (a * p) (b * p) = compare a b := by
  simp only [compare, compareOfLessAndEq]
  by_cases h : a < b
  · rw [if_pos h, if_pos (Nat.mul_lt_mul_of_pos_right h hp)]
  · rw [if_neg h, if_neg (fun h' => h (Nat.lt_of_mul_lt_mul_right h'))]
    by_cases h2 : a = b
    · rw [if_pos h2, if_pos (by rw [h2])]
    · rw [if_neg h2, if_neg (fun h' => h2 (Nat.eq_of_mul_eq_mul_right hp h'))]
theorem order_val {x y : Nat} (hx : x < 2047 * 2 ^ 52) (hy : y < 2047 * 2 ^ 52) : double.order x y = some (compare (val x) (val y)) := by
  obtain ⟨m, i, hr1, hv1, _⟩ := read_val hx
  obtain ⟨n, j, hr2, hv2, _⟩ := read_val hy
  unfold Format.order
  rw [hr1, hr2, hv1, hv2]
  simp only [Datum.order, signed, Bool.false_eq_true, if_false]
  congr 1
  rw [Nat.shiftLeft_eq, Nat.shiftLeft_eq, cmp_cast]
  rcases Nat.le_total i j with h | h
  · have e1 : (-1074 + (i : Int) - min (-1074 + (i : Int)) (-1074 + (j : Int))).toNat = 0 := by omega
    have e2 : (-1074 + (j : Int) - min (-1074 + (i : Int)) (-1074 + (j : Int))).toNat = j - i := by omega
    rw [e1, e2]
    obtain ⟨d, rfl⟩ : ∃ d, j = i + d := ⟨j - i, by omega⟩
    have e3 : i + d - i = d := by omega
    rw [e3, Nat.pow_add, Nat.pow_zero, Nat.mul_one, ← cmp_mul m (n * 2 ^ d) (Nat.two_pow_pos i), Nat.mul_assoc, Nat.mul_comm (2 ^ d)]
  · have e1 : (-1074 + (i : Int) - min (-1074 + (i : Int)) (-1074 + (j : Int))).toNat = i - j := by omega
    have e2 : (-1074 + (j : Int) - min (-1074 + (i : Int)) (-1074 + (j : Int))).toNat = 0 := by omega
    rw [e1, e2]
    obtain ⟨d, rfl⟩ : ∃ d, i = j + d := ⟨i - j, by omega⟩
    have e3 : j + d - j = d := by omega
    rw [e3, Nat.pow_add, Nat.pow_zero, Nat.mul_one, ← cmp_mul (m * 2 ^ d) n (Nat.two_pow_pos j), Nat.mul_assoc, Nat.mul_comm (2 ^ d)]
/-- Two units against each other. -/
theorem order_units {u v : Nat} (hu : Has u) (hv : Has v) : double.order (rung u) (rung v) = some (compare u v) := by
  rw [order_val (rung_lt hu) (rung_lt hv), val_rung hu, val_rung hv]
theorem cmp_lt {a b : Nat} (h : a < b) : compare a b = .lt := by simp only [compare, compareOfLessAndEq]; rw [if_pos h]
theorem cmp_gt {a b : Nat} (h : b < a) : compare a b = .gt := by simp only [compare, compareOfLessAndEq]; rw [if_neg (by omega), if_neg (by omega)]
theorem cmp_eq (a : Nat) : compare a a = .eq := by simp only [compare, compareOfLessAndEq]; simp
/-- '>=' against a two, so often: by its place. -/
theorem geq_pow {u k : Nat} (hu : Has u) (hk : k < 2098) (h52 : 52 ≤ k) : (double.order (rung u) ((k - 51) * 2 ^ 52) == some .gt || double.order (rung u) ((k - 51) * 2 ^ 52) == some .eq) = decide (k ≤ u.log2) := by
  rw [← rung_pow h52, order_units hu (has_pow hk)]
  by_cases h : k ≤ u.log2
  · have h2 : 2 ^ k ≤ u := (Nat.le_log2 (by have := hu.1; omega)).1 h
    rw [decide_eq_true h]
    rcases Nat.lt_or_ge (2 ^ k) u with h3 | h3
    · rw [cmp_gt h3]; rfl
    · have : u = 2 ^ k := by omega
      rw [← this, cmp_eq]; rfl
  · have h2 : u < 2 ^ k := (Nat.log2_lt (by have := hu.1; omega)).1 (by omega)
    rw [decide_eq_false h, cmp_lt h2]; rfl
theorem lss_pow {u k : Nat} (hu : Has u) (hk : k < 2098) (h52 : 52 ≤ k) : (double.order (rung u) ((k - 51) * 2 ^ 52) == some .lt) = decide (u.log2 < k) := by
  rw [← rung_pow h52, order_units hu (has_pow hk)]
  by_cases h : k ≤ u.log2
  · have h2 : 2 ^ k ≤ u := (Nat.le_log2 (by have := hu.1; omega)).1 h
    rw [decide_eq_false (by omega)]
    rcases Nat.lt_or_ge (2 ^ k) u with h3 | h3
    · rw [cmp_gt h3]; rfl
    · have : u = 2 ^ k := by omega
      rw [← this, cmp_eq]; rfl
  · have h2 : u < 2 ^ k := (Nat.log2_lt (by have := hu.1; omega)).1 (by omega)
    rw [decide_eq_true (by omega), cmp_lt h2]; rfl
/-- A word's bits, as Go's math.Float64bits has them, but one word for all that is no number. -/
def canon (b : Nat) : Int := if b % 2 ^ 63 ≤ 2047 * 2 ^ 52 then (b : Int) else 9221120237041090560
theorem read_nan {b : Nat} (h : 2047 * 2 ^ 52 < b % 2 ^ 63) : ∃ s t, double.read b = .nan s t := by
  unfold Format.read
  rw [dbl_sign, dbl_binade, dbl_inf]
  simp only
  rw [if_neg (by omega), if_neg (by omega), if_neg (by omega)]
  exact ⟨_, _, rfl⟩
theorem order_nan {b c : Nat} (h : 2047 * 2 ^ 52 < b % 2 ^ 63) : double.order b c = none := by
  obtain ⟨s, t, hr⟩ := read_nan h
  unfold Format.order
  rw [hr]; rfl
theorem read_inf (s : Bool) : double.read (double.word s (2047 * 2 ^ 52)) = .infinity s := by
  cases s <;> decide +kernel
theorem read_zero : double.read 0 = .number false 0 (-1074) := by decide +kernel
/-- A size against nought. -/
theorem order_zero {r : Nat} (h : r < 2047 * 2 ^ 52) (s : Bool) : double.order (double.word s r) 0 = some (if r = 0 then .eq else if s then .lt else .gt) := by
  obtain ⟨m, e, hr, hv, hm⟩ := word_r h s
  unfold Format.order
  rw [hr, read_zero]
  simp only [Datum.order, signed, Bool.false_eq_true, if_false, Nat.zero_shiftLeft]
  congr 1
  have e1 : (-1074 + (e : Int) - min (-1074 + (e : Int)) (-1074)).toNat = e := by omega
  rw [e1, Nat.shiftLeft_eq, ← hv]
  by_cases h0 : r = 0
  · subst h0
    have : val 0 = 0 := by unfold val; rfl
    rw [this]
    cases s <;> simp
  · have hp := val_pos (r := r) (by omega)
    rw [if_neg h0]
    cases s
    · simp only [Bool.false_eq_true, if_false, compare, compareOfLessAndEq]
      rw [if_neg (by omega), if_neg (by omega)]
    · simp only [if_true, compare, compareOfLessAndEq]
      rw [if_pos (by omega)]
theorem order_inf_zero (s : Bool) : double.order (double.word s (2047 * 2 ^ 52)) 0 = some (if s then .lt else .gt) := by
  cases s <;> decide +kernel
/-- Whatever is a number is what it is. -/
theorem order_self {r : Nat} (h : r ≤ 2047 * 2 ^ 52) : double.order r r = some .eq := by
  rcases Nat.lt_or_ge r (2047 * 2 ^ 52) with h' | h'
  · rw [order_val h' h', cmp_eq]
  · have : r = 2047 * 2 ^ 52 := by omega
    subst this; decide +kernel
/-- One by nought. -/
theorem one_by_zero (s : Bool) : double.div 4607182418800017408 (double.word s 0) = some (double.word s (2047 * 2 ^ 52)) := by
  cases s <;> decide +kernel
/-- Each word below 2^64 is a sign and a rung. -/
theorem word_of {b : Nat} (h : b < 2 ^ 64) : b = double.word (decide (2 ^ 63 ≤ b)) (b % 2 ^ 63) := by
  by_cases hs : 2 ^ 63 ≤ b
  · rw [decide_eq_true hs, word_true]; omega
  · rw [decide_eq_false hs, word_false]; omega
theorem neg_word (s : Bool) {r : Nat} (h : r < 2 ^ 63) : Go.Op.negFloat .f64 (double.word s r) = double.word (!s) r := by
  have e : Go.Op.negFloat .f64 (double.word s r) = (double.word s r) ^^^ 2 ^ 63 := rfl
  rw [e]
  have h1 : 2 ^ 63 + r = 2 ^ 63 ^^^ r := by
    apply Nat.eq_of_testBit_eq
    intro i
    rw [Nat.testBit_xor, Nat.testBit_two_pow]
    by_cases hi : i = 63
    · subst hi
      rw [Nat.testBit_two_pow_add_eq, Nat.testBit_lt_two_pow h]; rfl
    · rcases Nat.lt_or_ge i 63 with h3 | h3
      · rw [Nat.testBit_two_pow_add_gt h3, decide_eq_false (by omega), Bool.false_xor]
      · have : r < 2 ^ i := Nat.lt_of_lt_of_le h (Nat.pow_le_pow_right (by omega) h3)
        have h4 : 2 ^ 63 + r < 2 ^ i := by
          refine Nat.lt_of_lt_of_le (show 2 ^ 63 + r < 2 ^ 64 by omega) (Nat.pow_le_pow_right (by omega) (by omega))
        rw [Nat.testBit_lt_two_pow h4, Nat.testBit_lt_two_pow this, decide_eq_false (by omega), Bool.false_xor]
  cases s
  · rw [word_false]
    show r ^^^ 2 ^ 63 = double.word true r
    rw [word_true, h1, Nat.xor_comm]
  · rw [word_true, h1]
    show 2 ^ 63 ^^^ r ^^^ 2 ^ 63 = double.word false r
    rw [word_false, Nat.xor_comm (2 ^ 63) r, Nat.xor_assoc, Nat.xor_self, Nat.xor_zero]
/-- Too great: endless. -/
theorem nearest_over {mag : Nat} {place : Int} (h0 : 0 < mag) (h : 1024 ≤ place + mag.log2) : double.nearest false mag place = 2047 * 2 ^ 52 := by
  unfold Format.nearest
  rw [if_neg (by omega), dbl_least, dbl_inf, dbl_binade]
  have hfb : ((double.fractionBits : Nat) : Int) = 52 := rfl
  have hlast : max (place + (mag.log2 : Int) - (double.fractionBits : Nat)) (-1074) = place + (mag.log2 : Int) - 52 := by
    rw [hfb]; omega
  simp only [hlast]
  have hk : 2 ^ 52 ≤ Toward.even.cut false (mag <<< (place - (place + (mag.log2 : Int) - 52)).toNat) ((place + (mag.log2 : Int) - 52) - place).toNat := by
    unfold Toward.cut
    refine Nat.le_trans ?_ (Nat.le_add_right _ _)
    rw [Nat.shiftLeft_eq, Nat.one_shiftLeft]
    by_cases hc : mag.log2 ≤ 52
    · have e1 : ((place + (mag.log2 : Int) - 52) - place).toNat = 0 := by omega
      have e2 : (place - (place + (mag.log2 : Int) - 52)).toNat = 52 - mag.log2 := by omega
      rw [e1, e2]
      have : min 0 ((mag * 2 ^ (52 - mag.log2)).log2 + 2) = 0 := by omega
      rw [this, Nat.pow_zero, Nat.div_one]
      have hh : 2 ^ mag.log2 ≤ mag := Nat.log2_self_le (by omega)
      have : 2 ^ 52 = 2 ^ mag.log2 * 2 ^ (52 - mag.log2) := by rw [← Nat.pow_add]; congr 1; omega
      rw [this]
      exact Nat.mul_le_mul_right _ hh
    · have e1 : ((place + (mag.log2 : Int) - 52) - place).toNat = mag.log2 - 52 := by omega
      have e2 : (place - (place + (mag.log2 : Int) - 52)).toNat = 0 := by omega
      rw [e1, e2, Nat.pow_zero, Nat.mul_one]
      have : min (mag.log2 - 52) (mag.log2 + 2) = mag.log2 - 52 := by omega
      rw [this]
      refine (Nat.le_div_iff_mul_le (Nat.two_pow_pos _)).2 ?_
      rw [← Nat.pow_add]
      have : 52 + (mag.log2 - 52) = mag.log2 := by omega
      rw [this]; exact Nat.log2_self_le (by omega)
  rw [Nat.min_eq_right]
  · rfl
  · have : 2046 ≤ (place + (mag.log2 : Int) - 52 - -1074).toNat := by omega
    have h2 : 2046 * 2 ^ 52 ≤ (place + (mag.log2 : Int) - 52 - -1074).toNat * 2 ^ 52 := Nat.mul_le_mul_right _ this
    omega
/-- Twice a size is none of the two that are twice themselves. -/
theorem twice {u : Nat} (hu : Has u) : ∃ y, double.mul (rung u) 4611686018427387904 = some y ∧ double.order (rung u) y = some .lt ∧ double.order y (rung u) = some .gt := by
  by_cases h : u.log2 + 1 < 2098
  · have := mul_up (k := 1) hu h (by omega)
    have hU := has_up (k := 1) hu h
    refine ⟨_, this, ?_, ?_⟩
    · rw [order_units hu hU, cmp_lt (by have := hu.1; omega)]
    · rw [order_units hU hu, cmp_gt (by have := hu.1; omega)]
  · obtain ⟨m, e, hr, hv, hm⟩ := read_val (rung_lt hu)
    rw [val_rung hu] at hv
    have hu0 := hu.1
    have hmpos : 0 < m := by
      rcases Nat.eq_zero_or_pos m with h0 | h0
      · rw [h0, Nat.zero_mul] at hv; omega
      · exact h0
    have hl : u.log2 = m.log2 + e := by rw [hv, log2_mul_pow hmpos]
    have h2 : double.read 4611686018427387904 = .number false (2 ^ 52) (-51) := by decide +kernel
    have hmul : double.mul (rung u) 4611686018427387904 = some (2047 * 2 ^ 52) := by
      unfold Format.mul
      rw [hr, h2]
      simp only [Datum.product, Option.map_some, Format.write, Bool.xor_self]
      rw [nearest_over (Nat.mul_pos hmpos (Nat.two_pow_pos 52))]
      rw [log2_mul_pow hmpos]
      have := hu.2.1
      omega
    refine ⟨_, hmul, ?_, ?_⟩
    · have := read_inf false
      rw [word_false] at this
      unfold Format.order
      rw [hr, this]; rfl
    · have := read_inf false
      rw [word_false] at this
      unfold Format.order
      rw [hr, this]; rfl
theorem inf_twice : double.mul (2047 * 2 ^ 52) 4611686018427387904 = some (2047 * 2 ^ 52) := by decide +kernel
/-- Below 2^52 units are their own word. -/
theorem rung_small {v : Nat} (h : v.log2 < 52) : rung v = v := by
  unfold rung
  have : v.log2 - 52 = 0 := by omega
  rw [this]; simp
theorem toInt_rung {v k : Nat} (hv : Has (v * 2 ^ k)) (hk : k = 1074) : (Go.FloatKind.decode .f64 (rung (v * 2 ^ k))).toInt .zero = some (v : Int) := by
  obtain ⟨m, e, hr, hw, _⟩ := read_val (rung_lt hv)
  rw [val_rung hv] at hw
  show (double.read (rung (v * 2 ^ k))).toInt .zero = _
  rw [hr]
  simp only [Datum.toInt, Datum.integral, signed, Bool.false_eq_true, if_false]
  rw [Nat.shiftLeft_eq, Nat.shiftLeft_eq, Nat.pow_zero, Nat.mul_one]
  congr 2
  rcases Nat.le_total e 1074 with h | h
  · have e1 : (-1074 + (e : Int)).toNat = 0 := by omega
    have e2 : (-(-1074 + (e : Int))).toNat = 1074 - e := by omega
    rw [e1, e2, Nat.pow_zero, Nat.mul_one]
    have hm : m = v * 2 ^ (k - e) := by
      have : v * 2 ^ (k - e) * 2 ^ e = m * 2 ^ e := by rw [← hw, Nat.mul_assoc, ← Nat.pow_add]; congr 2; omega
      exact (Nat.eq_of_mul_eq_mul_right (Nat.two_pow_pos e) this).symm
    have hv0 : 0 < v := Nat.pos_of_mul_pos_right hv.1
    unfold Toward.cut
    rw [hm, log2_mul_pow hv0]
    have : min (1074 - e) (v.log2 + (k - e) + 2) = k - e := by omega
    simp only [this, Nat.one_shiftLeft, Bool.toNat_false, Nat.add_zero]
    rw [Nat.mul_div_cancel _ (Nat.two_pow_pos _)]
  · have e1 : (-1074 + (e : Int)).toNat = e - 1074 := by omega
    have e2 : (-(-1074 + (e : Int))).toNat = 0 := by omega
    rw [e1, e2]
    unfold Toward.cut
    simp only [Nat.zero_min, Nat.one_shiftLeft, Bool.toNat_false, Nat.add_zero, Nat.pow_zero, Nat.div_one]
    have : m * 2 ^ (e - 1074) * 2 ^ k = v * 2 ^ k := by rw [hw, Nat.mul_assoc, ← Nat.pow_add]; congr 2; omega
    exact Nat.eq_of_mul_eq_mul_right (Nat.two_pow_pos k) this
end Go.Proofs.Fl
namespace Go.Proofs.Sp
/-- What a first byte asks for: how many bytes behind it, from where to where the first of these is. -/
def headS (c : Nat) : Option (Nat × Nat × Nat) :=
  if c < 128 then some (0, 128, 191) else if c < 194 then none else if c < 224 then some (1, 128, 191)
  else if c < 240 then (if c = 224 then some (2, 160, 191) else if c = 237 then some (2, 128, 159) else some (2, 128, 191))
  else if c < 245 then (if c = 240 then some (3, 144, 191) else if c = 244 then some (3, 128, 143) else some (3, 128, 191)) else none
def tailOk : Nat → Nat → Nat → List UInt8 → Bool
  | 0, _, _, _ => true
  | _ + 1, _, _, [] => false
  | k + 1, lo, hi, c :: r => (decide (lo ≤ c.toNat) && decide (c.toNat ≤ hi)) && tailOk k 128 191 r
/-- How many bytes the signs at a text's begin are. -/
def stopAt : List UInt8 → Nat
  | [] => 0
  | c :: r => match headS c.toNat with
    | none => 0
    | some (k, lo, hi) => if tailOk k lo hi r then 1 + k + stopAt (r.drop k) else 0
termination_by l => l.length
decreasing_by simp; omega
def validS (l : List UInt8) : Bool := stopAt l == l.length
theorem tailOk_len : ∀ (k lo hi : Nat) (l : List UInt8), tailOk k lo hi l = true → k ≤ l.length
  | 0, _, _, _, _ => Nat.zero_le _
  | k + 1, _, _, [], h => by simp [tailOk] at h
  | k + 1, lo, hi, c :: r, h => by
    simp only [tailOk, Bool.and_eq_true] at h
    have := tailOk_len k 128 191 r h.2
    simp; omega
theorem stopAt_le : ∀ (n : Nat) (l : List UInt8), l.length ≤ n → stopAt l ≤ l.length
  | _, [], _ => by simp [stopAt]
  | 0, c :: r, h => by simp at h
  | n + 1, c :: r, h => by
    rw [stopAt]
    cases hh : headS c.toNat with
    | none => simp
    | some q =>
      obtain ⟨k, lo, hi⟩ := q
      simp only
      split
      · rename_i ht
        have := tailOk_len k lo hi r ht
        have := stopAt_le n (r.drop k) (by simp at h ⊢; omega)
        simp at this ⊢; omega
      · simp
theorem headS_lt {c k lo hi : Nat} (h : headS c = some (k, lo, hi)) : k ≤ 3 ∧ lo ≤ 255 ∧ hi ≤ 255 := by
  unfold headS at h
  repeat' split at h
  all_goals (first | (cases h; omega) | (cases h))
/-- From a place on. -/
theorem stop_drop {l : List UInt8} {i : Nat} (hi : i < l.length) : stopAt (l.drop i) = match headS (l[i].toNat) with
    | none => 0
    | some (k, lo, hh) => if tailOk k lo hh (l.drop (i + 1)) then 1 + k + stopAt (l.drop (i + 1 + k)) else 0 := by
  rw [List.drop_eq_getElem_cons hi, stopAt]
  simp only [List.drop_drop]
theorem tail_step {k lo hi : Nat} {l : List UInt8} {i : Nat} (hi' : i < l.length) : tailOk (k + 1) lo hi (l.drop i) = ((decide (lo ≤ l[i].toNat) && decide (l[i].toNat ≤ hi)) && tailOk k 128 191 (l.drop (i + 1))) := by
  rw [List.drop_eq_getElem_cons hi', tailOk]
/-- A number from byte i on, v so far: its value and how many bytes it has; or an error. -/
def numL : Nat → Nat → List UInt8 → Except Int (Nat × Nat)
  | _, _, [] => .error 2
  | i, v, b :: r =>
    if (i < 9 ∨ b.toNat ≤ 1) ∧ (i = 0 ∨ b.toNat ≠ 0) then
      if b.toNat < 128 then .ok (v + b.toNat * 2 ^ (7 * i), i + 1) else numL (i + 1) (v + (b.toNat - 128) * 2 ^ (7 * i)) r
    else .error 3
def numS (l : List UInt8) : Except Int (Nat × Nat) := numL 0 0 l
end Go.Proofs.Sp
namespace Go.Proofs.Sp
def putF : Nat → Nat → List UInt8
  | 0, _ => []
  | f + 1, v => if v < 128 then [UInt8.ofNat v] else UInt8.ofNat (v % 128 + 128) :: putF f (v / 128)
/-- A number as bytes. -/
def putL (v : Nat) : List UInt8 := putF 10 v
theorem byte_nat {n : Nat} (h : n < 256) : (UInt8.ofNat n).toNat = n := by simp; omega
theorem byte_of (c : UInt8) : UInt8.ofNat c.toNat = c := by simp
/-- What was put is read. -/
theorem put_num (r : List UInt8) : ∀ (f i a v : Nat), f + i = 10 → v * 2 ^ (7 * i) < 2 ^ 64 → (i = 0 ∨ v ≠ 0) → numL i a (putF f v ++ r) = .ok (a + v * 2 ^ (7 * i), i + (putF f v).length)
  | 0, i, a, v, hf, hv, h0 => by
    obtain rfl : i = 10 := by omega
    exfalso
    rcases h0 with h | h
    · omega
    · have : 1 * 2 ^ (7 * 10) ≤ v * 2 ^ (7 * 10) := Nat.mul_le_mul (by omega) (Nat.le_refl _)
      omega
  | f + 1, i, a, v, hf, hv, h0 => by
    have h9 : i = 9 → v ≤ 1 := by
      rintro rfl
      rcases Nat.lt_or_ge v 2 with h | h
      · omega
      · have : 2 * 2 ^ (7 * 9) ≤ v * 2 ^ (7 * 9) := Nat.mul_le_mul h (Nat.le_refl _)
        omega
    rw [putF]
    by_cases hs : v < 128
    · rw [if_pos hs, List.cons_append, numL, byte_nat (by omega), if_pos ⟨by omega, by omega⟩, if_pos hs]; rfl
    · rw [if_neg hs, List.cons_append, numL, byte_nat (by omega), if_pos ⟨by omega, by omega⟩, if_neg (by omega)]
      have hp : 2 ^ (7 * (i + 1)) = 128 * 2 ^ (7 * i) := by rw [show 7 * (i + 1) = 7 + 7 * i by omega, Nat.pow_add]
      have hq : v / 128 * 2 ^ (7 * (i + 1)) + v % 128 * 2 ^ (7 * i) = v * 2 ^ (7 * i) := by
        rw [hp, ← Nat.mul_assoc, ← Nat.add_mul]; congr 1; omega
      rw [put_num r f (i + 1) _ (v / 128) (by omega) (by omega) (by omega)]
      congr 2
      · rw [show v % 128 + 128 - 128 = v % 128 by omega]; omega
      · simp; omega
/-- What is read was put. -/
theorem num_put : ∀ (l : List UInt8) (i a w n : Nat), i ≤ 9 → numL i a l = .ok (w, n) → ∃ v, w = a + v * 2 ^ (7 * i) ∧ n = i + (putF (10 - i) v).length ∧ l = putF (10 - i) v ++ l.drop (n - i) ∧ v * 2 ^ (7 * i) < 2 ^ 64 ∧ (i = 0 ∨ v ≠ 0)
  | [], i, a, w, n, hi, h => by simp [numL] at h
  | b :: r, i, a, w, n, hi, h => by
    have hb := b.toNat_lt
    obtain ⟨f, hf⟩ : ∃ f, 10 - i = f + 1 := ⟨9 - i, by omega⟩
    rw [numL] at h
    split at h
    · rename_i hc
      split at h
      · rename_i hs
        cases h
        refine ⟨b.toNat, rfl, ?_, ?_, ?_, ?_⟩
        · rw [hf, putF, if_pos hs]; rfl
        · rw [hf, putF, if_pos hs, byte_of, show i + 1 - i = 1 by omega]; rfl
        · rcases Nat.lt_or_ge i 9 with h9 | h9
          · have : b.toNat * 2 ^ (7 * i) ≤ 127 * 2 ^ 56 := Nat.mul_le_mul (by omega) (Nat.pow_le_pow_right (by decide) (by omega))
            omega
          · obtain rfl : i = 9 := by omega
            have : b.toNat * 2 ^ (7 * 9) ≤ 1 * 2 ^ (7 * 9) := Nat.mul_le_mul (by omega) (Nat.le_refl _)
            omega
        · omega
      · rename_i hs
        have hi9 : i < 9 := by omega
        obtain ⟨v, h1, h2, h3, h4, h5⟩ := num_put r (i + 1) _ w n (by omega) h
        have hp : 2 ^ (7 * (i + 1)) = 128 * 2 ^ (7 * i) := by rw [show 7 * (i + 1) = 7 + 7 * i by omega, Nat.pow_add]
        have hv : (b.toNat - 128 + 128 * v) * 2 ^ (7 * i) = (b.toNat - 128) * 2 ^ (7 * i) + v * 2 ^ (7 * (i + 1)) := by
          rw [hp, Nat.add_mul]; congr 1; rw [← Nat.mul_assoc, Nat.mul_comm v 128]
        have e1 : 10 - (i + 1) = f := by omega
        rw [e1] at h2 h3
        have hput : putF (10 - i) (b.toNat - 128 + 128 * v) = b :: putF f v := by
          rw [hf, putF, if_neg (by omega), show (b.toNat - 128 + 128 * v) % 128 + 128 = b.toNat by omega, byte_of, show (b.toNat - 128 + 128 * v) / 128 = v by omega]
        refine ⟨b.toNat - 128 + 128 * v, ?_, ?_, ?_, ?_, .inr (by omega)⟩
        · rw [hv, h1]; omega
        · rw [hput, h2]; simp; omega
        · rw [hput, show n - i = n - (i + 1) + 1 by omega, List.drop_succ_cons, List.cons_append, ← h3]
        · have hle : v * 2 ^ (7 * (i + 1)) + 2 ^ (7 * (i + 1)) ≤ 2 ^ 64 := by
            have hq : 2 ^ 64 = 2 ^ (64 - 7 * (i + 1)) * 2 ^ (7 * (i + 1)) := by rw [← Nat.pow_add]; congr 1; omega
            rw [hq] at h4 ⊢
            have := Nat.lt_of_mul_lt_mul_right h4
            rw [← Nat.succ_mul]
            exact Nat.mul_le_mul this (Nat.le_refl _)
          have : (b.toNat - 128) * 2 ^ (7 * i) < 128 * 2 ^ (7 * i) := Nat.mul_lt_mul_of_pos_right (by omega) (Nat.two_pow_pos _)
          rw [hv]; omega
    · cases h
theorem numS_put {v : Nat} (hv : v < 2 ^ 64) (r : List UInt8) : numS (putL v ++ r) = .ok (v, (putL v).length) := by
  have := put_num r 10 0 0 v rfl (by simpa using hv) (.inl rfl)
  unfold numS putL
  rw [this]; simp
theorem put_numS {l : List UInt8} {w n : Nat} (h : numS l = .ok (w, n)) : w < 2 ^ 64 ∧ n = (putL w).length ∧ l = putL w ++ l.drop n := by
  obtain ⟨v, h1, h2, h3, h4, -⟩ := num_put l 0 0 w n (by omega) h
  have hv : w = v := by omega
  subst hv
  refine ⟨by omega, ?_, ?_⟩
  · rw [h2]; exact Nat.zero_add _
  · have h3' : l = putF (10 - 0) w ++ l.drop n := h3
    exact h3'
theorem numL_err : ∀ (l : List UInt8) (i a : Nat) (f : Int), numL i a l = .error f → f ≠ 0
  | [], i, a, f, h => by simp only [numL] at h; cases h; decide
  | b :: r, i, a, f, h => by
    rw [numL] at h
    split at h
    · split at h
      · cases h
      · exact numL_err _ _ _ _ h
    · cases h; decide
theorem putF_pos (f v : Nat) : 1 ≤ (putF (f + 1) v).length := by rw [putF]; split <;> simp
theorem putF_le : ∀ (f v : Nat), (putF f v).length ≤ f
  | 0, _ => Nat.le_refl _
  | f + 1, v => by
    rw [putF]; split
    · simp
    · have := putF_le f (v / 128); simp; omega
def fixF : Nat → Nat → List UInt8
  | 0, _ => []
  | f + 1, v => UInt8.ofNat (v % 256) :: fixF f (v / 256)
/-- A number of eight bytes. -/
def fixL (v : Nat) : List UInt8 := fixF 8 v
def leV : List UInt8 → Nat
  | [] => 0
  | c :: r => c.toNat + 256 * leV r
theorem fixF_length : ∀ f v, (fixF f v).length = f
  | 0, _ => rfl
  | f + 1, v => by rw [fixF, List.length_cons, fixF_length]
theorem leV_fix : ∀ f v, leV (fixF f v) = v % 256 ^ f
  | 0, v => by simp [fixF, leV, Nat.mod_one]
  | f + 1, v => by
    rw [fixF, leV, leV_fix, byte_nat (Nat.mod_lt _ (by decide)), Nat.pow_succ, Nat.mul_comm (256 ^ f) 256, Nat.mod_mul]
theorem fix_leV : ∀ l : List UInt8, fixF l.length (leV l) = l
  | [] => rfl
  | c :: r => by
    have hc := c.toNat_lt
    rw [List.length_cons, fixF, leV, show (c.toNat + 256 * leV r) % 256 = c.toNat by omega, show (c.toNat + 256 * leV r) / 256 = leV r by omega, byte_of, fix_leV r]
end Go.Proofs.Sp
namespace Go.Proofs.Fl
/-- The walk's law that lacked: a number with a point is stored. -/
@[go_sem] theorem run_store_float {P : Program} {w : World} {a : Addr} {m : Mode} (k : FloatKind) (b : Nat) : (store a (.float k b) m).run P w = stored P w a (.float k b) m := run_store P w a _ m rfl
@[go_sem] theorem run_neg_float {P : Program} {w : World} (k : FloatKind) (b : Nat) : (Op.unary .neg (.float k b)).run P w = .ok (.float k (Op.negFloat k b)) w := rfl
end Go.Proofs.Fl
namespace Go.Proofs.YtfcndhajcikgiaaW.PrintWords
open Go.RowKit
namespace Kd
/-- One cell, its bits. -/
def f64 : Kd Nat := scalar (Value.float .f64) (fun _ => rfl)
theorem at_f64 {w : World} {A : Option Addr} {n : Nat} {xs : List Nat} (h : f64.C w A n xs) (i : Int) (h0 : 0 ≤ i) (h1 : i < n) : ∃ ad, A = some ad ∧ w.cell? (ad.add i.toNat) = some (.float .f64 (rdOf 0 xs i)) :=
  ReadsOf.at_ (reads_of_C (enc := Value.float .f64) (d := 0) (h1 := fun _ => rfl) h) i h0 h1
end Kd
end Go.Proofs.YtfcndhajcikgiaaW.PrintWords
namespace Go.Proofs.YtfcndhajcikgiaaW.PrintMore
section
variable {P : Program} {ops : Array Oper} {rest : List Oper} {o : Oper} {a : Act} {W : World} {Q : Exit → Act → World → Prop}
/-- A cheap look ahead: the operation calls this function. -/
theorem gate_callee {f : FuncId} {xs : Array Operand} {ts : Array TypeId} (_h : o.op = .call { callee := .value (.func f), args := xs, argTypes := ts }) (h : wpList P ops Q (o :: rest) a W) : wpList P ops Q (o :: rest) a W := h
/-- A cheap look ahead: the operation is this builtin, with these operands. -/
theorem gate_builtin {b : Builtin} {xs : Array Operand} {ts : Array TypeId} (_h : o.op = .call { callee := .builtin b, args := xs, argTypes := ts }) (h : wpList P ops Q (o :: rest) a W) : wpList P ops Q (o :: rest) a W := h
end
/-- A shift to the right, as Go tells it. -/
def shr (k : IntKind) (x y : Int) : Int := x / 2 ^ min y.toNat k.bits
end Go.Proofs.YtfcndhajcikgiaaW.PrintMore
namespace Go.Proofs.Ytfcndhajcikgiaa.B
open Go.RowKit Go.Proofs.YtfcndhajcikgiaaW.PrintWords Go.Proofs.YtfcndhajcikgiaaW.PrintLast Go.Proofs.YtfcndhajcikgiaaW.PrintMore
def errW : Option Int → Value
  | none => .nilIface
  | some c => .iface 0 (.int .i64 c)
theorem errW_none : errW none = .nilIface := rfl
theorem errW_some (c : Int) : errW (some c) = .iface 0 (.int .i64 c) := rfl
theorem info5 : (Try.prog.info? 5).map (fun i => (i.zero, i.size, i.bytes)) = some (some (.int .u8 0), 1, 1) := by kernel_rfl
theorem info30 : (Try.prog.info? 30).map (fun i => (i.zero, i.size, i.bytes)) = some (some (.agg #[(.int .i64 0), (.int .i64 0), (.int .i64 0), (.int .i64 0), (.string ⟨#[]⟩), (.float .f64 0)]), 6, 56) := by kernel_rfl
-- the values' own types
/-! #### struct type 27 -/
structure S27 where
  f0 : Int
  f1 : Int
def z27 : S27 := ⟨(0 : Int), (0 : Int)⟩
def k27 : Kd S27 := Kd.iso (Kd.pair (Kd.int .i64) (Kd.int .i64)) (fun x : S27 => (x.f0, x.f1))
theorem k27_open {w : World} {x : S27} {cs : List Value} (h : k27.K w x cs) : cs = [.int .i64 x.f0, .int .i64 x.f1] := by
  obtain ⟨_, _, rfl, rfl, rfl⟩ := h
  exact rfl
theorem k27_openM {w : World} {base : Nat} {ok : Nat → Prop} {x : S27} {cs : List Value} (h : k27.M w base ok x cs) : cs = [.int .i64 x.f0, .int .i64 x.f1] := by
  obtain ⟨_, _, rfl, rfl, rfl⟩ := h
  exact rfl
theorem k27_mk (w : World) (x : S27)  : k27.K w x [.int .i64 x.f0, .int .i64 x.f1] := ⟨[.int .i64 x.f0], [.int .i64 x.f1], rfl, rfl, rfl⟩
theorem k27_mkM (w : World) (base : Nat) (ok : Nat → Prop) (x : S27)  : k27.M w base ok x [.int .i64 x.f0, .int .i64 x.f1] := ⟨[.int .i64 x.f0], [.int .i64 x.f1], rfl, rfl, rfl⟩
def rd_T27 (xs : List S27) (i : Int) : S27 := xs.getD i.toNat z27
theorem at_T27 {w : World} {A : Option Addr} {n : Nat} {xs : List S27} (h : Kd.C k27 w A n xs) (i : Int) (h0 : 0 ≤ i) (h1 : i < n) : ∃ ad , A = some ad ∧ w.cell? (ad.add (i.toNat * 2)) = some (.int .i64 (rd_T27 xs i).f0) ∧ w.cell? ⟨(ad.add (i.toNat * 2)).block, (ad.add (i.toNat * 2)).off + 1, none⟩ = some (.int .i64 (rd_T27 xs i).f1) := by
  obtain ⟨ad, c, e, _, hK, hc0⟩ := Kd.C_get h z27 i h0 h1
  have hc : ∀ j u, c[j]? = some u → w.cell? (ad.add (i.toNat * 2 + j)) = some u := hc0
  obtain rfl := k27_open hK
  exact ⟨ad, e, hc 0 _ rfl, by rw [← add_field _ _ 1 (by omega)]; exact hc 1 _ rfl⟩
/-! #### struct type 30 -/
structure S30 where
  f0 : S27
  f1 : Int
  f2 : Int
  f3 : ByteArray
  f4 : Nat
def z30 : S30 := ⟨z27, (0 : Int), (0 : Int), (⟨#[]⟩ : ByteArray), (0 : Nat)⟩
def k30 : Kd S30 := Kd.iso (Kd.pair k27 (Kd.pair (Kd.int .i64) (Kd.pair (Kd.int .i64) (Kd.pair Kd.string Kd.f64)))) (fun x : S30 => (x.f0, x.f1, x.f2, x.f3, x.f4))
theorem k30_open {w : World} {x : S30} {cs : List Value} (h : k30.K w x cs) : cs = [.int .i64 x.f0.f0, .int .i64 x.f0.f1, .int .i64 x.f1, .int .i64 x.f2, .string x.f3, .float .f64 x.f4] := by
  obtain ⟨_, _, rfl, s0, ⟨_, _, rfl, rfl, ⟨_, _, rfl, rfl, ⟨_, _, rfl, rfl, rfl⟩⟩⟩⟩ := h
  obtain rfl := k27_open s0
  exact rfl
theorem k30_openM {w : World} {base : Nat} {ok : Nat → Prop} {x : S30} {cs : List Value} (h : k30.M w base ok x cs) : cs = [.int .i64 x.f0.f0, .int .i64 x.f0.f1, .int .i64 x.f1, .int .i64 x.f2, .string x.f3, .float .f64 x.f4] := by
  obtain ⟨_, _, rfl, s0, ⟨_, _, rfl, rfl, ⟨_, _, rfl, rfl, ⟨_, _, rfl, rfl, rfl⟩⟩⟩⟩ := h
  obtain rfl := k27_openM s0
  exact rfl
theorem k30_mk (w : World) (x : S30)  : k30.K w x [.int .i64 x.f0.f0, .int .i64 x.f0.f1, .int .i64 x.f1, .int .i64 x.f2, .string x.f3, .float .f64 x.f4] := ⟨[.int .i64 x.f0.f0, .int .i64 x.f0.f1], [.int .i64 x.f1, .int .i64 x.f2, .string x.f3, .float .f64 x.f4], rfl, (k27_mk w x.f0 ), ⟨[.int .i64 x.f1], [.int .i64 x.f2, .string x.f3, .float .f64 x.f4], rfl, rfl, ⟨[.int .i64 x.f2], [.string x.f3, .float .f64 x.f4], rfl, rfl, ⟨[.string x.f3], [.float .f64 x.f4], rfl, rfl, rfl⟩⟩⟩⟩
theorem k30_mkM (w : World) (base : Nat) (ok : Nat → Prop) (x : S30)  : k30.M w base ok x [.int .i64 x.f0.f0, .int .i64 x.f0.f1, .int .i64 x.f1, .int .i64 x.f2, .string x.f3, .float .f64 x.f4] := ⟨[.int .i64 x.f0.f0, .int .i64 x.f0.f1], [.int .i64 x.f1, .int .i64 x.f2, .string x.f3, .float .f64 x.f4], rfl, (k27_mkM w base ok x.f0 ), ⟨[.int .i64 x.f1], [.int .i64 x.f2, .string x.f3, .float .f64 x.f4], rfl, rfl, ⟨[.int .i64 x.f2], [.string x.f3, .float .f64 x.f4], rfl, rfl, ⟨[.string x.f3], [.float .f64 x.f4], rfl, rfl, rfl⟩⟩⟩⟩
def rd_T30 (xs : List S30) (i : Int) : S30 := xs.getD i.toNat z30
theorem at_T30 {w : World} {A : Option Addr} {n : Nat} {xs : List S30} (h : Kd.C k30 w A n xs) (i : Int) (h0 : 0 ≤ i) (h1 : i < n) : ∃ ad , A = some ad ∧ w.cell? (ad.add (i.toNat * 6)) = some (.int .i64 (rd_T30 xs i).f0.f0) ∧ w.cell? ⟨(ad.add (i.toNat * 6)).block, (ad.add (i.toNat * 6)).off + 1, none⟩ = some (.int .i64 (rd_T30 xs i).f0.f1) ∧ w.cell? ⟨(ad.add (i.toNat * 6)).block, (ad.add (i.toNat * 6)).off + 2, none⟩ = some (.int .i64 (rd_T30 xs i).f1) ∧ w.cell? ⟨(ad.add (i.toNat * 6)).block, (ad.add (i.toNat * 6)).off + 3, none⟩ = some (.int .i64 (rd_T30 xs i).f2) ∧ w.cell? ⟨(ad.add (i.toNat * 6)).block, (ad.add (i.toNat * 6)).off + 4, none⟩ = some (.string (rd_T30 xs i).f3) ∧ w.cell? ⟨(ad.add (i.toNat * 6)).block, (ad.add (i.toNat * 6)).off + 5, none⟩ = some (.float .f64 (rd_T30 xs i).f4) := by
  obtain ⟨ad, c, e, _, hK, hc0⟩ := Kd.C_get h z30 i h0 h1
  have hc : ∀ j u, c[j]? = some u → w.cell? (ad.add (i.toNat * 6 + j)) = some u := hc0
  obtain rfl := k30_open hK
  exact ⟨ad, e, hc 0 _ rfl, by rw [← add_field _ _ 1 (by omega)]; exact hc 1 _ rfl, by rw [← add_field _ _ 2 (by omega)]; exact hc 2 _ rfl, by rw [← add_field _ _ 3 (by omega)]; exact hc 3 _ rfl, by rw [← add_field _ _ 4 (by omega)]; exact hc 4 _ rfl, by rw [← add_field _ _ 5 (by omega)]; exact hc 5 _ rfl⟩
end Go.Proofs.Ytfcndhajcikgiaa.B
namespace Go.Proofs.Ytfcndhajcikgiaa.B
open Go.RowKit Go.Proofs.YtfcndhajcikgiaaW.PrintWords Go.Proofs.YtfcndhajcikgiaaW.PrintLast Go.Proofs.YtfcndhajcikgiaaW.PrintMore
/-- A state of type 85 at block g of W; what its slices lead to came in by w0. -/
def IsS85 (w0 W : World) (g : Nat) (f0 : ByteArray) (f1 : Int) : Prop := W.heap[g]? = some (.cells #[.string f0, .int .i64 f1] 85 (0, 0)) ∧ w0.heap.size ≤ g
theorem IsS85.grown {w0 W : World} {g : Nat} {f0 : ByteArray} {f1 : Int} {W1 : World} {row : Option Nat} (h : IsS85 w0 W g f0 f1) (hw : W.grownBy W1 row) (hne : some g ≠ row) : IsS85 w0 W1 g f0 f1 := by
  obtain ⟨hb, hg⟩ := h
  exact ⟨blk_grown hb hw hne, hg⟩
theorem IsS85.fresh {w0 W : World} {g : Nat} {f0 : ByteArray} {f1 : Int} (h : IsS85 w0 W g f0 f1) : ∀ k, W.heap.size ≤ k → k ≠ g := by
  obtain ⟨hb, hg⟩ := h
  exact Kd.freshB hb
theorem IsS85.below {w0 W : World} {g : Nat} {f0 : ByteArray} {f1 : Int} {W1 : World} (h : IsS85 w0 W g f0 f1) (hw : Below W.heap.size W W1) : IsS85 w0 W1 g f0 f1 := h.grown (grown_of_below hw none) (by simp)
theorem IsS85.alloc {w0 W : World} {g : Nat} {f0 : ByteArray} {f1 : Int} (h : IsS85 w0 W g f0 f1) (o : Obj) : IsS85 w0 (W.alloc o) g f0 f1 := h.below (below_alloc (Below.refl _ _) o)
theorem IsS85.drewN {w0 W : World} {g : Nat} {f0 : ByteArray} {f1 : Int} (h : IsS85 w0 W g f0 f1) (m : Nat) : IsS85 w0 (W.drewN m) g f0 f1 := h
theorem IsS85.drew {w0 W : World} {g : Nat} {f0 : ByteArray} {f1 : Int} (h : IsS85 w0 W g f0 f1) : IsS85 w0 W.drew g f0 f1 := h
theorem IsS85.at_ {w0 W : World} {g : Nat} {f0 : ByteArray} {f1 : Int} {w' : World} {m : Nat} (hq : W.drewN m = w') (h : IsS85 w0 W g f0 f1) : IsS85 w0 w' g f0 f1 := by subst hq; exact IsS85.drewN h m
theorem IsS85.lt {w0 W : World} {g : Nat} {f0 : ByteArray} {f1 : Int} (h : IsS85 w0 W g f0 f1) : g < W.heap.size := by
  obtain ⟨hb, hg⟩ := h
  exact blk_lt hb
theorem IsS85.ge {w0 W : World} {g : Nat} {f0 : ByteArray} {f1 : Int} (h : IsS85 w0 W g f0 f1) : w0.heap.size ≤ g := by
  obtain ⟨hb, hg⟩ := h
  exact hg
theorem IsS85.far {w0 W : World} {g : Nat} {f0 : ByteArray} {f1 : Int} {p : Addr} (h : IsS85 w0 W g f0 f1) (hne : g ≠ p.block) (u : Value) : IsS85 w0 (W.setCell p u) g f0 f1 := by
  obtain ⟨hb, hg⟩ := h
  exact ⟨blk_far hb hne u, hg⟩
theorem cellS85_0 {W : World} {g : Nat} {f0 : ByteArray} {f1 : Int} (h : W.heap[g]? = some (.cells #[.string f0, .int .i64 f1] 85 (0, 0))) : W.cell? ⟨g, 0, none⟩ = some (.string f0) := (blk_cell h 0).trans rfl
theorem IsS85.set_0 {w0 W : World} {g : Nat} {f0 : ByteArray} {f1 : Int} (h : IsS85 w0 W g f0 f1) (x : ByteArray) : IsS85 w0 (W.setCell ⟨g, 0, none⟩ (.string x)) g x f1 := by
  obtain ⟨hb, hg⟩ := h
  exact ⟨by simpa using blk_set hb 0 (.string x), hg⟩
theorem cellS85_1 {W : World} {g : Nat} {f0 : ByteArray} {f1 : Int} (h : W.heap[g]? = some (.cells #[.string f0, .int .i64 f1] 85 (0, 0))) : W.cell? ⟨g, 1, none⟩ = some (.int .i64 f1) := (blk_cell h 1).trans rfl
theorem IsS85.set_1 {w0 W : World} {g : Nat} {f0 : ByteArray} {f1 : Int} (h : IsS85 w0 W g f0 f1) (x : Int) : IsS85 w0 (W.setCell ⟨g, 1, none⟩ (.int .i64 x)) g f0 x := by
  obtain ⟨hb, hg⟩ := h
  exact ⟨by simpa using blk_set hb 1 (.int .i64 x), hg⟩
theorem IsS85.new (w0 W : World) (f0 : ByteArray) (f1 : Int) (hB : Below w0.heap.size w0 W) : IsS85 w0 (W.alloc (.cells #[.string f0, .int .i64 f1] 85)) W.heap.size f0 f1 := ⟨by simpa using heap_alloc_new W _, hB.size⟩
def pack_New.f (a0 : ByteArray) : Option (ByteArray × Int) := some (a0, 0)
set_option maxHeartbeats 8000000 in
set_option maxRecDepth 100000 in
theorem pack_New.calls (a0 : ByteArray) (r1 : ByteArray) (r2 : Int) (w0 w : World) (hB : Below w0.heap.size w0 w) (h : pack_New.f a0 = some (r1, r2)) :
    Calls Try.prog 29 #[.string a0] w fun e w' => ∃ g_ : Nat, e = .returned (.pointer (some ⟨g_, 0, none⟩)) ∧ IsS85 w0 w' g_ r1 r2 ∧ Below w0.heap.size w0 w' ∧ Below w.heap.size w w' := by
  have hu85 := Try.underlying85
  have HBW := Aside0.mk (Below.refl w.heap.size w)
  have HW0 := Aside0.mk hB.size
  have HB := Aside0.mk hB
  clear hB
  have H : (some (a0, 0)) = some (r1, r2) := h
  clear h
  simp only [Option.some.injEq, Prod.mk.injEq] at H
  obtain ⟨rfl, rfl⟩ := H
  go_enter Try.func29, Try.ntmps29
  go_wp2_with (first | ((with_reducible refine gate_dst (N := 5) rfl ?_); refine box_event ?hg (N := 5) ?hd (cs := #[.string a0, .int .i64 0]) (t := 85) ?hr ?_; (case hd => rfl); (case hg => rfl); (case hr => first | (go_simp; done) | (go_simp; rfl)); intro gb216 hg w2 hbox hb; have n0_ := Aside0.mk (below_step HBW.out hb); have n1_ := Aside0.mk (below_step (by repeat (first | (with_reducible first | exact HB.out | apply below_alloc | apply pw_below_drewN | apply below_drew1) | exact HB.out)) hb); have n2_ := Aside0.mk (hbox); have n3_ := Aside0.mk ((by rw [hg]; exact (below_size (by repeat (first | (with_reducible first | exact HBW.out | apply below_alloc | apply pw_below_drewN | apply below_drew1) | exact HBW.out))) : w.heap.size ≤ gb216)); have n4_ := Aside0.mk ((Nat.le_trans HW0.out (by rw [hg]; exact (below_size (by repeat (first | (with_reducible first | exact HBW.out | apply below_alloc | apply pw_below_drewN | apply below_drew1) | exact HBW.out))) : w.heap.size ≤ gb216) : w0.heap.size ≤ gb216)); clear HBW; clear HB; have HBW := n0_; have HB := n1_; have BK216 := n2_; have GW216 := n3_; have GE216 := n4_; clear n0_ n1_ n2_ n3_ n4_; clear hb hbox hg))
  go_ret
  exact ⟨_, rfl, (show IsS85 w0 _ gb216 a0 0 from ⟨by (with_reducible repeat (first | refine blk_drewN ?_ _ | refine blk_drew ?_ | refine blk_alloc ?_ _)); exact BK216.out, GE216.out⟩), by repeat (first | (with_reducible first | exact HB.out | apply below_alloc | apply pw_below_drewN | apply below_drew1 | refine below_set ?_ GE216.out) | exact HB.out), by repeat (first | (with_reducible first | exact HBW.out | apply below_alloc | apply pw_below_drewN | apply below_drew1 | refine below_set ?_ GW216.out) | exact HBW.out)⟩
end Go.Proofs.Ytfcndhajcikgiaa.B
namespace Go.Proofs.Ytfcndhajcikgiaa.B
open Go.RowKit Go.Proofs.Sp Go.Proofs.YtfcndhajcikgiaaW.PrintWords
theorem size_list (s : ByteArray) : s.data.toList.length = s.size := by simp
theorem must_ok (er : Int) (w : World) : Calls Try.prog 57 #[.bool true, .int .i64 er] w fun e w' => e = .returned (.tuple #[]) ∧ w' = w := by
  go_enter Try.func57, Try.ntmps57
  go_wp2
  go_end0
  exact ⟨rfl, rfl⟩
theorem must_bad (er : Int) (w : World) : Calls Try.prog 57 #[.bool false, .int .i64 er] w fun e w' => e = .panicked [{ v := .iface 106 (.int .i64 er), recovered := false }] ∧ w' = w := by
  go_enter Try.func57, Try.ntmps57
  go_wp2
  exact ⟨rfl, rfl, rfl⟩
theorem must_any (b : Bool) (er : Int) (w : World) : Calls Try.prog 57 #[.bool b, .int .i64 er] w fun e w' => (b = true ∧ e = .returned (.tuple #[]) ∧ w' = w) ∨ (b = false ∧ e = .panicked [{ v := .iface 106 (.int .i64 er), recovered := false }] ∧ w' = w) := by
  cases b with
  | true => exact (must_ok er w).mono fun e w' h => .inl ⟨rfl, h⟩
  | false => exact (must_bad er w).mono fun e w' h => .inr ⟨rfl, h⟩
/-- What a reading closure may end with: a rest, or an error that panics. -/
def ReadEnd (r : Except Int ByteArray) (e : Ending) : Prop := match r with
  | .ok t => e = .returned (.string t)
  | .error er => e = .panicked [{ v := .iface 106 (.int .i64 er), recovered := false }]
/-- Between two bytes of a number. -/
def NumAt (s : ByteArray) (i v : Nat) : Prop := i ≤ 9 ∧ v < 2 ^ (7 * i) ∧ numS s.data.toList = numL i v (s.data.toList.drop i)
def NumPost (s : ByteArray) (p : Addr) (w : World) (e : Ending) (w' : World) : Prop :=
  match numS s.data.toList with
  | .ok (v, n) => e = .returned (.string (s.extract n s.size)) ∧ w' = w.setCell p (.int .u64 v)
  | .error er => ReadEnd (.error er) e ∧ w' = w
theorem NumAt.start {s : ByteArray} : NumAt s 0 0 := ⟨Nat.zero_le _, Nat.one_pos, rfl⟩
theorem num_step {v i c : Nat} (hv : v < 2 ^ (7 * i)) (hi : i ≤ 9) (hc : c < 256) (hq : i = 9 → c ≤ 1) :
    bits .or .u64 (v : Int) (IntKind.u64.wrap (IntKind.u64.wrap (bits .andNot .u8 (c : Int) 128) * 2 ^ (7 * i))) = ((v + (c % 128) * 2 ^ (7 * i) : Nat) : Int) := by
  have h1 : bits .andNot .u8 (c : Int) 128 = ((c % 128 : Nat) : Int) := by
    have := u8_andNot_nat c 128 hc (by omega)
    rw [show (255 - 128 : Nat) = 2 ^ 7 - 1 by rfl, Nat.and_two_pow_sub_one_eq_mod] at this
    exact this
  have hx : (c % 128) * 2 ^ (7 * i) + 2 ^ (7 * i) ≤ 18446744073709551616 := by
    rcases Nat.lt_or_ge i 9 with h | h
    · have h2 : 2 ^ (7 * i) ≤ 72057594037927936 := Nat.le_trans (Nat.pow_le_pow_right (by omega) (show 7 * i ≤ 56 by omega)) (by decide)
      have h3 : (c % 128) * 2 ^ (7 * i) ≤ 127 * 72057594037927936 := Nat.mul_le_mul (by omega) h2
      generalize 2 ^ (7 * i) = q at h2 h3 ⊢
      omega
    · have h9 : i = 9 := by omega
      have hc1 := hq h9
      have h2 : 2 ^ (7 * i) ≤ 9223372036854775808 := Nat.le_trans (Nat.pow_le_pow_right (by omega) (show 7 * i ≤ 63 by omega)) (by decide)
      have h3 : (c % 128) * 2 ^ (7 * i) ≤ 1 * 9223372036854775808 := Nat.mul_le_mul (by omega) h2
      generalize 2 ^ (7 * i) = q at h2 h3 ⊢
      omega
  rw [h1]
  generalize c % 128 = x at hx ⊢
  generalize hm : 7 * i = m at hx hv ⊢
  have hm' : m ≤ 63 := by omega
  clear hm hq h1
  obtain ⟨y, hy⟩ : ∃ y, x * 2 ^ m = y := ⟨_, rfl⟩
  have hxw : IntKind.u64.wrap (x : Int) = x := by
    have : x * 1 ≤ x * 2 ^ m := Nat.mul_le_mul (Nat.le_refl _) (Nat.one_le_two_pow)
    simp [IntKind.wrap, IntKind.bits, IntKind.signed]; omega
  have e1 : ((x : Int) * 2 ^ m) = ((x * 2 ^ m : Nat) : Int) := by push_cast; rfl
  rw [hxw, e1]
  have hlt : 0 < 2 ^ m := Nat.two_pow_pos m
  have hyw : IntKind.u64.wrap ((x * 2 ^ m : Nat) : Int) = ((x * 2 ^ m : Nat) : Int) := by
    rw [hy] at hx ⊢
    simp [IntKind.wrap, IntKind.bits, IntKind.signed]; omega
  have hvlt : v < 18446744073709551616 := by rw [hy] at hx; omega
  rw [hyw, u64_or_nat v (x * 2 ^ m) hvlt (by rw [hy] at hx ⊢; omega)]
  congr 1
  rw [Nat.or_comm, Nat.mul_comm x, ← Nat.two_pow_add_eq_or_of_lt hv, Nat.add_comm]
theorem num_step0 {v c : Nat} (hv : v < 1) (hc : c < 256) :
    bits .or .u64 (v : Int) (IntKind.u64.wrap (IntKind.u64.wrap (bits .andNot .u8 (c : Int) 128))) = ((v + (c % 128) * 2 ^ (7 * 0) : Nat) : Int) := by
  have := num_step (v := v) (i := 0) (c := c) hv (by omega) hc (by omega)
  simpa using this
theorem NumAt.drop {s : ByteArray} {i v : Nat} (h : NumAt s i v) (hi : i < s.size) : numS s.data.toList = 
    if (i < 9 ∨ s[i].toNat ≤ 1) ∧ (i = 0 ∨ s[i].toNat ≠ 0) then
      if s[i].toNat < 128 then .ok (v + s[i].toNat * 2 ^ (7 * i), i + 1) else numL (i + 1) (v + (s[i].toNat - 128) * 2 ^ (7 * i)) (s.data.toList.drop (i + 1))
    else .error 3 := by
  have hl : i < s.data.toList.length := by rw [size_list]; exact hi
  rw [h.2.2, List.drop_eq_getElem_cons hl, numL]
  rfl
theorem NumAt.next {s : ByteArray} {i v : Nat} (h : NumAt s i v) (hi : i < s.size) (h9 : i < 9) (hc : i = 0 ∨ s[i].toNat ≠ 0) (hb : ¬ s[i].toNat < 128) : NumAt s (i + 1) (v + (s[i].toNat % 128) * 2 ^ (7 * i)) := by
  refine ⟨by omega, ?_, ?_⟩
  · have h2 := h.2.1
    rw [show 7 * (i + 1) = 7 * i + 7 by omega, Nat.pow_add]
    generalize 2 ^ (7 * i) = q at h2 ⊢
    have : (s[i].toNat % 128) * q ≤ 127 * q := Nat.mul_le_mul (by omega) (Nat.le_refl _)
    omega
  · have := s[i].toNat_lt
    rw [h.drop hi, if_pos ⟨.inl h9, hc⟩, if_neg hb, show s[i].toNat % 128 = s[i].toNat - 128 by omega]
theorem NumPost.ret {s : ByteArray} {p : Addr} {i v : Nat} {w : World} {x : Int} (h : NumAt s i v) (hi : i < s.size) (h9 : i < 9 ∨ s[i].toNat ≤ 1) (hc : i = 0 ∨ s[i].toNat ≠ 0) (hb : s[i].toNat < 128) (hx : x = ((v + (s[i].toNat % 128) * 2 ^ (7 * i) : Nat) : Int)) :
    NumPost s p w (.returned (.string (s.extract (i + 1) s.size))) (w.setCell p (.int .u64 x)) := by
  unfold NumPost
  rw [h.drop hi, if_pos ⟨h9, hc⟩, if_pos hb]
  refine ⟨rfl, ?_⟩
  rw [hx, Nat.mod_eq_of_lt hb]
theorem NumPost.bad {s : ByteArray} {p : Addr} {i v : Nat} {w : World} (h : NumAt s i v) (hi : i < s.size) (hq : ¬ ((i < 9 ∨ s[i].toNat ≤ 1) ∧ (i = 0 ∨ s[i].toNat ≠ 0))) :
    NumPost s p w (.panicked [{ v := .iface 106 (.int .i64 3), recovered := false }]) w := by
  unfold NumPost
  rw [h.drop hi, if_neg hq]
  exact ⟨rfl, rfl⟩
theorem NumPost.cut {s : ByteArray} {p : Addr} {i v : Nat} {w : World} (h : NumAt s i v) (hi : ¬ i < s.size) :
    NumPost s p w (.panicked [{ v := .iface 106 (.int .i64 2), recovered := false }]) w := by
  unfold NumPost
  rw [h.2.2, List.drop_eq_nil_of_le (by rw [size_list]; omega), numL]
  exact ⟨rfl, rfl⟩
set_option maxRecDepth 100000 in
set_option maxHeartbeats 1000000 in
theorem num_closure (s : ByteArray) (p : Addr) (x : Int) (w : World) (hc : w.cell? p = some (.int .u64 x)) (hz : w.frozen? p = false) :
    Calls Try.prog 56 #[.string s, .pointer (some p)] w fun e w' =>
      NumPost s p w e w' := by
  go_enter Try.func56, Try.ntmps56
  go_wp2
  go_loopw [4, 5] (fun a b wr => ∃ (v i : Nat), a = .int .u64 v ∧ b = .int .i64 i ∧ NumAt s i v ∧ wr = w) (fun _ b _ => 10 - (intOf b).toNat)
  case atStart => exact ⟨0, 0, rfl, rfl, NumAt.start, rfl⟩
  case round =>
    obtain ⟨v, i, rfl, rfl, hn, rfl⟩ := hrel
    have HN := Lib.hid hn
    have hi9 := hn.1
    clear hn
    by_cases hlt : i < s.size
    · have hlt' : (i : Int) < (s.size : Int) := by omega
      have hll : i < s.data.toList.length := by rw [size_list]; exact hlt
      have hcl := s[i].toNat_lt
      by_cases h9 : i < 9
      · have h9' : (i : Int) < 9 := by omega
        by_cases h0 : i = 0
        · subst h0
          by_cases hb : (s[0].toNat : Int) < 128
          · go_wp2_with (first | (go_at_call 57; refine (must_any _ _ _).mono ?_; rintro e w' (⟨hq, rfl, rfl⟩ | ⟨hq, rfl, rfl⟩)))
            all_goals first
              | (exfalso; first | exact Bool.noConfusion hq | (simp at hq; done) | (simp at hq; omega))
              | (go_ret; exact NumPost.ret HN.out hlt (by omega) (by omega) (by omega) (num_step0 HN.out.2.1 hcl))
          · go_wp2_with (first | (go_at_call 57; refine (must_any _ _ _).mono ?_; rintro e w' (⟨hq, rfl, rfl⟩ | ⟨hq, rfl, rfl⟩)))
            all_goals first
              | (exfalso; first | exact Bool.noConfusion hq | (simp at hq; done) | (simp at hq; omega))
              | (refine ⟨⟨_, 1, congrArg (Value.int .u64) (num_step0 HN.out.2.1 hcl), rfl, HN.out.next hlt h9 (by omega) (by omega), trivial⟩, ?_⟩; simp [intOf])
        · by_cases hc0 : s[i].toNat = 0
          · go_wp2_with (first | (go_at_call 57; refine (must_any _ _ _).mono ?_; rintro e w' (⟨hq, rfl, rfl⟩ | ⟨hq, rfl, rfl⟩)))
            all_goals first
              | (exfalso; first | exact Bool.noConfusion hq | (simp at hq; done) | (simp at hq; omega))
              | (refine ⟨rfl, NumPost.bad HN.out hlt (by omega)⟩)
          · by_cases hb : (s[i].toNat : Int) < 128
            · go_wp2_with (first | (go_at_call 57; refine (must_any _ _ _).mono ?_; rintro e w' (⟨hq, rfl, rfl⟩ | ⟨hq, rfl, rfl⟩)))
              all_goals first
                | (exfalso; first | exact Bool.noConfusion hq | (simp at hq; done) | (simp at hq; omega))
                | (go_ret; exact NumPost.ret HN.out hlt (by omega) (by omega) (by omega) (num_step HN.out.2.1 hi9 hcl (by omega)))
            · go_wp2_with (first | (go_at_call 57; refine (must_any _ _ _).mono ?_; rintro e w' (⟨hq, rfl, rfl⟩ | ⟨hq, rfl, rfl⟩)))
              all_goals first
                | (exfalso; first | exact Bool.noConfusion hq | (simp at hq; done) | (simp at hq; omega))
                | (refine ⟨⟨_, i + 1, congrArg (Value.int .u64) (num_step HN.out.2.1 hi9 hcl (by omega)), rfl, HN.out.next hlt h9 (by omega) (by omega), trivial⟩, ?_⟩; simp [intOf]; omega)
      · have h9' : ¬ (i : Int) < 9 := by omega
        have h0 : ¬ i = 0 := by omega
        by_cases hc1 : (s[i].toNat : Int) ≤ 1
        · by_cases hc0 : s[i].toNat = 0
          · go_wp2_with (first | (go_at_call 57; refine (must_any _ _ _).mono ?_; rintro e w' (⟨hq, rfl, rfl⟩ | ⟨hq, rfl, rfl⟩)))
            all_goals first
              | (exfalso; first | exact Bool.noConfusion hq | (simp at hq; done) | (simp at hq; omega))
              | (refine ⟨rfl, NumPost.bad HN.out hlt (by omega)⟩)
          · go_wp2_with (first | (go_at_call 57; refine (must_any _ _ _).mono ?_; rintro e w' (⟨hq, rfl, rfl⟩ | ⟨hq, rfl, rfl⟩)))
            all_goals first
              | (exfalso; first | exact Bool.noConfusion hq | (simp at hq; done) | (simp at hq; omega))
              | (go_ret; exact NumPost.ret HN.out hlt (by omega) (by omega) (by omega) (num_step HN.out.2.1 hi9 hcl (by omega)))
        · go_wp2_with (first | (go_at_call 57; refine (must_any _ _ _).mono ?_; rintro e w' (⟨hq, rfl, rfl⟩ | ⟨hq, rfl, rfl⟩)))
          all_goals first
            | (exfalso; first | exact Bool.noConfusion hq | (simp at hq; done) | (simp at hq; omega))
            | (refine ⟨rfl, NumPost.bad HN.out hlt (by omega)⟩)
    · have hlt2 : ¬ ((i : Int) < (s.size : Int)) := by omega
      go_wp2_with (first | (go_at_call 57; refine (must_bad _ _).mono ?_; rintro e w' ⟨rfl, rfl⟩))
      exact ⟨rfl, NumPost.cut HN.out hlt⟩
/-- What the taking closure does. -/
def TakePost (s : ByteArray) (n : Int) (q : Addr) (w : World) (e : Ending) (w' : World) : Prop :=
  if 0 ≤ n ∧ n ≤ s.size then e = .returned (.string (s.extract n.toNat s.size)) ∧ w' = w.setCell q (.string (s.extract 0 n.toNat)) else ReadEnd (.error 2) e ∧ w' = w
theorem TakePost.mk {s : ByteArray} {n : Int} {q : Addr} {w : World} (h : 0 ≤ n ∧ n ≤ s.size) : TakePost s n q w (.returned (.string (s.extract n.toNat s.size))) (w.setCell q (.string (s.extract 0 n.toNat))) := by
  unfold TakePost; rw [if_pos h]; exact ⟨rfl, rfl⟩
theorem TakePost.bad {s : ByteArray} {n : Int} {q : Addr} {w : World} (h : ¬ (0 ≤ n ∧ n ≤ s.size)) : TakePost s n q w (.panicked [{ v := .iface 106 (.int .i64 2), recovered := false }]) w := by
  unfold TakePost; rw [if_neg h]; exact ⟨rfl, rfl⟩
set_option maxRecDepth 100000 in
set_option maxHeartbeats 1000000 in
theorem take_closure (s : ByteArray) (n : Int) (p q : Addr) (x : ByteArray) (w : World) (hp : w.cell? p = some (.int .i64 n)) (hpq : ¬ p = q) (hc : w.cell? q = some (.string x)) (hz : w.frozen? q = false) :
    Calls Try.prog 84 #[.string s, .pointer (some p), .pointer (some q)] w fun e w' => TakePost s n q w e w' := by
  have hp2 : ∀ v, (w.setCell q v).cell? p = some (.int .i64 n) := fun v => (World.cell?_setCell_other w q p v (fun h => hpq h.symm)).trans hp
  go_enter Try.func84, Try.ntmps84
  by_cases h0 : 0 ≤ n
  · by_cases h1 : n ≤ s.size
    · go_wp2_with (first | (go_at_call 57; refine (must_any _ _ _).mono ?_; rintro e w' (⟨hq, rfl, rfl⟩ | ⟨hq, rfl, rfl⟩)))
      all_goals first
        | (exfalso; first | exact Bool.noConfusion hq | (simp at hq; done) | (simp at hq; omega))
        | (go_ret; exact TakePost.mk ⟨h0, h1⟩)
    · go_wp2_with (first | (go_at_call 57; refine (must_any _ _ _).mono ?_; rintro e w' (⟨hq, rfl, rfl⟩ | ⟨hq, rfl, rfl⟩)))
      all_goals first
        | (exfalso; first | exact Bool.noConfusion hq | (simp at hq; done) | (simp at hq; omega))
        | exact ⟨rfl, TakePost.bad (by omega)⟩
  · go_wp2_with (first | (go_at_call 57; refine (must_any _ _ _).mono ?_; rintro e w' (⟨hq, rfl, rfl⟩ | ⟨hq, rfl, rfl⟩)))
    all_goals first
      | (exfalso; first | exact Bool.noConfusion hq | (simp at hq; done) | (simp at hq; omega))
      | exact ⟨rfl, TakePost.bad (by omega)⟩
end Go.Proofs.Ytfcndhajcikgiaa.B
namespace Go.Proofs.Ytfcndhajcikgiaa.B
open Go.RowKit Go.Proofs.Sp Go.Proofs.YtfcndhajcikgiaaW.PrintWords
/-- The deferred closure, of a frame that returns: nothing turns. -/
theorem catch_idle (p : Addr) (w : World) :
    CallsD Try.prog 82 #[.pointer (some p)] .returning w fun e u' w' => e = .returned (.tuple #[]) ∧ u' = .returning ∧ w' = w := by
  refine callsD_of_wpS Try.func82 rfl fun c₀ cs hu => ?_
  apply wpS_seq
  apply wpS_region
  simp [wpOpsS, go_sem, recoverD, hu, Try.ntmps82, Exit.thenS]
  apply wpS_seq
  apply wpS_region
  simp [wpOpsS, go_sem, Exit.thenS]
  refine wpS_cond (t := false) (by simp [Act.eval, Array.replicate]) ?_
  simp only [Bool.false_eq_true, if_false]
  refine wpS_of_wp (wp_skip ?_)
  cases c₀
  simp_all [bodyPostS, results, Try.results82]
/-- Of a frame that panics with an error of the reader's: it is kept in the reader. -/
theorem catch_panic (p : Addr) (g : Nat) (er x : Int) (older : List PanicEntry) (w : World) (hp : w.cell? p = some (.pointer (some ⟨g, 0, none⟩))) (hc : w.cell? ⟨g, 1, none⟩ = some (.int .i64 x)) (hz : w.frozen? ⟨g, 1, none⟩ = false) :
    CallsD Try.prog 82 #[.pointer (some p)] (.panicking ({ v := .iface 106 (.int .i64 er), recovered := false } :: older)) w fun e u' w' =>
      e = .returned (.tuple #[]) ∧ u' = .panicking ({ v := .iface 106 (.int .i64 er), recovered := true } :: older) ∧ w' = w.drew.setCell ⟨g, 1, none⟩ (.int .i64 er) := by
  refine callsD_of_wpS Try.func82 rfl fun c₀ cs hu => ?_
  apply wpS_seq
  apply wpS_region
  simp [wpOpsS, go_sem, recoverD, hu, Try.ntmps82, Exit.thenS]
  apply wpS_seq
  apply wpS_region
  simp [wpOpsS, go_sem, Exit.thenS]
  refine wpS_cond (t := true) (by simp [Act.eval, Array.replicate]) ?_
  simp only [if_true]
  refine wpS_of_wp ?_
  have ht : ∀ v : Value, (#[.pointer (some p)] ++ ((((Array.replicate 9 undef).setIfInBounds 1 v).setIfInBounds 0 v).setIfInBounds 2 v).setIfInBounds 3 (Value.bool true) : Array Value) = #[.pointer (some p), v, v, v, .bool true, undef, undef, undef, undef, undef] := fun v => rfl
  rw [ht]
  have hta : ∀ (v : Value) (W : World), (Instr.typeAssert (.iface 106 v) 20 106 false).run Try.prog W = .ok v W := by
    intro v W; simp [Instr.typeAssert, run_underlying Try.underlying106]
  go_region
  cases c₀
  simp [bodyPostS, results, Try.results82]
theorem lt_of_cell {w : World} {b i : Nat} {v : Value} (h : w.cell? ⟨b, i, none⟩ = some v) : b < w.heap.size := by
  rcases Nat.lt_or_ge b w.heap.size with h' | h'
  · exact h'
  · simp [World.cell?, Array.getElem?_eq_none h'] at h
/-- A post that at a panic asks nothing of the frame but its deferred call. -/
def PanicQ (P : Program) (fn : Func) (R : Ending → World → Prop) (d : Deferred) : Exit → Act → World → Prop
  | .panic c, a, w => a.defers = [d] ∧ ∀ tmps, Leaves P fn tmps R [d] (.panicking c) w
  | e, a, w => bodyPostD P fn R e a w
theorem PanicQ.imp {P : Program} {fn : Func} {R : Ending → World → Prop} {d : Deferred} : ∀ (e : Exit) (a : Act) (w : World), PanicQ P fn R d e a w → bodyPostD P fn R e a w := fun e a w h => by
  cases e with
  | panic c => obtain ⟨h1, h2⟩ := h; show Leaves P fn a.tmps R a.defers (.panicking c) w; rw [h1]; exact h2 _
  | _ => exact h
theorem read_results (tmps : Array Value) (W : World) : (results Try.f55 tmps).run Try.prog W = .ok (.tuple #[]) W := by simp [results, Try.results55]
/-- The door of read, behind a closure that came back. -/
theorem read_door {tmps : Array Value} {b : Nat} {W : World} {R : Ending → World → Prop} (h : R (.returned (.tuple #[])) W) :
    Leaves Try.prog Try.f55 tmps R [{ target := .fn (Fn.func 82) #[.pointer (some ⟨b, 0, none⟩)], args := #[] }] .returning W := by
  refine leaves_cons (f := 82) (args := #[.pointer (some ⟨b, 0, none⟩)]) (by simp) (by simp [go_sem]) ?_
  refine (catch_idle ⟨b, 0, none⟩ W).mono ?_
  rintro e u' w'' ⟨rfl, rfl, rfl⟩
  exact ⟨.tuple #[], read_results _ _, h⟩
/-- .. that panicked. -/
theorem read_door_panic {tmps : Array Value} {b g : Nat} {er x : Int} {W : World} {R : Ending → World → Prop} (hp : W.cell? ⟨b, 0, none⟩ = some (.pointer (some ⟨g, 0, none⟩))) (hc : W.cell? ⟨g, 1, none⟩ = some (.int .i64 x)) (hz : W.frozen? ⟨g, 1, none⟩ = false) (h : R (.returned (.tuple #[])) (W.drew.setCell ⟨g, 1, none⟩ (.int .i64 er))) :
    Leaves Try.prog Try.f55 tmps R [{ target := .fn (Fn.func 82) #[.pointer (some ⟨b, 0, none⟩)], args := #[] }] (.panicking [{ v := .iface 106 (.int .i64 er), recovered := false }]) W := by
  refine leaves_cons (f := 82) (args := #[.pointer (some ⟨b, 0, none⟩)]) (by simp) (by simp [go_sem]) ?_
  refine (catch_panic ⟨b, 0, none⟩ g er x [] W hp hc hz).mono ?_
  rintro e u' w'' ⟨rfl, rfl, rfl⟩
  exact ⟨.tuple #[], read_results _ _, h⟩
/-- The same world but for what was drawn. -/
def UpTo (X w' : World) : Prop := ∃ d, w' = { X with drawn := d }
/-- The world in which the reader's variable is laid. -/
abbrev boxed (w : World) (g : Nat) : World := w.alloc (.cells #[.pointer (some ⟨g, 0, none⟩)] 57)
/-- Behind a read of a number. -/
def ReadNum (s : ByteArray) (g q : Nat) (er : Int) (w : World) (e : Ending) (w' : World) : Prop :=
  e = .returned (.tuple #[]) ∧ if er = 0 then match numS s.data.toList with
    | .ok (v, n) => UpTo (((boxed w g).setCell ⟨q, 0, none⟩ (.int .u64 v)).setCell ⟨g, 0, none⟩ (.string (s.extract n s.size))) w'
    | .error f => UpTo ((boxed w g).setCell ⟨g, 1, none⟩ (.int .i64 f)) w'
    else UpTo (boxed w g) w'
theorem ReadNum.kept {s : ByteArray} {g q : Nat} {er : Int} {w : World} {w' : World} (he : ¬ er = 0) (h : UpTo (boxed w g) w') : ReadNum s g q er w (.returned (.tuple #[])) w' := ⟨rfl, by rw [if_neg he]; exact h⟩
theorem ReadNum.ok {s : ByteArray} {g q : Nat} {er : Int} {w : World} {w' : World} {v n : Nat} (he : er = 0) (hn : numS s.data.toList = .ok (v, n)) (h : UpTo (((boxed w g).setCell ⟨q, 0, none⟩ (.int .u64 v)).setCell ⟨g, 0, none⟩ (.string (s.extract n s.size))) w') : ReadNum s g q er w (.returned (.tuple #[])) w' := ⟨rfl, by rw [if_pos he, hn]; exact h⟩
theorem ReadNum.bad {s : ByteArray} {g q : Nat} {er : Int} {w : World} {w' : World} {f : Int} (he : er = 0) (hn : numS s.data.toList = .error f) (h : UpTo ((boxed w g).setCell ⟨g, 1, none⟩ (.int .i64 f)) w') : ReadNum s g q er w (.returned (.tuple #[])) w' := ⟨rfl, by rw [if_pos he, hn]; exact h⟩
set_option maxRecDepth 100000 in
set_option maxHeartbeats 1000000 in
theorem read_num (s : ByteArray) (g : Nat) (er x : Int) (q : Nat) (w : World) (hg : w.heap[g]? = some (.cells #[.string s, .int .i64 er] 85 (0, 0))) (hq : w.cell? ⟨q, 0, none⟩ = some (.int .u64 x)) (hz : w.frozen? ⟨q, 0, none⟩ = false) (hgq : ¬ g = q) :
    Calls Try.prog 55 #[.pointer (some ⟨g, 0, none⟩), .func (Fn.func 56) #[] #[.pointer (some ⟨q, 0, none⟩)]] w fun e w' => ReadNum s g q er w e w' := by
  have hmf : ∀ (fn : Fn) (first cap : Array Value) (w : World), (Instr.makeFunc fn first cap).run Try.prog w = .ok (.func fn first cap) w := fun _ _ _ _ => rfl
  have hc0 : w.cell? ⟨g, 0, none⟩ = some (.string s) := (blk_cell hg 0).trans rfl
  have hc1 : w.cell? ⟨g, 1, none⟩ = some (.int .i64 er) := (blk_cell hg 1).trans rfl
  have hgl := blk_lt hg
  have hA0 : ∀ o, (w.alloc o).cell? ⟨g, 0, none⟩ = some (.string s) := fun o => (World.cell?_alloc_lt w o ⟨g, 0, none⟩ hgl).trans hc0
  have hA1 : ∀ o, (w.alloc o).cell? ⟨g, 1, none⟩ = some (.int .i64 er) := fun o => (World.cell?_alloc_lt w o ⟨g, 1, none⟩ hgl).trans hc1
  have hF0 : ∀ o, (w.alloc o).frozen? ⟨g, 0, none⟩ = false := fun o => (blk_frozen (blk_alloc hg o) 0)
  have hF1 : ∀ o, (w.alloc o).frozen? ⟨g, 1, none⟩ = false := fun o => (blk_frozen (blk_alloc hg o) 1)
  have hql : q < w.heap.size := lt_of_cell hq
  have hAq : ∀ o, (w.alloc o).cell? ⟨q, 0, none⟩ = some (.int .u64 x) := fun o => (World.cell?_alloc_lt w o ⟨q, 0, none⟩ hql).trans hq
  have hFq : ∀ o, (w.alloc o).frozen? ⟨q, 0, none⟩ = false := fun o => by rw [← hz]; exact World.frozen?_of_block (w := w) (Below.heap_alloc w o q hql)
  go_enter_defers Try.func55, Try.ntmps55
  by_cases he : er = 0
  · cases hn : numS s.data.toList with
    | ok vn =>
      obtain ⟨v, n⟩ := vn
      have hN : ∀ W : World, W.cell? ⟨q, 0, none⟩ = some (.int .u64 x) → W.frozen? ⟨q, 0, none⟩ = false → Calls Try.prog 56 #[.string s, .pointer (some ⟨q, 0, none⟩)] W fun e w' => e = .returned (.string (s.extract n s.size)) ∧ w' = W.setCell ⟨q, 0, none⟩ (.int .u64 v) := fun W h1 h2 =>
        (num_closure s _ x W h1 h2).mono fun e w' h => by unfold NumPost at h; rw [hn] at h; exact h
      go_wp2
      refine Code.wp_mono (PanicQ.imp (d := { target := .fn (Fn.func 82) #[.pointer (some ⟨w.heap.size, 0, none⟩)], args := #[] })) ?_
      go_region_with (go_at_call 56; refine (hN _ ?_ ?_).mono ?_; (exact hAq _); (exact hFq _); (rintro e w2 ⟨rfl, hw2⟩; have hS0 : w2.cell? ⟨g, 0, none⟩ = some (.string s) := (by rw [hw2]; exact (World.cell?_setCell_other _ _ _ _ (by intro h; injection h with h; exact hgq h.symm)).trans (hA0 _)); have hSF : w2.frozen? ⟨g, 0, none⟩ = false := (by rw [hw2]; exact (World.frozen?_setCell _ _ _ _).trans (hF0 _)); have hT : w2.cell? ⟨w.heap.size, 0, none⟩ = some (.pointer (some ⟨g, 0, none⟩)) := (by rw [hw2]; exact (World.cell?_setCell_other _ _ _ _ (by intro h; injection h with h; omega)).trans (World.cell?_alloc_new w _ _ 0)); have HW := Lib.hid (show UpTo ((boxed w g).setCell ⟨q, 0, none⟩ (.int .u64 v)) w2 from ⟨w2.drawn, by rw [hw2]; rfl⟩); clear hw2))
      all_goals exact read_door (ReadNum.ok he hn (by obtain ⟨d, rfl⟩ := HW.out; exact ⟨_, rfl⟩))
    | error f =>
      have hN : ∀ W : World, W.cell? ⟨q, 0, none⟩ = some (.int .u64 x) → W.frozen? ⟨q, 0, none⟩ = false → Calls Try.prog 56 #[.string s, .pointer (some ⟨q, 0, none⟩)] W fun e w' => e = .panicked [{ v := .iface 106 (.int .i64 f), recovered := false }] ∧ w' = W := fun W h1 h2 =>
        (num_closure s _ x W h1 h2).mono fun e w' h => by unfold NumPost at h; rw [hn] at h; exact h
      go_wp2
      refine Code.wp_mono (PanicQ.imp (d := { target := .fn (Fn.func 82) #[.pointer (some ⟨w.heap.size, 0, none⟩)], args := #[] })) ?_
      go_region_dies
      all_goals
        refine (hN _ ?_ ?_).mono ?_
        · exact hAq _
        · exact hFq _
        rintro e w2 ⟨rfl, rfl⟩
        refine ⟨rfl, fun tmps => ?_⟩
        refine read_door_panic (g := g) (x := er) ?_ ?_ ?_ ?_
        · exact World.cell?_alloc_new w _ _ 0
        · exact hA1 _
        · exact hF1 _
        · exact ReadNum.bad rfl hn ⟨_, rfl⟩
  · go_wp2
    exact ⟨.tuple #[], read_results _ _, ReadNum.kept he ⟨_, rfl⟩⟩
/-- (*Reader).Num, in the printed form. -/
def pack_Reader_Num.f (s : ByteArray) (er : Int) : Option (Int × ByteArray × Int) :=
  if er = 0 then match numS s.data.toList with
    | .ok (v, n) => some ((v : Int), s.extract n s.size, 0)
    | .error f => some (0, s, f)
  else some (0, s, er)
theorem UpTo.heap {X w' : World} (h : UpTo X w') : w'.heap = X.heap := by obtain ⟨d, rfl⟩ := h; rfl
theorem UpTo.cell {X w' : World} (h : UpTo X w') (a : Addr) : w'.cell? a = X.cell? a := by obtain ⟨d, rfl⟩ := h; rfl
theorem UpTo.below {n : Nat} {w X w' : World} (h : UpTo X w') (hb : Below n w X) : Below n w w' := by obtain ⟨d, rfl⟩ := h; exact ⟨hb.os, hb.tape, hb.output, hb.size, hb.block⟩
theorem UpTo.keep {w X w' : World} {g : Nat} (h : UpTo X w') (hb : KeepBut w X g none) : KeepBut w w' g none := by obtain ⟨d, rfl⟩ := h; exact hb
theorem UpTo.isS {w0 X w' : World} {g : Nat} {s : ByteArray} {er : Int} (h : UpTo X w') (hb : IsS85 w0 X g s er) : IsS85 w0 w' g s er := by obtain ⟨d, rfl⟩ := h; exact hb
theorem num_end {w0 w w2 : World} {g : Nat} {s : ByteArray} {er r1 : Int} {r2 : ByteArray} {r3 : Int} (hI : IsS85 w0 w g s er) (hB : Below w0.heap.size w0 w) (hf : pack_Reader_Num.f s er = some (r1, r2, r3))
    (hr : ReadNum s g w.heap.size er (w.alloc (.cells #[.int .u64 0] 52)) (.returned (.tuple #[])) w2) :
    w2.cell? ⟨w.heap.size, 0, none⟩ = some (.int .u64 r1) ∧ IsS85 w0 w2 g r2 r3 ∧ Below w0.heap.size w0 w2 ∧ KeepBut w w2 g none := by
  have hg0 := hI.ge
  have hgl := hI.lt
  have hbs := hB.size
  have I1 : IsS85 w0 (boxed (w.alloc (.cells #[.int .u64 0] 52)) g) g s er := (hI.alloc _).alloc _
  have B1 : Below w0.heap.size w0 (boxed (w.alloc (.cells #[.int .u64 0] 52)) g) := below_alloc (below_alloc hB _) _
  have K1 : KeepBut w (boxed (w.alloc (.cells #[.int .u64 0] 52)) g) g none := keep_alloc (keep_alloc (KeepBut.refl _ _ _) _) _
  have C1 : (boxed (w.alloc (.cells #[.int .u64 0] 52)) g).cell? ⟨w.heap.size, 0, none⟩ = some (.int .u64 0) :=
    (World.cell?_alloc_lt _ _ ⟨w.heap.size, 0, none⟩ (by simp)).trans (World.cell?_alloc_new w _ _ 0)
  obtain ⟨-, hr⟩ := hr
  generalize boxed (w.alloc (.cells #[.int .u64 0] 52)) g = X at I1 B1 K1 C1 hr
  unfold pack_Reader_Num.f at hf
  by_cases he : er = 0
  · subst he
    rw [if_pos rfl] at hf hr
    cases hn : numS s.data.toList with
    | ok vn =>
      obtain ⟨v, n⟩ := vn
      rw [hn] at hf hr
      simp only [Option.some.injEq, Prod.mk.injEq] at hf
      obtain ⟨rfl, rfl, rfl⟩ := hf
      have hq : ¬ g = w.heap.size := by omega
      refine ⟨?_, hr.isS ?_, hr.below ?_, hr.keep ?_⟩
      · rw [hr.cell, World.cell?_setCell_other _ _ _ _ (by intro h; injection h with h; exact hq h)]
        exact World.cell?_setCell_same _ _ _ C1
      · exact (I1.far (p := ⟨w.heap.size, 0, none⟩) hq _).set_0 _
      · exact below_set (g := g) (j := 0) (below_set (g := w.heap.size) (j := 0) B1 hbs) hg0
      · exact KeepBut.set_ (keep_far K1 (p := ⟨w.heap.size, 0, none⟩) (Nat.le_refl _) _) _ _
    | error f =>
      rw [hn] at hf hr
      simp only [Option.some.injEq, Prod.mk.injEq] at hf
      obtain ⟨rfl, rfl, rfl⟩ := hf
      refine ⟨?_, hr.isS (I1.set_1 _), hr.below (below_set (g := g) (j := 1) B1 hg0), hr.keep (K1.set_ _ _)⟩
      rw [hr.cell, World.cell?_setCell_other _ _ _ _ (by intro h; injection h with h; omega)]
      exact C1
  · rw [if_neg he] at hf hr
    simp only [Option.some.injEq, Prod.mk.injEq] at hf
    obtain ⟨rfl, rfl, rfl⟩ := hf
    exact ⟨(hr.cell _).trans C1, hr.isS I1, hr.below B1, hr.keep K1⟩
set_option maxRecDepth 100000 in
set_option maxHeartbeats 1000000 in
theorem pack_Reader_Num.calls (g : Nat) (s : ByteArray) (er : Int) (r1 : Int) (r2 : ByteArray) (r3 : Int) (w0 w : World) (hI : IsS85 w0 w g s er) (hB : Below w0.heap.size w0 w) (h : pack_Reader_Num.f s er = some (r1, r2, r3)) :
    Calls Try.prog 30 #[.pointer (some ⟨g, 0, none⟩)] w fun e w' => e = .returned (.int .u64 r1) ∧ IsS85 w0 w' g r2 r3 ∧ Below w0.heap.size w0 w' ∧ KeepBut w w' g none := by
  have hmf : ∀ (fn : Fn) (first cap : Array Value) (w : World), (Instr.makeFunc fn first cap).run Try.prog w = .ok (.func fn first cap) w := fun _ _ _ _ => rfl
  have HI := Lib.hid hI
  have HB := Lib.hid hB
  have HF := Lib.hid h
  clear hI hB h
  go_enter Try.func30, Try.ntmps30
  have hgl := Lib.hid HI.out.lt
  go_wp2_with (go_at_call 55; go_loud (refine (read_num s g er 0 _ _ ?_ ?_ ?_ ?_).mono ?_; (exact blk_alloc HI.out.1 _); (exact World.cell?_alloc_new w _ _ 0); (exact World.frozen?_alloc_new w _ _ 0); (exact Nat.ne_of_lt hgl.out); (rintro e w2 hw2; have he := hw2.1; subst he; have HE := num_end HI.out HB.out HF.out hw2; have hcl := HE.1; have HE2 := Lib.hid HE.2; clear HE hw2)))
  go_ret
  exact ⟨rfl, HE2.out⟩
end Go.Proofs.Ytfcndhajcikgiaa.B
namespace Go.Proofs.Ytfcndhajcikgiaa.B
open Go.RowKit Go.Proofs.Sp Go.Proofs.YtfcndhajcikgiaaW.PrintWords
def ReadTake (s : ByteArray) (g q : Nat) (er n : Int) (w : World) (e : Ending) (w' : World) : Prop :=
  e = .returned (.tuple #[]) ∧ if er = 0 then if 0 ≤ n ∧ n ≤ s.size then UpTo (((boxed w g).setCell ⟨q, 0, none⟩ (.string (s.extract 0 n.toNat))).setCell ⟨g, 0, none⟩ (.string (s.extract n.toNat s.size))) w'
    else UpTo ((boxed w g).setCell ⟨g, 1, none⟩ (.int .i64 2)) w'
    else UpTo (boxed w g) w'
theorem ReadTake.kept {s : ByteArray} {g q : Nat} {er n : Int} {w : World} {w' : World} (he : ¬ er = 0) (h : UpTo (boxed w g) w') : ReadTake s g q er n w (.returned (.tuple #[])) w' := ⟨rfl, by rw [if_neg he]; exact h⟩
theorem ReadTake.ok {s : ByteArray} {g q : Nat} {er n : Int} {w : World} {w' : World} (he : er = 0) (hn : 0 ≤ n ∧ n ≤ s.size) (h : UpTo (((boxed w g).setCell ⟨q, 0, none⟩ (.string (s.extract 0 n.toNat))).setCell ⟨g, 0, none⟩ (.string (s.extract n.toNat s.size))) w') : ReadTake s g q er n w (.returned (.tuple #[])) w' := ⟨rfl, by rw [if_pos he, if_pos hn]; exact h⟩
theorem ReadTake.bad {s : ByteArray} {g q : Nat} {er n : Int} {w : World} {w' : World} (he : er = 0) (hn : ¬ (0 ≤ n ∧ n ≤ s.size)) (h : UpTo ((boxed w g).setCell ⟨g, 1, none⟩ (.int .i64 2)) w') : ReadTake s g q er n w (.returned (.tuple #[])) w' := ⟨rfl, by rw [if_pos he, if_neg hn]; exact h⟩
set_option maxRecDepth 100000 in
set_option maxHeartbeats 1000000 in
theorem read_take (s : ByteArray) (g : Nat) (er n : Int) (x : ByteArray) (p q : Nat) (w : World) (hg : w.heap[g]? = some (.cells #[.string s, .int .i64 er] 85 (0, 0))) (hp : w.cell? ⟨p, 0, none⟩ = some (.int .i64 n)) (hpq : ¬ p = q) (hq : w.cell? ⟨q, 0, none⟩ = some (.string x)) (hz : w.frozen? ⟨q, 0, none⟩ = false) (hgq : ¬ g = q) :
    Calls Try.prog 55 #[.pointer (some ⟨g, 0, none⟩), .func (Fn.func 84) #[] #[.pointer (some ⟨p, 0, none⟩), .pointer (some ⟨q, 0, none⟩)]] w fun e w' => ReadTake s g q er n w e w' := by
  have hmf : ∀ (fn : Fn) (first cap : Array Value) (w : World), (Instr.makeFunc fn first cap).run Try.prog w = .ok (.func fn first cap) w := fun _ _ _ _ => rfl
  have hc0 : w.cell? ⟨g, 0, none⟩ = some (.string s) := (blk_cell hg 0).trans rfl
  have hc1 : w.cell? ⟨g, 1, none⟩ = some (.int .i64 er) := (blk_cell hg 1).trans rfl
  have hgl := blk_lt hg
  have hA0 : ∀ o, (w.alloc o).cell? ⟨g, 0, none⟩ = some (.string s) := fun o => (World.cell?_alloc_lt w o ⟨g, 0, none⟩ hgl).trans hc0
  have hA1 : ∀ o, (w.alloc o).cell? ⟨g, 1, none⟩ = some (.int .i64 er) := fun o => (World.cell?_alloc_lt w o ⟨g, 1, none⟩ hgl).trans hc1
  have hF0 : ∀ o, (w.alloc o).frozen? ⟨g, 0, none⟩ = false := fun o => (blk_frozen (blk_alloc hg o) 0)
  have hF1 : ∀ o, (w.alloc o).frozen? ⟨g, 1, none⟩ = false := fun o => (blk_frozen (blk_alloc hg o) 1)
  have hql : q < w.heap.size := lt_of_cell hq
  have hAq : ∀ o, (w.alloc o).cell? ⟨q, 0, none⟩ = some (.string x) := fun o => (World.cell?_alloc_lt w o ⟨q, 0, none⟩ hql).trans hq
  have hAp : ∀ o, (w.alloc o).cell? ⟨p, 0, none⟩ = some (.int .i64 n) := fun o => (World.cell?_alloc_lt w o ⟨p, 0, none⟩ (lt_of_cell hp)).trans hp
  have hFq : ∀ o, (w.alloc o).frozen? ⟨q, 0, none⟩ = false := fun o => by rw [← hz]; exact World.frozen?_of_block (w := w) (Below.heap_alloc w o q hql)
  go_enter_defers Try.func55, Try.ntmps55
  by_cases he : er = 0
  · by_cases hn : 0 ≤ n ∧ n ≤ s.size
    · have hN : ∀ W : World, W.cell? ⟨p, 0, none⟩ = some (.int .i64 n) → W.cell? ⟨q, 0, none⟩ = some (.string x) → W.frozen? ⟨q, 0, none⟩ = false → Calls Try.prog 84 #[.string s, .pointer (some ⟨p, 0, none⟩), .pointer (some ⟨q, 0, none⟩)] W fun e w' => e = .returned (.string (s.extract n.toNat s.size)) ∧ w' = W.setCell ⟨q, 0, none⟩ (.string (s.extract 0 n.toNat)) := fun W h0 h1 h2 =>
        (take_closure s n _ _ x W h0 (by intro h; injection h with h; exact hpq h) h1 h2).mono fun e w' h => by unfold TakePost at h; rw [if_pos hn] at h; exact h
      have HN := Lib.hid hn
      clear hn
      go_wp2
      refine Code.wp_mono (PanicQ.imp (d := { target := .fn (Fn.func 82) #[.pointer (some ⟨w.heap.size, 0, none⟩)], args := #[] })) ?_
      go_region_with (go_at_call 84; refine (hN _ ?_ ?_ ?_).mono ?_; (exact hAp _); (exact hAq _); (exact hFq _); (rintro e w2 ⟨rfl, hw2⟩; have hS0 : w2.cell? ⟨g, 0, none⟩ = some (.string s) := (by rw [hw2]; exact (World.cell?_setCell_other _ _ _ _ (by intro h; injection h with h; exact hgq h.symm)).trans (hA0 _)); have hSF : w2.frozen? ⟨g, 0, none⟩ = false := (by rw [hw2]; exact (World.frozen?_setCell _ _ _ _).trans (hF0 _)); have hT : w2.cell? ⟨w.heap.size, 0, none⟩ = some (.pointer (some ⟨g, 0, none⟩)) := (by rw [hw2]; exact (World.cell?_setCell_other _ _ _ _ (by intro h; injection h with h; omega)).trans (World.cell?_alloc_new w _ _ 0)); have HW := Lib.hid (show UpTo ((boxed w g).setCell ⟨q, 0, none⟩ (.string (s.extract 0 n.toNat))) w2 from ⟨w2.drawn, by rw [hw2]; rfl⟩); clear hw2))
      all_goals exact read_door (ReadTake.ok he HN.out (by obtain ⟨d, rfl⟩ := HW.out; exact ⟨_, rfl⟩))
    · have hN : ∀ W : World, W.cell? ⟨p, 0, none⟩ = some (.int .i64 n) → W.cell? ⟨q, 0, none⟩ = some (.string x) → W.frozen? ⟨q, 0, none⟩ = false → Calls Try.prog 84 #[.string s, .pointer (some ⟨p, 0, none⟩), .pointer (some ⟨q, 0, none⟩)] W fun e w' => e = .panicked [{ v := .iface 106 (.int .i64 2), recovered := false }] ∧ w' = W := fun W h0 h1 h2 =>
        (take_closure s n _ _ x W h0 (by intro h; injection h with h; exact hpq h) h1 h2).mono fun e w' h => by unfold TakePost at h; rw [if_neg hn] at h; exact h
      have HN := Lib.hid hn
      clear hn
      go_wp2
      refine Code.wp_mono (PanicQ.imp (d := { target := .fn (Fn.func 82) #[.pointer (some ⟨w.heap.size, 0, none⟩)], args := #[] })) ?_
      go_region_dies
      all_goals
        refine (hN _ ?_ ?_ ?_).mono ?_
        · exact hAp _
        · exact hAq _
        · exact hFq _
        rintro e w2 ⟨rfl, rfl⟩
        refine ⟨rfl, fun tmps => ?_⟩
        refine read_door_panic (g := g) (x := er) ?_ ?_ ?_ ?_
        · exact World.cell?_alloc_new w _ _ 0
        · exact hA1 _
        · exact hF1 _
        · exact ReadTake.bad rfl HN.out ⟨_, rfl⟩
  · go_wp2
    exact ⟨.tuple #[], read_results _ _, ReadTake.kept he ⟨_, rfl⟩⟩
/-- (*Reader).Take, in the printed form. -/
def pack_Reader_Take.f (s : ByteArray) (er n : Int) : Option (ByteArray × ByteArray × Int) :=
  if er = 0 then (if 0 ≤ n ∧ n ≤ s.size then some (s.extract 0 n.toNat, s.extract n.toNat s.size, 0) else some (⟨#[]⟩, s, 2))
  else some (⟨#[]⟩, s, er)
theorem take_end {w0 w w2 : World} {g : Nat} {s : ByteArray} {er n : Int} {r1 r2 : ByteArray} {r3 : Int} (hI : IsS85 w0 w g s er) (hB : Below w0.heap.size w0 w) (hf : pack_Reader_Take.f s er n = some (r1, r2, r3))
    (hr : ReadTake s g (w.heap.size + 1) er n ((w.alloc (.cells #[.int .i64 n] 3)).alloc (.cells #[.string ⟨#[]⟩] 9)) (.returned (.tuple #[])) w2) :
    w2.cell? ⟨w.heap.size + 1, 0, none⟩ = some (.string r1) ∧ IsS85 w0 w2 g r2 r3 ∧ Below w0.heap.size w0 w2 ∧ KeepBut w w2 g none := by
  have hg0 := hI.ge
  have hgl := hI.lt
  have hbs := hB.size
  have I1 : IsS85 w0 (boxed ((w.alloc (.cells #[.int .i64 n] 3)).alloc (.cells #[.string ⟨#[]⟩] 9)) g) g s er := ((hI.alloc _).alloc _).alloc _
  have B1 : Below w0.heap.size w0 (boxed ((w.alloc (.cells #[.int .i64 n] 3)).alloc (.cells #[.string ⟨#[]⟩] 9)) g) := below_alloc (below_alloc (below_alloc hB _) _) _
  have K1 : KeepBut w (boxed ((w.alloc (.cells #[.int .i64 n] 3)).alloc (.cells #[.string ⟨#[]⟩] 9)) g) g none := keep_alloc (keep_alloc (keep_alloc (KeepBut.refl _ _ _) _) _) _
  have C1 : (boxed ((w.alloc (.cells #[.int .i64 n] 3)).alloc (.cells #[.string ⟨#[]⟩] 9)) g).cell? ⟨w.heap.size + 1, 0, none⟩ = some (.string ⟨#[]⟩) := by
    have h1 := World.cell?_alloc_new (w.alloc (.cells #[.int .i64 n] 3)) #[.string ⟨#[]⟩] 9 0
    rw [World.size_alloc] at h1
    exact (World.cell?_alloc_lt _ _ ⟨w.heap.size + 1, 0, none⟩ (by simp)).trans h1
  obtain ⟨-, hr⟩ := hr
  generalize boxed ((w.alloc (.cells #[.int .i64 n] 3)).alloc (.cells #[.string ⟨#[]⟩] 9)) g = X at I1 B1 K1 C1 hr
  unfold pack_Reader_Take.f at hf
  by_cases he : er = 0
  · subst he
    rw [if_pos rfl] at hf hr
    by_cases hn : 0 ≤ n ∧ n ≤ s.size
    · rw [if_pos hn] at hf hr
      simp only [Option.some.injEq, Prod.mk.injEq] at hf
      obtain ⟨rfl, rfl, rfl⟩ := hf
      have hq : ¬ g = w.heap.size + 1 := by omega
      refine ⟨?_, hr.isS ?_, hr.below ?_, hr.keep ?_⟩
      · rw [hr.cell, World.cell?_setCell_other _ _ _ _ (by intro h; injection h with h; exact hq h)]
        exact World.cell?_setCell_same _ _ _ C1
      · exact (I1.far (p := ⟨w.heap.size + 1, 0, none⟩) hq _).set_0 _
      · exact below_set (g := g) (j := 0) (below_set (g := w.heap.size + 1) (j := 0) B1 (by omega)) hg0
      · exact KeepBut.set_ (keep_far K1 (p := ⟨w.heap.size + 1, 0, none⟩) (Nat.le_succ _) _) _ _
    · rw [if_neg hn] at hf hr
      simp only [Option.some.injEq, Prod.mk.injEq] at hf
      obtain ⟨rfl, rfl, rfl⟩ := hf
      refine ⟨?_, hr.isS (I1.set_1 _), hr.below (below_set (g := g) (j := 1) B1 hg0), hr.keep (K1.set_ _ _)⟩
      rw [hr.cell, World.cell?_setCell_other _ _ _ _ (by intro h; injection h with h; omega)]
      exact C1
  · rw [if_neg he] at hf hr
    simp only [Option.some.injEq, Prod.mk.injEq] at hf
    obtain ⟨rfl, rfl, rfl⟩ := hf
    exact ⟨(hr.cell _).trans C1, hr.isS I1, hr.below B1, hr.keep K1⟩
theorem take_cell (w : World) (n : Int) : ((w.alloc (.cells #[.int .i64 n] 3)).alloc (.cells #[.string ⟨#[]⟩] 9)).cell? ⟨w.heap.size + 1, 0, none⟩ = some (.string ⟨#[]⟩) := by
  have h1 := World.cell?_alloc_new (w.alloc (.cells #[.int .i64 n] 3)) #[.string ⟨#[]⟩] 9 0
  rw [World.size_alloc] at h1
  exact h1
theorem take_frozen (w : World) (n : Int) : ((w.alloc (.cells #[.int .i64 n] 3)).alloc (.cells #[.string ⟨#[]⟩] 9)).frozen? ⟨w.heap.size + 1, 0, none⟩ = false := by
  have h1 := World.frozen?_alloc_new (w.alloc (.cells #[.int .i64 n] 3)) #[.string ⟨#[]⟩] 9 0
  rw [World.size_alloc] at h1
  exact h1
set_option maxRecDepth 100000 in
set_option maxHeartbeats 1000000 in
theorem pack_Reader_Take.calls (g : Nat) (s : ByteArray) (er n : Int) (r1 : ByteArray) (r2 : ByteArray) (r3 : Int) (w0 w : World) (hI : IsS85 w0 w g s er) (hB : Below w0.heap.size w0 w) (h : pack_Reader_Take.f s er n = some (r1, r2, r3)) :
    Calls Try.prog 61 #[.pointer (some ⟨g, 0, none⟩), .int .i64 n] w fun e w' => e = .returned (.string r1) ∧ IsS85 w0 w' g r2 r3 ∧ Below w0.heap.size w0 w' ∧ KeepBut w w' g none := by
  have hmf : ∀ (fn : Fn) (first cap : Array Value) (w : World), (Instr.makeFunc fn first cap).run Try.prog w = .ok (.func fn first cap) w := fun _ _ _ _ => rfl
  have HI := Lib.hid hI
  have HB := Lib.hid hB
  have HF := Lib.hid h
  clear hI hB h
  go_enter Try.func61, Try.ntmps61
  have hgl := Lib.hid HI.out.lt
  go_wp2_with (go_at_call 55; go_loud (refine (read_take s g er n ⟨#[]⟩ _ _ _ ?_ ?_ ?_ ?_ ?_ ?_).mono ?_; (exact blk_alloc (blk_alloc HI.out.1 _) _); (exact (World.cell?_alloc_lt _ _ ⟨w.heap.size, 0, none⟩ (by simp)).trans (World.cell?_alloc_new w _ _ 0)); (omega); (exact take_cell w n); (exact take_frozen w n); (have := hgl.out; omega); (rintro e w2 hw2; have he := hw2.1; subst he; have HE := take_end HI.out HB.out HF.out hw2; have hcl := HE.1; have HE2 := Lib.hid HE.2; clear HE hw2)))
  go_ret
  exact ⟨rfl, HE2.out⟩
end Go.Proofs.Ytfcndhajcikgiaa.B
namespace Go.Proofs.Ytfcndhajcikgiaa.B
open Go.RowKit Go.Shelf Go.Proofs.Sp
attribute [local go_sem] Oper.semAt_some
/-- What has come when k rounds are over. -/
def upto {α : Type} (f : Nat → α) (k : Nat) : List α := (List.range k).map f
theorem upto_succ {α : Type} (f : Nat → α) (k : Nat) : upto f (k + 1) = upto f k ++ [f k] := by simp [upto, List.range_succ]
theorem upto_length {α : Type} (f : Nat → α) (k : Nat) : (upto f k).length = k := by simp [upto]
/-- The k-th that comes: the place, the byte. -/
def backF (c : Nat → UInt8) (len k : Nat) : Nat × UInt8 := (len - 1 - k, c (len - 1 - k))
abbrev backE (x : Nat × UInt8) : Array Value := #[.int .i64 (x.1 : Int), .int .u8 (x.2.toNat : Int)]
/-- What lay below n lies as it lay, but for block B. -/
def KeptBut (B n : Nat) (W W' : World) : Prop := ∀ i, i < n → i ≠ B → W'.heap[i]? = W.heap[i]?
theorem KeptBut.refl (B n : Nat) (W : World) : KeptBut B n W W := fun _ _ _ => rfl
theorem KeptBut.trans {B n : Nat} {a b c : World} (h : KeptBut B n a b) (k : KeptBut B n b c) : KeptBut B n a c := fun i hi hB => (k i hi hB).trans (h i hi hB)
theorem KeptBut.cell {B n : Nat} {W W' : World} (h : KeptBut B n W W') {p : Addr} (hp : p.block < n) (hB : p.block ≠ B) : W'.cell? p = W.cell? p := World.cell?_of_block (w := W) (h p.block hp hB)
theorem KeptBut.below {B n : Nat} {W W' : World} (h : Below n W W') : KeptBut B n W W' := fun i hi _ => h.block i hi
set_option maxRecDepth 100000 in
set_option maxHeartbeats 2000000 in
theorem back1_in (F : Fence) (n : Nat) (h8 : F.fn 92) (hro : F.round = none) (hn : 1 ≤ n) (l Bs n₀ B b len cap : Nat) (c : Nat → UInt8) (hreach : len ≤ 140737488351232) (hb : b < n₀) (hbB : b ≠ B) (J Jx : List (Nat × UInt8) → World → Prop)
    (hY : ∀ pre x W, J pre W → pre.length < len → YieldAt F (n - 1) Try.prog l #[.int .i64 (x.1 : Int), .int .u8 (x.2.toNat : Int)] W fun e W' =>
      (e = .returned (.bool true) ∧ J (pre ++ [x]) W' ∧ KeptBut B n₀ W W') ∨ (e = .returned (.bool false) ∧ Jx (pre ++ [x]) W'))
    (W : World) (hBs : W.cell? ⟨Bs, 0, none⟩ = some (.slice (some ⟨b, 0, none⟩) len cap)) (hBs' : Bs < n₀) (hBsB : Bs ≠ B) (hc : ∀ j, j < len → W.cell? ⟨b, j, none⟩ = some (.int .u8 ((c j).toNat : Int))) (h0 : J [] W) :
    CallsIn F n Try.prog 92 #[.func (.yield l) #[] #[], .pointer (some ⟨Bs, 0, none⟩)] W fun e W' => (∃ v, e = .returned v) ∧
      ((∃ ys, ys = upto (backF c len) len ∧ J ys W') ∨ (∃ pre, (∃ k, k ≤ len ∧ pre = upto (backF c len) k) ∧ Jx pre W')) := by
  refine callsIn_of_wp Try.func92 rfl h8 ?_ hro
  simp only [Try.ntmps92, List.size_toArray, List.length_cons, List.length_nil, Nat.reduceAdd, Nat.reduceSub, Array.replicate_succ, Array.replicate_zero, List.push_toArray, List.append_toArray, List.nil_append, List.cons_append]
  gi_wp2
  gi_loopw [3] (fun i wr => ∃ j : Nat, j ≤ len ∧ i = .int .i64 ((j : Int) - 1) ∧ J (upto (backF c len) (len - j)) wr ∧ KeptBut B n₀ W wr)
    (fun i _ => (intOf i + 1).toNat)
  case atStart => exact ⟨len, Nat.le_refl _, by simp, by rw [Nat.sub_self]; exact h0, KeptBut.refl _ _ _⟩
  case round =>
    obtain ⟨j, hj, rfl, hJs, hnx⟩ := hrel
    have hbs := (hnx.cell (p := ⟨Bs, 0, none⟩) hBs' hBsB).trans hBs
    cases j with
    | zero =>
      gi_wp2
      go_end0
      exact ⟨⟨_, rfl⟩, .inl ⟨_, rfl, by simpa using hJs⟩⟩
    | succ m =>
      have hcx : wr.cell? ⟨b, m, none⟩ = some (.int .u8 ((c m).toNat : Int)) := (hnx.cell (p := ⟨b, m, none⟩) hb hbB).trans (hc m (by omega))
      have hf : backF c len (len - (m + 1)) = (m, c m) := by unfold backF; rw [show len - 1 - (len - (m + 1)) = m by omega]
      obtain ⟨fn, tmps, assign, body, hy, hR⟩ := hY _ (m, c m) wr hJs (by rw [upto_length]; omega)
      dsimp only at hy
      have hm1 : (((m + 1 : Nat) : Int) - 1) = m := by omega
      rw [hm1]
      gi_wp2
      refine hR.mono ?_
      rintro e W3 (⟨rfl, hJ3, hk3⟩ | ⟨rfl, hJx3⟩)
      · gi_wp2
        go_roundw
        case rel => exact ⟨m, by omega, rfl, by rw [show len - m = len - (m + 1) + 1 by omega, upto_succ, hf]; exact hJ3, hnx.trans hk3⟩
        case measure => simp [intOf]
      · gi_wp2
        refine bodyPost_ret (results_none rfl _ _ _) rfl ?_
        exact ⟨⟨_, rfl⟩, .inr ⟨_, ⟨len - m, by omega, by rw [show len - m = len - (m + 1) + 1 by omega, upto_succ, hf]⟩, hJx3⟩⟩
set_option maxHeartbeats 1000000 in
theorem back_in (F : Fence) (n : Nat) (h5 : F.fn 85) (hro : F.round = none) (a : Option Addr) (len cap : Nat) (w : World) :
    CallsIn F n Try.prog 85 #[.slice a len cap] w fun e w' => e = .returned (.func (.func 92) #[] #[.pointer (some ⟨w.heap.size, 0, none⟩)]) ∧ w' = w.alloc (.cells #[.slice a len cap] 42) := by
  refine callsIn_of_wp Try.func85 rfl h5 ?_ hro
  simp only [Try.ntmps85, List.size_toArray, List.length_cons, List.length_nil, Nat.reduceAdd, Nat.reduceSub, Array.replicate_succ, Array.replicate_zero, List.push_toArray, List.append_toArray, List.nil_append, List.cons_append]
  gi_wp2
  go_ret
  exact ⟨rfl, rfl⟩
theorem back_stops (F : Fence) (n : Nat) (h8 : F.fn 92) (hro : F.round = none) (hn : 1 ≤ n) (Bs n₀ B b len cap : Nat) (c : Nat → UInt8) (hreach : len ≤ 140737488351232) (hb : b < n₀) (hbB : b ≠ B) (w : World) (hn₀ : n₀ ≤ w.heap.size)
    (hBs : w.cell? ⟨Bs, 0, none⟩ = some (.slice (some ⟨b, 0, none⟩) len cap)) (hBs' : Bs < n₀) (hBsB : Bs ≠ B) (hc : ∀ j, j < len → w.cell? ⟨b, j, none⟩ = some (.int .u8 ((c j).toNat : Int))) :
    SeqStopsK F n Try.prog 92 #[.pointer (some ⟨Bs, 0, none⟩)] backE (KeptBut B n₀) (fun ys => ys = upto (backF c len) len) (fun pre => ∃ k, k ≤ len ∧ pre = upto (backF c len) k) len w := fun l J Jx W hW _ _ hY h0 =>
  back1_in F n h8 hro hn l Bs n₀ B b len cap c hreach hb hbB J Jx hY W ((hW.cell (p := ⟨Bs, 0, none⟩) (Nat.lt_of_lt_of_le hBs' hn₀)).trans hBs) hBs' hBsB (fun j hj => (hW.cell (p := ⟨b, j, none⟩) (Nat.lt_of_lt_of_le hb hn₀)).trans (hc j hj)) h0
theorem kept_t {B n : Nat} {a b c : World} (h : KeptBut B n a b) (k : KeptBut B n b c) : KeptBut B n a c := h.trans k
theorem kept_b {B n : Nat} {w : World} (hn : n ≤ w.heap.size) (W : World) (l : Nat) (o o' : Obj) (hl : w.heap.size ≤ l) (h : W.heap[l]? = some o) (h2 : o.isCells = false) (h3 : o.isWalk = false) : KeptBut B n W (W.putObj l o') :=
  KeptBut.below (belowK_b hn W l o o' hl h h2 h3)
end Go.Proofs.Ytfcndhajcikgiaa.B
namespace Go.Proofs.Ytfcndhajcikgiaa.B
open Go.RowKit Go.Shelf Go.Proofs.Sp Go.Proofs.YtfcndhajcikgiaaW.PrintWords
attribute [local go_sem] Oper.semAt_some
/-- The number that came so far. -/
def backV (pre : List (Nat × UInt8)) : Nat := pre.foldl (fun x p => x * 256 + p.2.toNat) 0
theorem backV_snoc (pre : List (Nat × UInt8)) (x : Nat × UInt8) : backV (pre ++ [x]) = backV pre * 256 + x.2.toNat := by simp [backV]
theorem backV_lt (f : Nat → Nat × UInt8) : ∀ k, backV (upto f k) < 256 ^ k
  | 0 => by simp [upto, backV]
  | k + 1 => by rw [upto_succ, backV_snoc, Nat.pow_succ]; have := backV_lt f k; have := (f k).2.toNat_lt; omega
theorem back_step {v : Nat} {c : UInt8} (hv : v < 72057594037927936) :
    bits .or .u64 ((v : Int) * 256) (IntKind.u64.wrap (c.toNat : Int)) = ((v * 256 + c.toNat : Nat) : Int) := by
  have hc := c.toNat_lt
  have e1 : ((v : Int) * 256) = ((v * 256 : Nat) : Int) := by omega
  have e2 : IntKind.u64.wrap (c.toNat : Int) = ((c.toNat : Nat) : Int) := by
    simp [IntKind.wrap, IntKind.bits, IntKind.signed]; omega
  rw [e1, e2, u64_or_nat _ _ (by omega) (by omega)]
  congr 1
  rw [show v * 256 = 2 ^ 8 * v by omega, Nat.two_pow_add_eq_or_of_lt hc]
/-- (*Reader).Fix, in the printed form. -/
def pack_Reader_Fix.f (s : ByteArray) (er : Int) : Option (Int × ByteArray × Int) :=
  (pack_Reader_Take.f s er 8).bind fun t => some ((backV (upto (backF (fun j => t.1.data.toList.getD j 0) t.1.size) t.1.size) : Nat), t.2.1, t.2.2)
set_option maxRecDepth 100000 in
set_option maxHeartbeats 2000000 in
theorem pack_Reader_Fix.calls (g : Nat) (s : ByteArray) (er : Int) (r1 : Int) (r2 : ByteArray) (r3 : Int) (w0 w : World) (hI : IsS85 w0 w g s er) (hB : Below w0.heap.size w0 w) (h : pack_Reader_Fix.f s er = some (r1, r2, r3)) :
    Calls Try.prog 62 #[.pointer (some ⟨g, 0, none⟩)] w fun e w' => e = .returned (.int .u64 r1) ∧ IsS85 w0 w' g r2 r3 ∧ Below w0.heap.size w0 w' ∧ KeepBut w w' g none := by
  obtain ⟨⟨t, r2', r3'⟩, ht, h⟩ := Option.bind_eq_some_iff.mp h
  simp only [Option.some.injEq, Prod.mk.injEq] at h
  obtain ⟨hr1, rfl, rfl⟩ := h
  have kb := fun W => print_bytes (P := Try.prog) 9 42 5 Try.underlying9 Try.underlying42 Try.underlying5 t W
  have HI := Lib.hid hI
  have HB := Lib.hid hB
  have HT := Lib.hid ht
  have HR := Lib.hid hr1
  clear hI hB ht hr1
  refine (callsIn_wide (n := 5)).1 ?_
  refine callsIn_of_wp_marks Try.func62 rfl trivial ?_ rfl
  simp only [Try.ntmps62, List.size_toArray, List.length_cons, List.length_nil, Nat.reduceAdd, Nat.reduceSub, Array.replicate_succ, Array.replicate_zero, List.push_toArray, List.append_toArray, List.nil_append, List.cons_append]
  gi_wp2_with (first
    | (refine ⟨trivial, ?_⟩; gi_at_call 61; refine (callsIn_wide.2 (pack_Reader_Take.calls g s er 8 t r2' r3' w0 _ (HI.out.alloc _) (below_alloc HB.out _) HT.out)).mono ?_; rintro e w2 ⟨rfl, hw2⟩; have HW := Lib.hid hw2; clear hw2)
    | (refine ⟨trivial, ?_⟩; gi_at_call 85; refine (back_in _ _ trivial rfl _ _ _ _).mono ?_; rintro e w' ⟨rfl, rfl⟩))
  have hgl := HI.out.lt
  have hk := HW.out.2.2
  have hsz : w.heap.size + 1 ≤ w2.heap.size := by have := hk.1; rw [World.size_alloc] at this; exact this
  have hB2 : w2.heap[w.heap.size]? = some (.cells #[.int .u64 0] 52 (0, 0)) := by
    rw [hk.2 w.heap.size (by simp) (by omega) (by simp)]; exact heap_alloc_new w _
  rw [Lib.bytesWorld_size]
  obtain ⟨cp, hcp⟩ : ∃ cp, cp = grownCap w2 t.size 0 5 := ⟨_, rfl⟩
  rw [← hcp]
  obtain ⟨W3, hW3⟩ : ∃ W3, W3 = (Lib.bytesWorld w2 5 t).alloc (.cells #[.slice (some ⟨w2.heap.size, 0, none⟩) t.size cp] 42) := ⟨_, rfl⟩
  rw [← hW3]
  have hs3 : W3.heap.size = w2.heap.size + 2 := by rw [hW3, World.size_alloc, Lib.bytesWorld_size]
  have hb3 : Below w2.heap.size w2 W3 := by rw [hW3]; exact (bytes_below (Below.refl _ _) (Nat.le_refl _) _ _).alloc (by rw [Lib.bytesWorld_size]; omega) _
  have hcB : W3.heap[w.heap.size]? = some (.cells #[.int .u64 0] 52 (0, 0)) := (hb3.block _ (by omega)).trans hB2
  have hcs : W3.cell? ⟨w2.heap.size + 1, 0, none⟩ = some (.slice (some ⟨w2.heap.size, 0, none⟩) t.size cp) := by
    have := World.cell?_alloc_new (Lib.bytesWorld w2 5 t) #[.slice (some ⟨w2.heap.size, 0, none⟩) t.size cp] 42 0
    rw [Lib.bytesWorld_size] at this
    rw [hW3]; exact this
  have hcb : ∀ j, j < t.size → W3.cell? ⟨w2.heap.size, j, none⟩ = some (.int .u8 ((t.data.toList.getD j 0).toNat : Int)) := by
    intro j hj
    rw [hW3, World.cell?_alloc_lt _ _ ⟨w2.heap.size, j, none⟩ (by rw [Lib.bytesWorld_size]; exact Nat.lt_succ_self _)]
    exact Lib.bytesWorld_cell _ _ _ j hj
  have hts : t.size ≤ 8 := by
    have h1 := HT.out
    unfold pack_Reader_Take.f at h1
    split at h1
    · split at h1
      · rename_i hq
        simp only [Option.some.injEq, Prod.mk.injEq] at h1
        rw [← h1.1, ByteArray.size_extract]; omega
      · simp only [Option.some.injEq, Prod.mk.injEq] at h1
        rw [← h1.1]; decide
    · simp only [Option.some.injEq, Prod.mk.injEq] at h1
      rw [← h1.1]; decide
  clear kb hcp
  refine wpIn_rangeFunc_ownG (F := Fence.wide) (n := 5) rfl (by decide) (gf := 92) (lb := #[.pointer (some ⟨w2.heap.size + 1, 0, none⟩)]) rfl trivial (enters_of Try.func92 (by kernel_rfl) rfl)
    (back_stops Fence.wide 4 trivial rfl (by decide) (w2.heap.size + 1) W3.heap.size w.heap.size w2.heap.size t.size cp (fun j => t.data.toList.getD j 0) (by omega) (by omega) (by omega) W3 (Nat.le_refl _) hcs (by omega) (by omega) hcb) kept_t (kept_b (Nat.le_refl _)) (Below.refl _ _) (fun _ => rfl)
    (fun pre W => ((W.cell? ⟨w.heap.size, 0, none⟩ = some (.int .u64 (backV pre : Nat)) ∧ W.frozen? ⟨w.heap.size, 0, none⟩ = false) ∧ backV pre < 256 ^ pre.length) ∧ Below w.heap.size W3 W)
    (fun _ _ _ => False)
    (OwnFrom.and (Own.from (fun s A B row hs hg hr => ⟨⟨cell_kept hs.1.1 hg hr, (frozen_kept hs.1.1 hg hr).trans hs.1.2⟩, hs.2⟩) _) (ownFrom_below (by omega) (by omega)))
    (fun _ _ _ _ _ hs _ _ => hs)
    ⟨⟨⟨(blk_cell hcB 0).trans rfl, blk_frozen hcB 0⟩, by decide⟩, Below.refl _ _⟩
    (fun x => { tmps := #[.pointer (some ⟨g, 0, none⟩), undef, .int .u64 0, .pointer (some ⟨w.heap.size, 0, none⟩), undef, .int .u8 (x.2.toNat : Int), .pointer (some ⟨g, 0, none⟩), .string t, .slice (some ⟨w2.heap.size, 0, none⟩) t.size cp, .func (.func 92) #[] #[.pointer (some ⟨w2.heap.size + 1, 0, none⟩)], .int .i64 (x.1 : Int), .int .u8 (x.2.toNat : Int), undef, undef, undef, undef, undef, undef], defers := [] }) ?assign ?body ?done ?stop
  case assign =>
    intro l x W K hK
    gi_wp2
    exact hK
  case body =>
    rintro l pre x W ⟨⟨⟨hc, hf⟩, hv⟩, hB'⟩ hl
    have hv' : backV pre < 72057594037927936 := Nat.lt_of_lt_of_le hv (Nat.le_trans (Nat.pow_le_pow_right (by decide) (show pre.length ≤ 7 by omega)) (by decide))
    have HV := Lib.hid hv
    clear hv
    gi_wp2
    have hn : backV (pre ++ [x]) < 256 ^ (pre ++ [x]).length := by
      rw [backV_snoc, List.length_append, List.length_singleton, Nat.pow_succ]
      have := x.2.toNat_lt; have := HV.out; omega
    refine ⟨(KeepsOthers.setCell _ _ _).from _, fun i _ hi => Below.heap_setCell _ _ _ i hi, ⟨⟨?_, by rw [World.frozen?_setCell]; exact hf⟩, hn⟩, hB'.setCell (p := ⟨w.heap.size, 0, none⟩) (Nat.le_refl _) _⟩
    rw [backV_snoc, back_step hv']
    exact World.cell?_setCell_same' _ _ _ (by rw [hc]; rfl)
  case done =>
    rintro D ys W hD rfl ⟨⟨⟨hc, _⟩, _⟩, hB'⟩ hK
    rw [HR.out] at hc
    gi_wp2
    refine ⟨by simp, .inl ⟨_, _, rfl, run_takeDeferred hK, ?_⟩⟩
    have hB4 := hB'.trans (belowK_b (n₀ := w.heap.size) (w := W3) (by omega) W D _ (.deferred none) hD hK rfl rfl)
    have hw0 := HB.out.size
    refine ⟨_, results_tmp rfl _ _ _, rfl, ⟨?_, HW.out.1.2⟩, ?_, ?_⟩
    · rw [hB4.block g hgl, hb3.block g (by omega)]; exact HW.out.1.1
    · exact (HW.out.2.1.trans (hb3.mono (by omega))).trans (hB4.mono hw0)
    · refine ⟨?_, fun i hi hig hr => ?_⟩
      · have := hB4.size; omega
      · rw [hB4.block i hi, hb3.block i (by omega), hk.2 i (by simp; omega) hig hr]
        exact Below.heap_alloc _ _ _ hi
  case stop =>
    rintro D c pre W _ _ h _
    exact h.elim
end Go.Proofs.Ytfcndhajcikgiaa.B
