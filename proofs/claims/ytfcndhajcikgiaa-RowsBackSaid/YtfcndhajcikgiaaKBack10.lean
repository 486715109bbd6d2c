/- RowsBack: for every input the law returns true, and the input reads behind the call as it read before. (Part 10 of 10.) -/
import Derived.Test.YtfcndhajcikgiaaKBack9
import Derived.Test.YtfcndhajcikgiaaRows
set_option linter.unusedVariables false
set_option linter.unusedSimpArgs false
namespace Go.Proofs.Ytfcndhajcikgiaa.B
open Go.RowKit Go.Proofs.Sp Go.Proofs.Fl Go.Proofs.YtfcndhajcikgiaaW.PrintWords Go.Proofs.YtfcndhajcikgiaaW.PrintLast Go.Proofs.YtfcndhajcikgiaaW.PrintMore
def m0 : S30 := ⟨⟨5, 2⟩, 0, 300, ⟨#[97]⟩, 4607182418800017408⟩
def liveL : List UInt8 := [66, 78, 83, 73, 1, 1, 5, 2, 0, 172, 2, 1, 97, 0, 0, 0, 0, 0, 0, 240, 63]
def liveO : List UInt8 := [5, 2, 0, 172, 2, 1, 97, 0, 0, 0, 0, 0, 0, 240, 63]
theorem valid_a : validS [97] = true := by
  unfold validS
  rw [stopAt, show headS (97 : UInt8).toNat = some (0, 128, 191) from rfl]
  simp [tailOk, stopAt]
theorem one_m0 : oneM m0 = true := by
  unfold oneM oneB
  rw [show m0.f3.data.toList = [97] from rfl, valid_a]
  decide
theorem may_m0 : mayM [m0] = true := by
  unfold mayM
  rw [List.all_cons, one_m0]
  rfl
theorem ranks_m0 : Ranks [m0] := fun x hx => by
  obtain rfl := List.mem_singleton.1 hx
  decide
theorem enc_m0 : encX m0 = liveO := by decide +kernel
theorem file_m0 : fileX [m0] = liveL := by
  unfold fileX
  rw [List.flatMap_cons, enc_m0]
  decide +kernel
theorem live_encode : rows_Encode.f [m0] = some (ba liveL, 0) := by rw [encode_f ranks_m0, if_pos may_m0, file_m0]
theorem live_zero : rows_Encode.f [z30] = some (⟨#[]⟩, 1) := by
  unfold rows_Encode.f
  rw [if_neg (by decide)]
theorem live_one : rows_One.f 5 2 0 300 ⟨#[97]⟩ 4607182418800017408 = some (ba liveO) := by
  have := one_f_ (x := m0) (by decide) (by decide)
  rw [enc_m0] at this; exact this
theorem mayS_m0 : MayS [toS m0] := may_toS ranks_m0 may_m0
theorem body_m0 : headL ++ bodyS [toS m0] = liveL := by
  rw [← file_m0]
  unfold fileX bodyS
  rw [flat_enc [m0] (fun x hx => by obtain rfl := List.mem_singleton.1 hx; exact one_m0)]
  rfl
theorem live_dec {S : ByteArray} (h : S = ba liveL) : decE S = 0 ∧ decM S = [toS m0] := by
  have := decodeX_fwd (S := S) (ms := [toS m0]) (r := []) (by rw [h]; decide) mayS_m0 (by rw [h, List.append_nil, body_m0]; rfl)
  rw [if_pos rfl] at this
  unfold decE decM
  rw [this]; exact ⟨rfl, rfl⟩
theorem live_x {S : ByteArray} (h : S.data.toList = liveL ++ [120]) : decE S = 5 := by
  have hz : S.size = 22 := by rw [← len_size, h]; rfl
  have := decodeX_fwd (S := S) (ms := [toS m0]) (r := [120]) (by omega) mayS_m0 (by rw [h, ← body_m0, List.append_assoc])
  rw [if_neg (by decide)] at this
  unfold decE
  rw [this]
theorem live_version : decE ⟨#[66, 78, 83, 73, 2, 0]⟩ = 8 := by decide +kernel
theorem live_magic : decE ⟨#[66, 78, 83, 88]⟩ = 7 := by decide +kernel
theorem live_none : decE ⟨#[66, 78, 83, 73, 1, 0]⟩ = 0 ∧ decM ⟨#[66, 78, 83, 73, 1, 0]⟩ = [] := by
  have := decodeX_fwd (S := ⟨#[66, 78, 83, 73, 1, 0]⟩) (ms := []) (r := []) (by decide) ⟨rfl, by decide, fun _ h => by cases h⟩ rfl
  rw [if_pos rfl] at this
  unfold decE decM
  rw [this]; exact ⟨rfl, rfl⟩
theorem live_order {S : ByteArray} (h : S.data.toList = [66, 78, 83, 73, 1, 2] ++ (liveO ++ liveO)) : decE S = 12 := by
  have hz : S.size = 36 := by rw [← len_size, h]; rfl
  obtain ⟨hv, h5⟩ := one_verS (S := S) (by rw [h]; rfl)
  have hok : OkM (toS m0) := ok_one (by decide) one_m0
  have he : encM (toS m0) = liveO := by rw [← encX_enc one_m0, enc_m0]
  have hx : (S.extract 5 S.size).data.toList = putL 2 ++ (encM (toS m0) ++ (encM (toS m0) ++ [])) := by
    rw [extract_list, List.take_of_length_le (by rw [List.length_drop, len_size]; omega), h, he]; rfl
  have hS : S.size ≤ 140737488355328 := by omega
  obtain ⟨s1, h1, l1⟩ := numR_fwd (v := 2) (by omega) hx
  have f1 := numR_suf (q := (S.extract 5 S.size, 0)) (Suf.from S 5 h5)
  rw [h1] at f1
  obtain ⟨s2, h2, l2, f2⟩ := moveR_fwd hS f1 hok l1
  obtain ⟨s3, h3, l3, f3⟩ := moveR_fwd hS f2 hok l2
  have hd : decodeX S = .error 12 := by
    unfold decodeX
    rw [hv]
    unfold decodeR
    rw [if_neg (fun hc => hc rfl), if_neg (fun hc => hc rfl), h1]
    dsimp only
    rw [if_neg (fun hc => hc rfl), if_neg (by decide)]
    have hm : movesR S 2 [] (s1, 0) = .error 12 := by
      rw [movesR, h2]
      dsimp only [List.getLast?_nil]
      rw [movesR, h3]
      rfl
    rw [show (((2 : Nat) : Int)).toNat = 2 from rfl, hm]
  unfold decE
  rw [hd]
end Go.Proofs.Ytfcndhajcikgiaa.B
namespace Go.Proofs.Ytfcndhajcikgiaa.B
open Go.RowKit Go.Proofs.Sp Go.Proofs.Fl Go.Proofs.YtfcndhajcikgiaaW.PrintWords Go.Proofs.YtfcndhajcikgiaaW.PrintLast Go.Proofs.YtfcndhajcikgiaaW.PrintMore
theorem one_C {W : World} {B : Nat} (x : S30) (h : W.heap[B]? = some (.cells #[.int .i64 x.f0.f0, .int .i64 x.f0.f1, .int .i64 x.f1, .int .i64 x.f2, .string x.f3, .float .f64 x.f4] 30 (0, 0))) : Kd.C k30 W (some ⟨B, 0, none⟩) [x].length [x] := by
  refine ⟨rfl, (show 1 ≤ 9223372036854775807 by decide), fun _ => ⟨_, rfl, fun j p hj => ?_⟩⟩
  match j, hj with
  | 0, hj =>
    injection hj with hj
    subst hj
    refine ⟨_, rfl, k30_mk W x, fun i u hi => ?_⟩
    have := blk_cell h i
    rw [show (0 * k30.sz + i) = i by omega]
    refine Eq.trans ?_ (this.trans (by simpa using hi))
    by_cases hi0 : i = 0
    · subst hi0; rfl
    · simp [Addr.add, hi0]
theorem cat_step {w W W1 : World} {B : Nat} {o : Obj} {A : Option Addr} {n : Nat} {xs : List S30} (h1 : Below w.heap.size w W) (h2 : W.heap[B]? = some o) (h3 : Kd.C k30 W A n xs) (hb : Below W.heap.size W W1) :
    Below w.heap.size w W1 ∧ W1.heap[B]? = some o ∧ Kd.C k30 W1 A n xs :=
  ⟨h1.trans (hb.mono h1.size), (hb.block B (blk_lt h2)).trans h2, Kd.C_below h3 hb⟩
theorem DecPost.open_ {S : ByteArray} {w w' : World} {e : Ending} (h : DecPost S w e w') {er : Int} (he : decE S = er) :
    ∃ A c xs, e = .returned (.tuple #[.slice A xs.length c, .int .i64 er]) ∧ Kd.C k30 w' A xs.length xs ∧ xs.length ≤ c ∧ xs.map toS = decM S ∧ Ranks xs ∧ Below w.heap.size w w' := by
  subst he; exact h
set_option maxRecDepth 100000 in
set_option maxHeartbeats 4000000 in
theorem live_calls (w : World) : Calls Try.prog 8 #[] w fun e w' => e = .returned (.bool true) ∧ Below w.heap.size w w' := by
  obtain ⟨s, hs⟩ : ∃ s, s = ba liveL := ⟨_, rfl⟩
  have HE1 := Lib.hid (show rows_Encode.f [m0] = some (s, 0) by rw [hs]; exact live_encode)
  have HS := Lib.hid hs
  have HZ1 := Lib.hid (show s.size ≤ 140737488355328 by rw [hs]; decide)
  have HZ2 := Lib.hid (show (⟨#[66, 78, 83, 73, 2, 0]⟩ : ByteArray).size ≤ 140737488355328 by decide)
  have HZ5 := Lib.hid (show (⟨#[66, 78, 83, 73, 1, 0]⟩ : ByteArray).size ≤ 140737488355328 by decide)
  have HZ6 := Lib.hid (show (⟨#[66, 78, 83, 88]⟩ : ByteArray).size ≤ 140737488355328 by decide)
  have HZ3 := Lib.hid (show (s ++ ⟨#[120]⟩).size ≤ 140737488355328 by rw [ByteArray.size_append, hs]; decide)
  clear hs
  have hcat : (9223372036854775807 < s.size + 1) = False := eq_false (by have := HZ1.out; omega)
  go_enter Try.func8, Try.ntmps8
  have HB0 := Lib.hid (heap_alloc_new w (.cells #[.int .i64 5, .int .i64 2, .int .i64 0, .int .i64 300, .string ⟨#[97]⟩, .float .f64 4607182418800017408] 30))
  go_wp2_with (go_at_call 11; refine (rows_Encode.calls (some ⟨w.heap.size, 0, none⟩) 1 [m0] s 0 _ (one_C m0 HB0.out) (by decide) HE1.out).mono ?_; rintro e w1 ⟨rfl, hb⟩; have B1 := Lib.hid ((below_alloc (Below.refl w.heap.size w) (.cells #[.int .i64 5, .int .i64 2, .int .i64 0, .int .i64 300, .string ⟨#[97]⟩, .float .f64 4607182418800017408] 30)).trans (hb.mono (by simp))); have M1 := Lib.hid ((hb.block w.heap.size (by simp)).trans HB0.out); clear hb HB0 HE1)
  go_wp2_with (go_at_call 13; (with_reducible refine (rows_Decode.file s _ HZ1.out).mono ?_); rintro e w2 hd; obtain ⟨A2, c2, xs2, rfl, hC, hcl, hm, hrk, hb⟩ := hd.open_ (live_dec HS.out).1; have B2 := Lib.hid (B1.out.trans (hb.mono B1.out.size)); have M2 := Lib.hid ((hb.block w.heap.size (blk_lt M1.out)).trans M1.out); have C2 := Lib.hid hC; have K2 := Lib.hid (And.intro hcl (And.intro (hm.trans (live_dec HS.out).2) hrk)); clear hd hC hcl hm hrk hb)
  go_wp2_with (go_at_call 13; (with_reducible refine (rows_Decode.file ⟨#[66, 78, 83, 73, 2, 0]⟩ _ HZ2.out).mono ?_); rintro e w3 hd; obtain ⟨A3, c3, xs3, rfl, hC, hcl, hm, hrk, hb⟩ := hd.open_ live_version; have B3 := Lib.hid (B2.out.trans (hb.mono B2.out.size)); have M3 := Lib.hid ((hb.block w.heap.size (blk_lt M2.out)).trans M2.out); have C3 := Lib.hid (Kd.C_below C2.out hb); clear hd hC hcl hm hrk hb)
  go_wp2_with (go_at_call 13; (with_reducible refine (rows_Decode.file (s ++ ⟨#[120]⟩) _ HZ3.out).mono ?_); rintro e w4 hd; obtain ⟨A4, c4, xs4, rfl, hC, hcl, hm, hrk, hb⟩ := hd.open_ (live_x (by rw [HS.out]; rfl)); have B4 := Lib.hid (B3.out.trans (hb.mono B3.out.size)); have M4 := Lib.hid ((hb.block w.heap.size (blk_lt M3.out)).trans M3.out); have C4 := Lib.hid (Kd.C_below C3.out hb); clear hd hC hcl hm hrk hb)
  go_wp2_with (go_at_call 11; refine (rows_Encode.calls (some ⟨w4.heap.size, 0, none⟩) 1 [z30] ⟨#[]⟩ 1 _ (one_C z30 (heap_alloc_new w4 _)) (by decide) live_zero).mono ?_; rintro e w5 ⟨rfl, hb⟩; have hbb : Below w4.heap.size w4 w5 := ((Below.refl _ _).alloc (Nat.le_refl _) _).trans (hb.mono (by simp)); have B5 := Lib.hid (B4.out.trans (hbb.mono B4.out.size)); have M5 := Lib.hid ((hbb.block w.heap.size (blk_lt M4.out)).trans M4.out); have C5 := Lib.hid (Kd.C_below C4.out hbb); obtain ⟨y0, y1, y2, y3, y4, y5⟩ := six_cells M5.out; clear hb hbb)
  obtain ⟨o, ho⟩ : ∃ o, o = ba liveO := ⟨_, rfl⟩
  have HO1 := Lib.hid (show rows_One.f 5 2 0 300 ⟨#[97]⟩ 4607182418800017408 = some o by rw [ho]; exact live_one)
  have HO2 := Lib.hid (show decE (⟨#[66, 78, 83, 73, 1, 2]⟩ ++ o ++ o) = 12 from live_order (by rw [ho]; rfl))
  have hoz : o.size = 15 := by rw [ho]; rfl
  have HZ4 := Lib.hid (show (⟨#[66, 78, 83, 73, 1, 2]⟩ ++ o ++ o).size ≤ 140737488355328 by rw [ByteArray.size_append, ByteArray.size_append, hoz]; decide)
  have hcat2 : (9223372036854775807 < 6 + o.size) = False := eq_false (by omega)
  have hcat3 : (9223372036854775807 < 6 + o.size + o.size) = False := eq_false (by omega)
  clear ho hoz
  go_region_held3 (fun w' => w'.cell? ⟨w.heap.size, 0, none⟩ = some (.int .i64 5) ∧ w'.cell? ⟨w.heap.size, 1, none⟩ = some (.int .i64 2) ∧ w'.cell? ⟨w.heap.size, 2, none⟩ = some (.int .i64 0) ∧ w'.cell? ⟨w.heap.size, 3, none⟩ = some (.int .i64 300) ∧ w'.cell? ⟨w.heap.size, 4, none⟩ = some (.string ⟨#[97]⟩) ∧ w'.cell? ⟨w.heap.size, 5, none⟩ = some (.float .f64 4607182418800017408)) (go_keep) (first | (go_at_call 9; (with_reducible refine (rows_One.calls 5 2 0 300 ⟨#[97]⟩ 4607182418800017408 o _ HO1.out).mono ?_); rintro e wb ⟨rfl, hb⟩; have hq := cat_step B5.out M5.out C5.out ⟨hb.os, hb.tape, hb.output, hb.size, hb.block⟩; clear B5 M5 C5 hb; have B5 := Lib.hid hq.1; have M5 := Lib.hid hq.2.1; have C5 := Lib.hid hq.2.2; clear hq; obtain ⟨u0, u1, u2, u3, u4, u5⟩ := six_cells M5.out) | (go_at_call 13; (with_reducible refine (rows_Decode.file (⟨#[66, 78, 83, 73, 1, 2]⟩ ++ o ++ o) _ HZ4.out).mono ?_); rintro e wb hd; obtain ⟨A6, c6, xs6, rfl, hC, hcl, hm, hrk, hb⟩ := hd.open_ HO2.out; have hq := cat_step B5.out M5.out C5.out ⟨hb.os, hb.tape, hb.output, hb.size, hb.block⟩; clear B5 M5 C5 hb; have B5 := Lib.hid hq.1; have M5 := Lib.hid hq.2.1; have C5 := Lib.hid hq.2.2; clear hq hd hC hcl hm hrk; obtain ⟨u0, u1, u2, u3, u4, u5⟩ := six_cells M5.out))
  clear hcat hcat2 hcat3 HO1 HO2 HZ1 HZ3 HZ4 B1 B2 B3 B4 C2 C3 C4 M1 M2 M3 M4 y0 y1 y2 y3 y4 y5
  go_wp2_with (go_at_call 13; (with_reducible refine (rows_Decode.file ⟨#[66, 78, 83, 73, 1, 0]⟩ _ HZ5.out).mono ?_); rintro e w7 hd; obtain ⟨A7, c7, xs7, rfl, hC, hcl, hm, hrk, hb⟩ := hd.open_ live_none.1; have h7 := List.map_eq_nil_iff.1 (hm.trans live_none.2); subst h7; have hq := cat_step B5.out M5.out C5.out hb; have B7 := Lib.hid hq.1; have M7 := Lib.hid hq.2.1; have C7 := Lib.hid hq.2.2; clear hq hd hC hcl hm hrk hb B5 M5 C5 u0 u1 u2 u3 u4 u5)
  have hseq : (s.toList == [66, 78, 83, 73, 1, 1, 5, 2, 0, 172, 2, 1, 97, 0, 0, 0, 0, 0, 0, 240, 63]) = true := by rw [ba_toList, HS.out]; rfl
  have HSM := Lib.hid (show bonsairef13_Same.f 10 xs2 [m0] = some true from same_f K2.out.2.2 ranks_m0 K2.out.2.1 (by have := congrArg List.length K2.out.2.1; simp at this; omega) 10 (by have := congrArg List.length K2.out.2.1; simp at this; omega))
  go_wp2_with (go_at_call 13; (with_reducible refine (rows_Decode.file ⟨#[66, 78, 83, 88]⟩ _ HZ6.out).mono ?_); rintro e w8 hd; obtain ⟨A8, c8, xs8, rfl, hC, hcl, hm, hrk, hb⟩ := hd.open_ live_magic; have hq := cat_step B7.out M7.out C7.out hb; have B8 := Lib.hid hq.1; have M8 := Lib.hid hq.2.1; have C8 := Lib.hid hq.2.2; clear hq hd hC hcl hm hrk hb B7 M7 C7)
  go_wp2_with (go_at_call 15; refine (bonsairef13_Same.calls 10 A2 c2 xs2 (some ⟨w.heap.size, 0, none⟩) 1 [m0] true _ C8.out K2.out.1 (one_C m0 M8.out) (by decide) HSM.out).mono ?_; rintro e w9 ⟨rfl, hb⟩; have B9 := Lib.hid (B8.out.trans (hb.mono B8.out.size)); clear hb)
  go_ret
  exact ⟨rfl, B9.out⟩
/-- live, in the printed form. -/
def bonsailaw21_live.f : Option Bool := some true
theorem bonsailaw21_live.calls (r : Bool) (w : World) (h : bonsailaw21_live.f = some r) : Calls Try.prog 8 #[] w fun e w' => e = .returned (.bool r) ∧ Below w.heap.size w w' := by
  obtain rfl := Option.some.inj h
  exact live_calls w
end Go.Proofs.Ytfcndhajcikgiaa.B
namespace Go.Proofs.Ytfcndhajcikgiaa.B
open Go.RowKit Go.Proofs.Sp Go.Proofs.Fl Go.Proofs.YtfcndhajcikgiaaW.PrintWords Go.Proofs.YtfcndhajcikgiaaW.PrintLast Go.Proofs.YtfcndhajcikgiaaW.PrintMore
set_option maxRecDepth 100000 in
set_option maxHeartbeats 8000000 in
theorem back_calls (A0 : Option Addr) (c0 : Nat) (l0 : List S30) (S : ByteArray) (at_ : Int) (w : World) (hC : Kd.C k30 w A0 l0.length l0) (hc : l0.length ≤ c0) (hr : Ranks l0) (hS : S.size ≤ 140737488351232) :
    Calls Try.prog 5 #[.slice A0 l0.length c0, .string S, .int .i64 at_] w fun e w' => e = .returned (.bool true) ∧ Below w.heap.size w w' := by
  have C0 := Lib.hid hC
  have HR := Lib.hid hr
  have hf0 := few_f l0 40 (by decide) (l0.length + 1) (Nat.le_refl _)
  clear hC hr
  cases hfw : fewB l0 40 with
  | false =>
    rw [hfw] at hf0
    have HF := Lib.hid hf0
    clear hf0
    clear hfw
    go_enter Try.func5, Try.ntmps5
    go_wp2_with (first | (go_at_call 7; refine (bonsairef13_Few.calls (l0.length + 1) A0 c0 l0 40 _ _ C0.out hc HF.out).mono ?_; rintro e w1 ⟨rfl, hd⟩; have B1 := Lib.hid hd.below; clear hd) | (go_at_call 8; refine (live_calls _).mono ?_; rintro e w2 ⟨rfl, hb⟩; have B2 := Lib.hid (B1.out.trans (hb.mono B1.out.size)); clear hb))
    go_ret
    exact ⟨rfl, B2.out⟩
  | true =>
    have hnm := fewB_names hfw
    have hlen : l0.length ≤ 40 := by omega
    rw [hfw] at hf0
    have HF := Lib.hid hf0
    clear hf0
    clear hfw hnm
    go_enter Try.func5, Try.ntmps5
    by_cases h1 : 1000 < S.size
    · have h1' : (1000 : Int) < (S.size : Int) := by omega
      clear h1
      go_wp2_with (first | (go_at_call 7; refine (bonsairef13_Few.calls (l0.length + 1) A0 c0 l0 40 _ _ C0.out hc HF.out).mono ?_; rintro e w1 ⟨rfl, hd⟩; have B1 := Lib.hid hd.below; clear hd) | (go_at_call 8; refine (live_calls _).mono ?_; rintro e w2 ⟨rfl, hb⟩; have B2 := Lib.hid (B1.out.trans (hb.mono B1.out.size)); clear hb))
      go_ret
      exact ⟨rfl, B2.out⟩
    · have h1' : (S.size : Int) ≤ 1000 := by omega
      have HZ := Lib.hid (show S.size ≤ 140737488355328 by omega)
      clear h1
      have he0 := encode_f HR.out
      have hy0 := may_ref_f l0 (l0.length + 72) (Nat.le_refl _)
      obtain ⟨E0, hE0⟩ : ∃ x, x = decE S := ⟨_, rfl⟩
      have HD0 := Lib.hid hE0.symm
      clear hE0
      cases hmy : mayM l0 with
      | false =>
        rw [hmy, if_neg (by decide)] at he0
        rw [hmy] at hy0
        have HE := Lib.hid he0
        have HY := Lib.hid hy0
        clear he0 hy0
        clear hmy
        go_wp2_with (first | (go_at_call 7; refine (bonsairef13_Few.calls (l0.length + 1) A0 c0 l0 40 _ _ C0.out hc HF.out).mono ?_; rintro e w1 ⟨rfl, hd⟩; have B1 := Lib.hid hd.below; have C1 := Lib.hid (Kd.C_below C0.out hd.below); clear hd) | (go_at_call 11; refine (rows_Encode.calls A0 c0 l0 _ _ _ C1.out hc HE.out).mono ?_; rintro e w2 ⟨rfl, hb⟩; have B2 := Lib.hid (B1.out.trans (hb.mono B1.out.size)); have C2 := Lib.hid (Kd.C_below C1.out hb); clear hb) | (go_at_call 16; refine (bonsairef13_May.calls (l0.length + 72) A0 c0 l0 _ _ C2.out hc HY.out).mono ?_; rintro e w3 ⟨rfl, hb⟩; have BT := Lib.hid (B2.out.trans (hb.mono B2.out.size)); have C3 := Lib.hid (Kd.C_below C2.out hb); clear hb))
        by_cases hd0 : E0 = 0
        · subst hd0
          go_wp2_with (go_at_call 13; (with_reducible refine (rows_Decode.file S _ HZ.out).mono ?_); rintro e wd hd; obtain ⟨Ad, cd, xd, rfl, hC, hcl, hm, hrk, hb⟩ := hd.open_ HD0.out; have BU := Lib.hid (BT.out.trans (hb.mono BT.out.size)); have CU := Lib.hid hC; have KU := Lib.hid (And.intro hcl (And.intro hm hrk)); clear hd hC hcl hm hrk hb)
          have HB := Lib.hid (file_back HZ.out HD0.out KU.out.2.1 KU.out.2.2)
          go_wp2_with (first | (go_at_call 11; (with_reducible refine (rows_Encode.calls Ad cd xd S 0 _ CU.out KU.out.1 HB.out).mono ?_); rintro e we ⟨rfl, hb⟩; have BV := Lib.hid (BU.out.trans (hb.mono BU.out.size)); clear hb) | (go_at_call 8; refine (live_calls _).mono ?_; rintro e wf ⟨rfl, hb⟩; have BW := Lib.hid (BV.out.trans (hb.mono BV.out.size)); clear hb))
          go_ret
          exact ⟨rfl, BW.out⟩
        · have hb0 : (E0 != 0) = true := by simpa using hd0
          go_wp2_with (go_at_call 13; (with_reducible refine (rows_Decode.file S _ HZ.out).mono ?_); rintro e wd hd; obtain ⟨Ad, cd, xd, rfl, hC, hcl, hm, hrk, hb⟩ := hd.open_ HD0.out; have hx : xd = [] := List.map_eq_nil_iff.1 (hm.trans (dec_err (by rw [HD0.out]; exact hd0))); subst hx; have BU := Lib.hid (BT.out.trans (hb.mono BT.out.size)); have CU := Lib.hid hC; have KU := Lib.hid (And.intro hcl (And.intro hm hrk)); clear hd hC hcl hm hrk hb)
          go_wp2_with (go_at_call 8; refine (live_calls _).mono ?_; rintro e wf ⟨rfl, hb⟩; have BW := Lib.hid (BU.out.trans (hb.mono BU.out.size)); clear hb)
          go_ret
          exact ⟨rfl, BW.out⟩
      | true =>
        rw [hmy, if_pos rfl] at he0
        rw [hmy] at hy0
        obtain ⟨t, ht⟩ : ∃ t, t = ba (fileX l0) := ⟨_, rfl⟩
        rw [← ht] at he0
        have HTZ := Lib.hid (show t.size ≤ 100000000 by rw [ht]; exact file_size hmy)
        have hdec := dec_ok (file_dec HR.out hmy)
        rw [← ht] at hdec
        have HDT := Lib.hid hdec
        have HTV := Lib.hid (show chunk_Version.f t = some (1, 0) by rw [ht]; exact file_ver l0)
        have HCUT := Lib.hid (fun (n : Nat) (hn : n < t.size) => (show decE (t.extract 0 n) ≠ 0 by rw [ht] at hn ⊢; exact file_cut HR.out hmy hn))
        have HZT := Lib.hid (show t.size ≤ 140737488355328 by have := HTZ.out; omega)
        have HE := Lib.hid he0
        have HY := Lib.hid hy0
        clear he0 hy0
        clear hmy hdec ht
        go_wp2_with (first | (go_at_call 7; refine (bonsairef13_Few.calls (l0.length + 1) A0 c0 l0 40 _ _ C0.out hc HF.out).mono ?_; rintro e w1 ⟨rfl, hd⟩; have B1 := Lib.hid hd.below; have C1 := Lib.hid (Kd.C_below C0.out hd.below); clear hd) | (go_at_call 11; refine (rows_Encode.calls A0 c0 l0 _ _ _ C1.out hc HE.out).mono ?_; rintro e w2 ⟨rfl, hb⟩; have B2 := Lib.hid (B1.out.trans (hb.mono B1.out.size)); have C2 := Lib.hid (Kd.C_below C1.out hb); clear hb) | (go_at_call 16; refine (bonsairef13_May.calls (l0.length + 72) A0 c0 l0 _ _ C2.out hc HY.out).mono ?_; rintro e w3 ⟨rfl, hb⟩; have BT := Lib.hid (B2.out.trans (hb.mono B2.out.size)); have C3 := Lib.hid (Kd.C_below C2.out hb); clear hb))
        go_wp2_with (go_at_call 13; (with_reducible refine (rows_Decode.file t _ HZT.out).mono ?_); rintro e w4 hd; obtain ⟨A4, c4, x4, rfl, hC, hcl, hm, hrk, hb⟩ := hd.open_ HDT.out.1; have B4 := Lib.hid (BT.out.trans (hb.mono BT.out.size)); have C4 := Lib.hid (Kd.C_below C3.out hb); have CX := Lib.hid hC; have KX := Lib.hid (And.intro hcl (And.intro (hm.trans HDT.out.2) hrk)); clear hd hC hcl hm hrk hb BT C3)
        have HSM := Lib.hid (show bonsairef13_Same.f 3000 x4 l0 = some true from same_f KX.out.2.2 HR.out KX.out.2.1 (by have := congrArg List.length KX.out.2.1; simp at this; omega) 3000 (by have := congrArg List.length KX.out.2.1; simp at this; omega))
        by_cases ha0 : 0 ≤ at_
        · by_cases ha1 : at_ < (t.size : Int)
          · obtain ⟨E1, hE1⟩ : ∃ x, x = decE (t.extract 0 at_.toNat) := ⟨_, rfl⟩
            have HEC := Lib.hid hE1.symm
            have hne : ¬ E1 = 0 := by rw [hE1]; exact HCUT.out at_.toNat (by omega)
            have hne1 : (E1 == 0) = false := by simpa using hne
            have hne2 : (E1 != 0) = true := by simpa using hne
            have HZC := Lib.hid (show (t.extract 0 at_.toNat).size ≤ 140737488355328 by rw [ByteArray.size_extract]; have := HTZ.out; omega)
            clear hE1
            go_wp2_with (first | (go_at_call 17; refine (chunk_Version.calls t _ _ _ HTV.out).mono ?_; rintro e w5 ⟨rfl, hd⟩; have B5 := Lib.hid (B4.out.trans (hd.below.mono B4.out.size)); have C5 := Lib.hid (Kd.C_below C4.out hd.below); have CY := Lib.hid (Kd.C_below CX.out hd.below); clear hd) | (go_at_call 15; refine (bonsairef13_Same.calls 3000 A4 c4 x4 A0 c0 l0 true _ CY.out KX.out.1 C5.out hc HSM.out).mono ?_; rintro e w6 ⟨rfl, hb⟩; have B6 := Lib.hid (B5.out.trans (hb.mono B5.out.size)); clear hb))
            go_wp2_with (go_at_call 13; (with_reducible refine (rows_Decode.file (t.extract 0 at_.toNat) _ HZC.out).mono ?_); rintro e w7 hd; obtain ⟨A7, c7, x7, rfl, hC, hcl, hm, hrk, hb⟩ := hd.open_ HEC.out; have h7 : x7 = [] := List.map_eq_nil_iff.1 (hm.trans (dec_err (by rw [HEC.out]; exact hne))); subst h7; have BT := Lib.hid (B6.out.trans (hb.mono B6.out.size)); clear hd hC hcl hm hrk hb)
            clear hne hne1 hne2
            by_cases hd0 : E0 = 0
            · subst hd0
              go_wp2_with (go_at_call 13; (with_reducible refine (rows_Decode.file S _ HZ.out).mono ?_); rintro e wd hd; obtain ⟨Ad, cd, xd, rfl, hC, hcl, hm, hrk, hb⟩ := hd.open_ HD0.out; have BU := Lib.hid (BT.out.trans (hb.mono BT.out.size)); have CU := Lib.hid hC; have KU := Lib.hid (And.intro hcl (And.intro hm hrk)); clear hd hC hcl hm hrk hb)
              have HB := Lib.hid (file_back HZ.out HD0.out KU.out.2.1 KU.out.2.2)
              go_wp2_with (first | (go_at_call 11; (with_reducible refine (rows_Encode.calls Ad cd xd S 0 _ CU.out KU.out.1 HB.out).mono ?_); rintro e we ⟨rfl, hb⟩; have BV := Lib.hid (BU.out.trans (hb.mono BU.out.size)); clear hb) | (go_at_call 8; refine (live_calls _).mono ?_; rintro e wf ⟨rfl, hb⟩; have BW := Lib.hid (BV.out.trans (hb.mono BV.out.size)); clear hb))
              go_ret
              exact ⟨rfl, BW.out⟩
            · have hb0 : (E0 != 0) = true := by simpa using hd0
              go_wp2_with (go_at_call 13; (with_reducible refine (rows_Decode.file S _ HZ.out).mono ?_); rintro e wd hd; obtain ⟨Ad, cd, xd, rfl, hC, hcl, hm, hrk, hb⟩ := hd.open_ HD0.out; have hx : xd = [] := List.map_eq_nil_iff.1 (hm.trans (dec_err (by rw [HD0.out]; exact hd0))); subst hx; have BU := Lib.hid (BT.out.trans (hb.mono BT.out.size)); have CU := Lib.hid hC; have KU := Lib.hid (And.intro hcl (And.intro hm hrk)); clear hd hC hcl hm hrk hb)
              go_wp2_with (go_at_call 8; refine (live_calls _).mono ?_; rintro e wf ⟨rfl, hb⟩; have BW := Lib.hid (BU.out.trans (hb.mono BU.out.size)); clear hb)
              go_ret
              exact ⟨rfl, BW.out⟩
          · have ha2 : (t.size : Int) ≤ at_ := by omega
            clear ha1
            go_wp2_with (first | (go_at_call 17; refine (chunk_Version.calls t _ _ _ HTV.out).mono ?_; rintro e w5 ⟨rfl, hd⟩; have B5 := Lib.hid (B4.out.trans (hd.below.mono B4.out.size)); have C5 := Lib.hid (Kd.C_below C4.out hd.below); have CY := Lib.hid (Kd.C_below CX.out hd.below); clear hd) | (go_at_call 15; refine (bonsairef13_Same.calls 3000 A4 c4 x4 A0 c0 l0 true _ CY.out KX.out.1 C5.out hc HSM.out).mono ?_; rintro e w6 ⟨rfl, hb⟩; have B6 := Lib.hid (B5.out.trans (hb.mono B5.out.size)); clear hb))
            have BT := Lib.hid B6.out
            by_cases hd0 : E0 = 0
            · subst hd0
              go_wp2_with (go_at_call 13; (with_reducible refine (rows_Decode.file S _ HZ.out).mono ?_); rintro e wd hd; obtain ⟨Ad, cd, xd, rfl, hC, hcl, hm, hrk, hb⟩ := hd.open_ HD0.out; have BU := Lib.hid (BT.out.trans (hb.mono BT.out.size)); have CU := Lib.hid hC; have KU := Lib.hid (And.intro hcl (And.intro hm hrk)); clear hd hC hcl hm hrk hb)
              have HB := Lib.hid (file_back HZ.out HD0.out KU.out.2.1 KU.out.2.2)
              go_wp2_with (first | (go_at_call 11; (with_reducible refine (rows_Encode.calls Ad cd xd S 0 _ CU.out KU.out.1 HB.out).mono ?_); rintro e we ⟨rfl, hb⟩; have BV := Lib.hid (BU.out.trans (hb.mono BU.out.size)); clear hb) | (go_at_call 8; refine (live_calls _).mono ?_; rintro e wf ⟨rfl, hb⟩; have BW := Lib.hid (BV.out.trans (hb.mono BV.out.size)); clear hb))
              go_ret
              exact ⟨rfl, BW.out⟩
            · have hb0 : (E0 != 0) = true := by simpa using hd0
              go_wp2_with (go_at_call 13; (with_reducible refine (rows_Decode.file S _ HZ.out).mono ?_); rintro e wd hd; obtain ⟨Ad, cd, xd, rfl, hC, hcl, hm, hrk, hb⟩ := hd.open_ HD0.out; have hx : xd = [] := List.map_eq_nil_iff.1 (hm.trans (dec_err (by rw [HD0.out]; exact hd0))); subst hx; have BU := Lib.hid (BT.out.trans (hb.mono BT.out.size)); have CU := Lib.hid hC; have KU := Lib.hid (And.intro hcl (And.intro hm hrk)); clear hd hC hcl hm hrk hb)
              go_wp2_with (go_at_call 8; refine (live_calls _).mono ?_; rintro e wf ⟨rfl, hb⟩; have BW := Lib.hid (BU.out.trans (hb.mono BU.out.size)); clear hb)
              go_ret
              exact ⟨rfl, BW.out⟩
        · have ha2 : at_ < 0 := by omega
          clear ha0
          go_wp2_with (first | (go_at_call 17; refine (chunk_Version.calls t _ _ _ HTV.out).mono ?_; rintro e w5 ⟨rfl, hd⟩; have B5 := Lib.hid (B4.out.trans (hd.below.mono B4.out.size)); have C5 := Lib.hid (Kd.C_below C4.out hd.below); have CY := Lib.hid (Kd.C_below CX.out hd.below); clear hd) | (go_at_call 15; refine (bonsairef13_Same.calls 3000 A4 c4 x4 A0 c0 l0 true _ CY.out KX.out.1 C5.out hc HSM.out).mono ?_; rintro e w6 ⟨rfl, hb⟩; have B6 := Lib.hid (B5.out.trans (hb.mono B5.out.size)); clear hb))
          have BT := Lib.hid B6.out
          by_cases hd0 : E0 = 0
          · subst hd0
            go_wp2_with (go_at_call 13; (with_reducible refine (rows_Decode.file S _ HZ.out).mono ?_); rintro e wd hd; obtain ⟨Ad, cd, xd, rfl, hC, hcl, hm, hrk, hb⟩ := hd.open_ HD0.out; have BU := Lib.hid (BT.out.trans (hb.mono BT.out.size)); have CU := Lib.hid hC; have KU := Lib.hid (And.intro hcl (And.intro hm hrk)); clear hd hC hcl hm hrk hb)
            have HB := Lib.hid (file_back HZ.out HD0.out KU.out.2.1 KU.out.2.2)
            go_wp2_with (first | (go_at_call 11; (with_reducible refine (rows_Encode.calls Ad cd xd S 0 _ CU.out KU.out.1 HB.out).mono ?_); rintro e we ⟨rfl, hb⟩; have BV := Lib.hid (BU.out.trans (hb.mono BU.out.size)); clear hb) | (go_at_call 8; refine (live_calls _).mono ?_; rintro e wf ⟨rfl, hb⟩; have BW := Lib.hid (BV.out.trans (hb.mono BV.out.size)); clear hb))
            go_ret
            exact ⟨rfl, BW.out⟩
          · have hb0 : (E0 != 0) = true := by simpa using hd0
            go_wp2_with (go_at_call 13; (with_reducible refine (rows_Decode.file S _ HZ.out).mono ?_); rintro e wd hd; obtain ⟨Ad, cd, xd, rfl, hC, hcl, hm, hrk, hb⟩ := hd.open_ HD0.out; have hx : xd = [] := List.map_eq_nil_iff.1 (hm.trans (dec_err (by rw [HD0.out]; exact hd0))); subst hx; have BU := Lib.hid (BT.out.trans (hb.mono BT.out.size)); have CU := Lib.hid hC; have KU := Lib.hid (And.intro hcl (And.intro hm hrk)); clear hd hC hcl hm hrk hb)
            go_wp2_with (go_at_call 8; refine (live_calls _).mono ?_; rintro e wf ⟨rfl, hb⟩; have BW := Lib.hid (BU.out.trans (hb.mono BU.out.size)); clear hb)
            go_ret
            exact ⟨rfl, BW.out⟩
end Go.Proofs.Ytfcndhajcikgiaa.B
namespace Go.Proofs.Ytfcndhajcikgiaa.rowsBack
open Go.ChangeShapes Go.WideShapes Go.ChangeAt Go.RowKit Go.Proofs.Ytfcndhajcikgiaa.B
open Go.ChangeMaps (open_string shut_string)
theorem own : ownKnob Try.prog.godebug = none := by kernel_rfl
theorem laidOut : laidOutB Try.prog = true := by kernel_rfl
set_option maxRecDepth 100000 in
theorem lifted (os : Os) (started : os.Started) (H : Type) (enc : TypeId × Value → H) :
    ReturnsInHanded {} Try.checked os 5 .any (Rows.rowsBackSpec.pre6 enc Try.prog Try.f5 Rows.rowsBackRow.domain false) (Rows.rowsBackSpec.post enc Try.prog Try.f5 false true false false) := by
  refine returnsInHanded_of_change_sized (C := Try.checked) own started (by kernel_rfl) Try.func5
    (ChangeSpec.witness6 (enc := enc) (C := Try.checked) false ⟨#[], #[.slice none 0 0, .string ByteArray.empty, .int .i64 0], []⟩ 8 (by kernel_rfl) (by kernel_rfl) (by kernel_rfl) (by kernel_rfl)) ?_
  intro W base args ds gs before hval0 hW hcnd hsz0 _
  have hsz : (DataW.weightsEach Try.prog (Try.f5.params.toList ++ Rows.rowsBackSpec.plain.varTypes Try.prog) (ds ++ gs)).all (· ≤ reachBytes) = true := hsz0
  have hval : ∀ (j : Nat) t v, Try.f5.params[j]? = some t → args[j]? = some v → Value.okWide Try.prog W .any base t v := hval0
  have hW' := hW
  obtain ⟨p, q, hA0, hV, rfl, hfz, hnd⟩ := hW
  have hA : DataW.TrodAll enc Try.prog W 0 (fun _ => true) true Try.f5.params.toList args.toList ds p := hA0
  rw [Try.params5] at hA hval hsz
  obtain ⟨v0, vs0, d0, ds0, p0, q0, hargs, rfl, rfl, h0, r0⟩ := trodAll_cons hA
  obtain ⟨v1, vs1, d1, ds1, p1, q1, rfl, rfl, rfl, h1, r1⟩ := trodAll_cons r0
  obtain ⟨v2, vs2, d2, ds2, p2, q2, rfl, rfl, rfl, h2, r2⟩ := trodAll_cons r1
  obtain ⟨rfl, rfl, rfl⟩ := trodAll_nil r2
  obtain rfl : args = #[v0, v1, v2] := by cases args; simp_all
  obtain ⟨rfl, rfl⟩ := trodVars_none hV
  obtain ⟨a0, len0, cap0, rfl⟩ := okWide_slice Try.underlying22 (hval 0 22 v0 rfl rfl)
  have k0 := h0
  have lt0 : ∀ x ∈ p0, x.block < W.heap.size := by obtain ⟨m, hm⟩ := k0; exact DataW.trod_lt m _ _ _ hm
  obtain ⟨l0, rfl, hc0, hC0, hR0⟩ := open_moves h0
  obtain ⟨a1, rfl, rfl, rfl, y1⟩ := open_string Try.underlying9 (hval 1 9 v1 rfl rfl) h1
  have w1 : a1.size ≤ 140737488351232 := by
    have z := sized_string hsz (j := 1) (t := 9) rfl rfl
    rw [Array.length_toList] at z
    exact z
  obtain ⟨a2, rfl, rfl, rfl, w2⟩ := open_int Try.underlying3 (hval 2 3 v2 rfl rfl) h2
  clear hA0 hval0 hsz0 hsz
  refine (back_calls a0 cap0 l0 a1 a2 W hC0 hc0 hR0 w1).mono fun e W' ⟨he, bel⟩ => ?_
  subst he
  exact ⟨_, rfl, _, _, _, [], _, [], hW', trodAll_mk1 (shut_bool Try.underlying4 _), (trodAll_cons_mk (Below.trod laidOut (by kernel_rfl) (of_decide_eq_true (by kernel_rfl)) k0 bel lt0) (trodAll_cons_mk (shut_string Try.underlying9 y1) (trodAll_cons_mk (shut_int Try.underlying3 w2) trodAll_mk0))), rfl, bel.frame _, fun h => by cases h⟩
theorem over : Rows.rowsBackRow.holds Try.pinned (OpenSpec.ofChange Rows.rowsBackSpec) :=
  OpenClaim.holds_of_wide 5 Try.f5 rfl rfl rfl rfl rfl rfl rfl ⟨rfl, rfl, rfl, rfl, rfl⟩ rfl rfl rfl rfl rfl (by kernel_rfl) Try.func5 (by kernel_rfl)
    (of_decide_eq_true (by kernel_rfl)) (by unfold Func.isWrapper; first | (rw [if_pos (by decide +kernel)]; kernel_rfl) | (rw [if_neg (by decide +kernel)]; exact ⟨rfl, rfl⟩))
    (fun os started H enc _ => lifted os started H enc)
end Go.Proofs.Ytfcndhajcikgiaa.rowsBack
namespace Go.Proofs.Ytfcndhajcikgiaa
/-- The row, under a short name, for the claim. -/
theorem rowsBack_holds : Rows.RowsBackSaid := rowsBack.over
#print axioms rowsBack_holds
end Go.Proofs.Ytfcndhajcikgiaa
