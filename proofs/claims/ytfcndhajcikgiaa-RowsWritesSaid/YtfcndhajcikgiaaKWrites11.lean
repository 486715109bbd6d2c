/- RowsWrites: for every input the law returns true, and the input reads behind the call as it read before. (Part 11 of 11.) -/
import Derived.Test.YtfcndhajcikgiaaKWrites10
import Derived.Test.YtfcndhajcikgiaaRows
set_option linter.unusedVariables false
set_option linter.unusedSimpArgs false
namespace Go.Proofs.Ytfcndhajcikgiaa.B
open Go.RowKit Go.Proofs.Sp Go.Proofs.Fl Go.Proofs.YtfcndhajcikgiaaW.PrintWords Go.Proofs.YtfcndhajcikgiaaW.PrintLast Go.Proofs.YtfcndhajcikgiaaW.PrintMore
def m0 : S30 := ⟨⟨5, 2⟩, 0, 300, ⟨#[97]⟩, 4607182418800017408⟩
def liveL : List UInt8 := [66, 78, 83, 73, 1, 1, 5, 2, 0, 172, 2, 1, 97, 0, 0, 0, 0, 0, 0, 240, 63]
def liveO : List UInt8 := [5, 2, 0, 172, 2, 1, 97, 0, 0, 0, 0, 0, 0, 240, 63]
theorem valid_a : validS [97] = true := by
  unfold validS
  rw [stopAt, show headS (97 : UInt8).toNat = some (0, 128, 191) from rfl]
  simp [tailOk, stopAt]
theorem one_m0 : oneM m0 = true := by
  unfold oneM oneB
  rw [show m0.f3.data.toList = [97] from rfl, valid_a]
  decide
theorem may_m0 : mayM [m0] = true := by
  unfold mayM
  rw [List.all_cons, one_m0]
  rfl
theorem ranks_m0 : Ranks [m0] := fun x hx => by
  obtain rfl := List.mem_singleton.1 hx
  decide
theorem enc_m0 : encX m0 = liveO := by decide +kernel
theorem file_m0 : fileX [m0] = liveL := by
  unfold fileX
  rw [List.flatMap_cons, enc_m0]
  decide +kernel
theorem live_encode : rows_Encode.f [m0] = some (ba liveL, 0) := by rw [encode_f ranks_m0, if_pos may_m0, file_m0]
theorem live_zero : rows_Encode.f [z30] = some (⟨#[]⟩, 1) := by
  unfold rows_Encode.f
  rw [if_neg (by decide)]
theorem live_one : rows_One.f 5 2 0 300 ⟨#[97]⟩ 4607182418800017408 = some (ba liveO) := by
  have := one_f_ (x := m0) (by decide) (by decide)
  rw [enc_m0] at this; exact this
theorem mayS_m0 : MayS [toS m0] := may_toS ranks_m0 may_m0
theorem body_m0 : headL ++ bodyS [toS m0] = liveL := by
  rw [← file_m0]
  unfold fileX bodyS
  rw [flat_enc [m0] (fun x hx => by obtain rfl := List.mem_singleton.1 hx; exact one_m0)]
  rfl
theorem live_dec {S : ByteArray} (h : S = ba liveL) : decE S = 0 ∧ decM S = [toS m0] := by
  have := decodeX_fwd (S := S) (ms := [toS m0]) (r := []) (by rw [h]; decide) mayS_m0 (by rw [h, List.append_nil, body_m0]; rfl)
  rw [if_pos rfl] at this
  unfold decE decM
  rw [this]; exact ⟨rfl, rfl⟩
theorem live_x {S : ByteArray} (h : S.data.toList = liveL ++ [120]) : decE S = 5 := by
  have hz : S.size = 22 := by rw [← len_size, h]; rfl
  have := decodeX_fwd (S := S) (ms := [toS m0]) (r := [120]) (by omega) mayS_m0 (by rw [h, ← body_m0, List.append_assoc])
  rw [if_neg (by decide)] at this
  unfold decE
  rw [this]
theorem live_version : decE ⟨#[66, 78, 83, 73, 2, 0]⟩ = 8 := by decide +kernel
theorem live_magic : decE ⟨#[66, 78, 83, 88]⟩ = 7 := by decide +kernel
theorem live_none : decE ⟨#[66, 78, 83, 73, 1, 0]⟩ = 0 ∧ decM ⟨#[66, 78, 83, 73, 1, 0]⟩ = [] := by
  have := decodeX_fwd (S := ⟨#[66, 78, 83, 73, 1, 0]⟩) (ms := []) (r := []) (by decide) ⟨rfl, by decide, fun _ h => by cases h⟩ rfl
  rw [if_pos rfl] at this
  unfold decE decM
  rw [this]; exact ⟨rfl, rfl⟩
theorem live_order {S : ByteArray} (h : S.data.toList = [66, 78, 83, 73, 1, 2] ++ (liveO ++ liveO)) : decE S = 12 := by
  have hz : S.size = 36 := by rw [← len_size, h]; rfl
  obtain ⟨hv, h5⟩ := one_verS (S := S) (by rw [h]; rfl)
  have hok : OkM (toS m0) := ok_one (by decide) one_m0
  have he : encM (toS m0) = liveO := by rw [← encX_enc one_m0, enc_m0]
  have hx : (S.extract 5 S.size).data.toList = putL 2 ++ (encM (toS m0) ++ (encM (toS m0) ++ [])) := by
    rw [extract_list, List.take_of_length_le (by rw [List.length_drop, len_size]; omega), h, he]; rfl
  have hS : S.size ≤ 140737488355328 := by omega
  obtain ⟨s1, h1, l1⟩ := numR_fwd (v := 2) (by omega) hx
  have f1 := numR_suf (q := (S.extract 5 S.size, 0)) (Suf.from S 5 h5)
  rw [h1] at f1
  obtain ⟨s2, h2, l2, f2⟩ := moveR_fwd hS f1 hok l1
  obtain ⟨s3, h3, l3, f3⟩ := moveR_fwd hS f2 hok l2
  have hd : decodeX S = .error 12 := by
    unfold decodeX
    rw [hv]
    unfold decodeR
    rw [if_neg (fun hc => hc rfl), if_neg (fun hc => hc rfl), h1]
    dsimp only
    rw [if_neg (fun hc => hc rfl), if_neg (by decide)]
    have hm : movesR S 2 [] (s1, 0) = .error 12 := by
      rw [movesR, h2]
      dsimp only [List.getLast?_nil]
      rw [movesR, h3]
      rfl
    rw [show (((2 : Nat) : Int)).toNat = 2 from rfl, hm]
  unfold decE
  rw [hd]
end Go.Proofs.Ytfcndhajcikgiaa.B
namespace Go.Proofs.Ytfcndhajcikgiaa.B
open Go.RowKit Go.Proofs.Sp Go.Proofs.Fl Go.Proofs.YtfcndhajcikgiaaW.PrintWords Go.Proofs.YtfcndhajcikgiaaW.PrintLast Go.Proofs.YtfcndhajcikgiaaW.PrintMore
theorem one_C {W : World} {B : Nat} (x : S30) (h : W.heap[B]? = some (.cells #[.int .i64 x.f0.f0, .int .i64 x.f0.f1, .int .i64 x.f1, .int .i64 x.f2, .string x.f3, .float .f64 x.f4] 30 (0, 0))) : Kd.C k30 W (some ⟨B, 0, none⟩) [x].length [x] := by
  refine ⟨rfl, (show 1 ≤ 9223372036854775807 by decide), fun _ => ⟨_, rfl, fun j p hj => ?_⟩⟩
  match j, hj with
  | 0, hj =>
    injection hj with hj
    subst hj
    refine ⟨_, rfl, k30_mk W x, fun i u hi => ?_⟩
    have := blk_cell h i
    rw [show (0 * k30.sz + i) = i by omega]
    refine Eq.trans ?_ (this.trans (by simpa using hi))
    by_cases hi0 : i = 0
    · subst hi0; rfl
    · simp [Addr.add, hi0]
theorem cat_step {w W W1 : World} {B : Nat} {o : Obj} {A : Option Addr} {n : Nat} {xs : List S30} (h1 : Below w.heap.size w W) (h2 : W.heap[B]? = some o) (h3 : Kd.C k30 W A n xs) (hb : Below W.heap.size W W1) :
    Below w.heap.size w W1 ∧ W1.heap[B]? = some o ∧ Kd.C k30 W1 A n xs :=
  ⟨h1.trans (hb.mono h1.size), (hb.block B (blk_lt h2)).trans h2, Kd.C_below h3 hb⟩
theorem DecPost.open_ {S : ByteArray} {w w' : World} {e : Ending} (h : DecPost S w e w') {er : Int} (he : decE S = er) :
    ∃ A c xs, e = .returned (.tuple #[.slice A xs.length c, .int .i64 er]) ∧ Kd.C k30 w' A xs.length xs ∧ xs.length ≤ c ∧ xs.map toS = decM S ∧ Ranks xs ∧ Below w.heap.size w w' := by
  subst he; exact h
set_option maxRecDepth 100000 in
set_option maxHeartbeats 4000000 in
theorem live_calls (w : World) : Calls Try.prog 8 #[] w fun e w' => e = .returned (.bool true) ∧ Below w.heap.size w w' := by
  obtain ⟨s, hs⟩ : ∃ s, s = ba liveL := ⟨_, rfl⟩
  have HE1 := Lib.hid (show rows_Encode.f [m0] = some (s, 0) by rw [hs]; exact live_encode)
  have HS := Lib.hid hs
  have HZ1 := Lib.hid (show s.size ≤ 140737488355328 by rw [hs]; decide)
  have HZ2 := Lib.hid (show (⟨#[66, 78, 83, 73, 2, 0]⟩ : ByteArray).size ≤ 140737488355328 by decide)
  have HZ5 := Lib.hid (show (⟨#[66, 78, 83, 73, 1, 0]⟩ : ByteArray).size ≤ 140737488355328 by decide)
  have HZ6 := Lib.hid (show (⟨#[66, 78, 83, 88]⟩ : ByteArray).size ≤ 140737488355328 by decide)
  have HZ3 := Lib.hid (show (s ++ ⟨#[120]⟩).size ≤ 140737488355328 by rw [ByteArray.size_append, hs]; decide)
  clear hs
  have hcat : (9223372036854775807 < s.size + 1) = False := eq_false (by have := HZ1.out; omega)
  go_enter Try.func8, Try.ntmps8
  have HB0 := Lib.hid (heap_alloc_new w (.cells #[.int .i64 5, .int .i64 2, .int .i64 0, .int .i64 300, .string ⟨#[97]⟩, .float .f64 4607182418800017408] 30))
  go_wp2_with (go_at_call 11; refine (rows_Encode.calls (some ⟨w.heap.size, 0, none⟩) 1 [m0] s 0 _ (one_C m0 HB0.out) (by decide) HE1.out).mono ?_; rintro e w1 ⟨rfl, hb⟩; have B1 := Lib.hid ((below_alloc (Below.refl w.heap.size w) (.cells #[.int .i64 5, .int .i64 2, .int .i64 0, .int .i64 300, .string ⟨#[97]⟩, .float .f64 4607182418800017408] 30)).trans (hb.mono (by simp))); have M1 := Lib.hid ((hb.block w.heap.size (by simp)).trans HB0.out); clear hb HB0 HE1)
  go_wp2_with (go_at_call 13; (with_reducible refine (rows_Decode.file s _ HZ1.out).mono ?_); rintro e w2 hd; obtain ⟨A2, c2, xs2, rfl, hC, hcl, hm, hrk, hb⟩ := hd.open_ (live_dec HS.out).1; have B2 := Lib.hid (B1.out.trans (hb.mono B1.out.size)); have M2 := Lib.hid ((hb.block w.heap.size (blk_lt M1.out)).trans M1.out); have C2 := Lib.hid hC; have K2 := Lib.hid (And.intro hcl (And.intro (hm.trans (live_dec HS.out).2) hrk)); clear hd hC hcl hm hrk hb)
  go_wp2_with (go_at_call 13; (with_reducible refine (rows_Decode.file ⟨#[66, 78, 83, 73, 2, 0]⟩ _ HZ2.out).mono ?_); rintro e w3 hd; obtain ⟨A3, c3, xs3, rfl, hC, hcl, hm, hrk, hb⟩ := hd.open_ live_version; have B3 := Lib.hid (B2.out.trans (hb.mono B2.out.size)); have M3 := Lib.hid ((hb.block w.heap.size (blk_lt M2.out)).trans M2.out); have C3 := Lib.hid (Kd.C_below C2.out hb); clear hd hC hcl hm hrk hb)
  go_wp2_with (go_at_call 13; (with_reducible refine (rows_Decode.file (s ++ ⟨#[120]⟩) _ HZ3.out).mono ?_); rintro e w4 hd; obtain ⟨A4, c4, xs4, rfl, hC, hcl, hm, hrk, hb⟩ := hd.open_ (live_x (by rw [HS.out]; rfl)); have B4 := Lib.hid (B3.out.trans (hb.mono B3.out.size)); have M4 := Lib.hid ((hb.block w.heap.size (blk_lt M3.out)).trans M3.out); have C4 := Lib.hid (Kd.C_below C3.out hb); clear hd hC hcl hm hrk hb)
  go_wp2_with (go_at_call 11; refine (rows_Encode.calls (some ⟨w4.heap.size, 0, none⟩) 1 [z30] ⟨#[]⟩ 1 _ (one_C z30 (heap_alloc_new w4 _)) (by decide) live_zero).mono ?_; rintro e w5 ⟨rfl, hb⟩; have hbb : Below w4.heap.size w4 w5 := ((Below.refl _ _).alloc (Nat.le_refl _) _).trans (hb.mono (by simp)); have B5 := Lib.hid (B4.out.trans (hbb.mono B4.out.size)); have M5 := Lib.hid ((hbb.block w.heap.size (blk_lt M4.out)).trans M4.out); have C5 := Lib.hid (Kd.C_below C4.out hbb); obtain ⟨y0, y1, y2, y3, y4, y5⟩ := six_cells M5.out; clear hb hbb)
  obtain ⟨o, ho⟩ : ∃ o, o = ba liveO := ⟨_, rfl⟩
  have HO1 := Lib.hid (show rows_One.f 5 2 0 300 ⟨#[97]⟩ 4607182418800017408 = some o by rw [ho]; exact live_one)
  have HO2 := Lib.hid (show decE (⟨#[66, 78, 83, 73, 1, 2]⟩ ++ o ++ o) = 12 from live_order (by rw [ho]; rfl))
  have hoz : o.size = 15 := by rw [ho]; rfl
  have HZ4 := Lib.hid (show (⟨#[66, 78, 83, 73, 1, 2]⟩ ++ o ++ o).size ≤ 140737488355328 by rw [ByteArray.size_append, ByteArray.size_append, hoz]; decide)
  have hcat2 : (9223372036854775807 < 6 + o.size) = False := eq_false (by omega)
  have hcat3 : (9223372036854775807 < 6 + o.size + o.size) = False := eq_false (by omega)
  clear ho hoz
  go_region_held3 (fun w' => w'.cell? ⟨w.heap.size, 0, none⟩ = some (.int .i64 5) ∧ w'.cell? ⟨w.heap.size, 1, none⟩ = some (.int .i64 2) ∧ w'.cell? ⟨w.heap.size, 2, none⟩ = some (.int .i64 0) ∧ w'.cell? ⟨w.heap.size, 3, none⟩ = some (.int .i64 300) ∧ w'.cell? ⟨w.heap.size, 4, none⟩ = some (.string ⟨#[97]⟩) ∧ w'.cell? ⟨w.heap.size, 5, none⟩ = some (.float .f64 4607182418800017408)) (go_keep) (first | (go_at_call 9; (with_reducible refine (rows_One.calls 5 2 0 300 ⟨#[97]⟩ 4607182418800017408 o _ HO1.out).mono ?_); rintro e wb ⟨rfl, hb⟩; have hq := cat_step B5.out M5.out C5.out ⟨hb.os, hb.tape, hb.output, hb.size, hb.block⟩; clear B5 M5 C5 hb; have B5 := Lib.hid hq.1; have M5 := Lib.hid hq.2.1; have C5 := Lib.hid hq.2.2; clear hq; obtain ⟨u0, u1, u2, u3, u4, u5⟩ := six_cells M5.out) | (go_at_call 13; (with_reducible refine (rows_Decode.file (⟨#[66, 78, 83, 73, 1, 2]⟩ ++ o ++ o) _ HZ4.out).mono ?_); rintro e wb hd; obtain ⟨A6, c6, xs6, rfl, hC, hcl, hm, hrk, hb⟩ := hd.open_ HO2.out; have hq := cat_step B5.out M5.out C5.out ⟨hb.os, hb.tape, hb.output, hb.size, hb.block⟩; clear B5 M5 C5 hb; have B5 := Lib.hid hq.1; have M5 := Lib.hid hq.2.1; have C5 := Lib.hid hq.2.2; clear hq hd hC hcl hm hrk; obtain ⟨u0, u1, u2, u3, u4, u5⟩ := six_cells M5.out))
  clear hcat hcat2 hcat3 HO1 HO2 HZ1 HZ3 HZ4 B1 B2 B3 B4 C2 C3 C4 M1 M2 M3 M4 y0 y1 y2 y3 y4 y5
  go_wp2_with (go_at_call 13; (with_reducible refine (rows_Decode.file ⟨#[66, 78, 83, 73, 1, 0]⟩ _ HZ5.out).mono ?_); rintro e w7 hd; obtain ⟨A7, c7, xs7, rfl, hC, hcl, hm, hrk, hb⟩ := hd.open_ live_none.1; have h7 := List.map_eq_nil_iff.1 (hm.trans live_none.2); subst h7; have hq := cat_step B5.out M5.out C5.out hb; have B7 := Lib.hid hq.1; have M7 := Lib.hid hq.2.1; have C7 := Lib.hid hq.2.2; clear hq hd hC hcl hm hrk hb B5 M5 C5 u0 u1 u2 u3 u4 u5)
  have hseq : (s.toList == [66, 78, 83, 73, 1, 1, 5, 2, 0, 172, 2, 1, 97, 0, 0, 0, 0, 0, 0, 240, 63]) = true := by rw [ba_toList, HS.out]; rfl
  have HSM := Lib.hid (show bonsairef13_Same.f 10 xs2 [m0] = some true from same_f K2.out.2.2 ranks_m0 K2.out.2.1 (by have := congrArg List.length K2.out.2.1; simp at this; omega) 10 (by have := congrArg List.length K2.out.2.1; simp at this; omega))
  go_wp2_with (go_at_call 13; (with_reducible refine (rows_Decode.file ⟨#[66, 78, 83, 88]⟩ _ HZ6.out).mono ?_); rintro e w8 hd; obtain ⟨A8, c8, xs8, rfl, hC, hcl, hm, hrk, hb⟩ := hd.open_ live_magic; have hq := cat_step B7.out M7.out C7.out hb; have B8 := Lib.hid hq.1; have M8 := Lib.hid hq.2.1; have C8 := Lib.hid hq.2.2; clear hq hd hC hcl hm hrk hb B7 M7 C7)
  go_wp2_with (go_at_call 15; refine (bonsairef13_Same.calls 10 A2 c2 xs2 (some ⟨w.heap.size, 0, none⟩) 1 [m0] true _ C8.out K2.out.1 (one_C m0 M8.out) (by decide) HSM.out).mono ?_; rintro e w9 ⟨rfl, hb⟩; have B9 := Lib.hid (B8.out.trans (hb.mono B8.out.size)); clear hb)
  go_ret
  exact ⟨rfl, B9.out⟩
/-- live, in the printed form. -/
def bonsailaw21_live.f : Option Bool := some true
theorem bonsailaw21_live.calls (r : Bool) (w : World) (h : bonsailaw21_live.f = some r) : Calls Try.prog 8 #[] w fun e w' => e = .returned (.bool r) ∧ Below w.heap.size w w' := by
  obtain rfl := Option.some.inj h
  exact live_calls w
end Go.Proofs.Ytfcndhajcikgiaa.B
namespace Go.Proofs.Ytfcndhajcikgiaa.B
open Go.RowKit Go.Proofs.YtfcndhajcikgiaaW.PrintWords Go.Proofs.YtfcndhajcikgiaaW.PrintLast Go.Proofs.YtfcndhajcikgiaaW.PrintMore
def bonsailaw21_RowsWrites.l0 : Nat → List (S30) → Int → Option (Bool)
  | 0, _, _ => none
  | k + 1, x0, x3 => if x3 < (x0.length : Int) then (if 0 ≤ x3 then ((rows_One.f ((rd_T30 x0 x3).f0.f0) ((rd_T30 x0 x3).f0.f1) ((rd_T30 x0 x3).f1) ((rd_T30 x0 x3).f2) ((rd_T30 x0 x3).f3) ((rd_T30 x0 x3).f4)).bind fun t208 => ((bonsairef21_One.f k ((rd_T30 x0 x3).f0.f0) ((rd_T30 x0 x3).f0.f1) ((rd_T30 x0 x3).f1) ((rd_T30 x0 x3).f2) ((rd_T30 x0 x3).f3) ((rd_T30 x0 x3).f4)).bind fun t210 => (if t208.toList = t210.toList then (bonsailaw21_RowsWrites.l0 k x0 (wrap64 (x3 + 1))) else (some false)))) else (none)) else ((rows_Encode.f x0).bind fun bt202 => ((bonsairef21_Encode.f k x0).bind fun bt204 => (if bt202.1.toList = bt204.1.toList then (if bt202.2 = bt204.2 then ((bonsailaw21_live.f).bind fun t206 => (some t206)) else (some false)) else (some false))))
def bonsailaw21_RowsWrites.f (k : Nat) (l0 : List (S30)) : Option (Bool) := (bonsairef13_Few.f k l0 60).bind fun t200 => (if t200 = true then (bonsailaw21_RowsWrites.l0 k l0 0) else ((bonsailaw21_live.f).bind fun t201 => (some t201)))
theorem bonsailaw21_RowsWrites.mono_l : ∀ k, (∀ y0 y1, LeO (bonsailaw21_RowsWrites.l0 k y0 y1) (bonsailaw21_RowsWrites.l0 (k + 1) y0 y1))
  | 0 => fun _ _ r h => by simp [bonsailaw21_RowsWrites.l0] at h
  | k + 1 => by
    have ih0 := bonsailaw21_RowsWrites.mono_l k
    · intro y0 y1
      unfold bonsailaw21_RowsWrites.l0
      repeat' first
      | (with_reducible exact ih0 _ _)
      | (with_reducible exact bonsairef13_Few.mono _ _ _)
      | (with_reducible exact bonsairef21_Encode.mono _ _)
      | (with_reducible exact bonsairef21_One.mono _ _ _ _ _ _ _)
      | (with_reducible exact LeO.refl _)
      | (with_reducible exact LeO.none _)
      | (with_reducible refine LeO.ite ?_ ?_)
      | (with_reducible refine LeO.bind ?_ (fun _ => ?_))
      | exact ih0 _ _
      | exact bonsairef13_Few.mono _ _ _
      | exact bonsairef21_Encode.mono _ _
      | exact bonsairef21_One.mono _ _ _ _ _ _ _
      | exact LeO.none _
      | refine LeO.ite ?_ ?_
      | refine LeO.bind ?_ (fun _ => ?_)
theorem bonsailaw21_RowsWrites.mono : ∀ a0 k, LeO (bonsailaw21_RowsWrites.f k a0) (bonsailaw21_RowsWrites.f (k + 1) a0) := by
  intro a0 k
  have ih0 := bonsailaw21_RowsWrites.mono_l k
  unfold bonsailaw21_RowsWrites.f
  repeat' first
      | (with_reducible exact ih0 _ _)
      | (with_reducible exact bonsairef13_Few.mono _ _ _)
      | (with_reducible exact bonsairef21_Encode.mono _ _)
      | (with_reducible exact bonsairef21_One.mono _ _ _ _ _ _ _)
      | (with_reducible exact LeO.refl _)
      | (with_reducible exact LeO.none _)
      | (with_reducible refine LeO.ite ?_ ?_)
      | (with_reducible refine LeO.bind ?_ (fun _ => ?_))
      | exact ih0 _ _
      | exact bonsairef13_Few.mono _ _ _
      | exact bonsairef21_Encode.mono _ _
      | exact bonsairef21_One.mono _ _ _ _ _ _ _
      | exact LeO.none _
      | refine LeO.ite ?_ ?_
      | refine LeO.bind ?_ (fun _ => ?_)
def bonsailaw21_RowsWrites.T6 : Bool × List (List Nat × List Nat) := (true, [([], []), ([], []), ([0, 1], [0, 1]), ([2], [2]), ([3], [3]), ([], []), ([], []), ([5, 6], [5, 6]), ([7], [7]), ([8, 4], [8]), ([4, 9], [4, 9])])
def bonsailaw21_RowsWrites.B6 : List Nat := [0, 0, 3, 7, 15, 0, 0, 96, 224, 511, 1023]
theorem bonsailaw21_RowsWrites.tab6 : rtab .any (opsOf Try.f3 6) = bonsailaw21_RowsWrites.T6 := by kernel_rfl
theorem bonsailaw21_RowsWrites.bits6 : waitsOk bonsailaw21_RowsWrites.T6.2 bonsailaw21_RowsWrites.B6 = true := by kernel_rfl
set_option maxHeartbeats 8000000 in
set_option maxRecDepth 100000 in
theorem bonsailaw21_RowsWrites.calls (k : Nat) (A0 : Option Addr) (c0 : Nat) (l0 : List (S30)) (r : Bool) (w : World) (hr0 : Kd.C k30 w A0 l0.length l0) (hc0 : l0.length ≤ c0) (h : bonsailaw21_RowsWrites.f k l0 = some r) :
    Calls Try.prog 3 #[.slice A0 l0.length c0] w fun e w' => e = .returned (.bool r) ∧ Below w.heap.size w w' := by
  have hu30 := Try.underlying30
  have HR0 := Aside0.mk hr0
  have HC0 := Aside0.mk hc0
  clear hr0 hc0
  have HB := Aside0.mk (Below.refl w.heap.size w)
  have H : ((bonsairef13_Few.f k l0 60).bind fun t200 => (if t200 = true then (bonsailaw21_RowsWrites.l0 k l0 0) else ((bonsailaw21_live.f).bind fun t201 => (some t201)))) = some r := h
  clear h
  replace H := Option.bind_eq_some_iff.mp H
  obtain ⟨t200, A20, H⟩ := H
  replace H : (if t200 = true then (bonsailaw21_RowsWrites.l0 k l0 0) else ((bonsailaw21_live.f).bind fun t201 => (some t201))) = some r := H
  have A2 := Aside0.mk A20
  clear A20
  by_cases c3 : t200 = true
  · subst c3
    have H1 : (bonsailaw21_RowsWrites.l0 k l0 0) = some r := by rw [if_pos rfl] at H; exact H
    clear H
    have H := H1
    clear H1
    have H' := Aside0.mk H
    clear H
    go_enter Try.func3, Try.ntmps3
    go_wp2_with (first | ((with_reducible refine gate_callee (f := 7) rfl ?_); refine goesL_ (some 9) rfl rfl Try.func7 (by kernel_rfl) rfl #[.slice A0 l0.length c0, .int .i64 60] rfl (by (try simp only [List.map_toArray, List.map_cons, List.map_nil]); first | done | rfl | (simp only [List.length_drop, List.length_take]; rfl)) ?_; (with_reducible refine (bonsairef13_Few.calls k _ _ l0 60 true _ ?side1 ?side2 A2.out).mono ?_); (case side1 => repeat (first | exact HR0.out | (with_reducible refine Kd.C_alloc ?_ _) | (with_reducible refine Kd.C_drewN ?_ _) | (with_reducible refine Kd.C_drew ?_))); (case side2 => exact HC0.out); rintro e w' ⟨rfl, ⟨nd, rfl⟩⟩; refine ⟨_, rfl, ?_⟩))
    go_loopg [3] k (fun kq v3 w' => ∃ (x3_1 : Int), v3 = .int .i64 x3_1 ∧ Aside0 (bonsailaw21_RowsWrites.l0 kq l0 x3_1 = some r) ∧ Aside0 (kq ≤ k) ∧ Aside0 (Below w.heap.size w w'))
    case atStart => exact ⟨(0), (by first | rfl | (simp; done) | (simp [*]; done)), H', ⟨Nat.le_refl _⟩, ⟨by repeat (first | (with_reducible first | exact HB.out | apply below_alloc | apply pw_below_drewN | apply below_drew1) | exact HB.out)⟩⟩
    case round =>
      clear H'
      try clear p2
      try clear c3
      obtain ⟨x3_1, rfl, HA, HK1, HB⟩ := hrel
      cases gk with
      | zero => exact absurd HA.out (by simp [bonsailaw21_RowsWrites.l0])
      | succ k1 =>
        have H := HA.out
        clear HA
        simp only [bonsailaw21_RowsWrites.l0] at H
        by_cases c4 : x3_1 < (l0.length : Int)
        · rw [if_pos c4] at H
          have c4b0 : decide (x3_1 < (l0.length : Int)) = true := decide_eq_true c4
          clear c4
          by_cases c5 : 0 ≤ x3_1
          · rw [if_pos c5] at H
            have c5b0 : decide (0 ≤ x3_1) = true := decide_eq_true c5
            clear c5
            replace H := Option.bind_eq_some_iff.mp H
            obtain ⟨t208, A60, H⟩ := H
            replace H : ((bonsairef21_One.f k1 ((rd_T30 l0 x3_1).f0.f0) ((rd_T30 l0 x3_1).f0.f1) ((rd_T30 l0 x3_1).f1) ((rd_T30 l0 x3_1).f2) ((rd_T30 l0 x3_1).f3) ((rd_T30 l0 x3_1).f4)).bind fun t210 => (if t208.toList = t210.toList then (bonsailaw21_RowsWrites.l0 k1 l0 (wrap64 (x3_1 + 1))) else (some false))) = some r := H
            have A6 := Aside0.mk A60
            clear A60
            replace H := Option.bind_eq_some_iff.mp H
            obtain ⟨t210, A70, H⟩ := H
            replace H : (if t208.toList = t210.toList then (bonsailaw21_RowsWrites.l0 k1 l0 (wrap64 (x3_1 + 1))) else (some false)) = some r := H
            have A7 := Aside0.mk A70
            clear A70
            by_cases c8 : t208.toList = t210.toList
            · rw [if_pos c8] at H
              have c8b0 : (t208.toList == t210.toList) = true := beq_iff_eq.mpr c8
              have c8b1 : (t208.toList != t210.toList) = false := bne_eq_false_iff_eq.mpr c8
              clear c8
              have H' := Aside0.mk H
              clear H
              try go_wp2
              have n0_ := Aside0.mk (below_drew1 HB.out)
              clear HB
              have HB := n0_
              clear n0_
              have p207 : 0 ≤ (x3_1 : Int) := of_decide_eq_true (by first | (with_reducible assumption) | assumption)
              have q207 : x3_1 < (l0.length : Int) := of_decide_eq_true (by first | (with_reducible assumption) | assumption)
              obtain ⟨ad207, e207, hx207_0, hx207_1, hx207_2, hx207_3, hx207_4, hx207_5⟩ := at_T30 HR0.out x3_1 p207 q207
              have hw207_5 := hx207_5
              have hw207_4 := hx207_4
              have hw207_3 := hx207_3
              have hw207_2 := hx207_2
              have hw207_1 := hx207_1
              have hw207_0 := hx207_0
              cases e207
              replace hx207_0 := (HB.out.cell (World.block_lt_of_cell? w _ hx207_0)).trans hx207_0
              replace hx207_1 := (HB.out.cell (World.block_lt_of_cell? w _ hx207_1)).trans hx207_1
              replace hx207_2 := (HB.out.cell (World.block_lt_of_cell? w _ hx207_2)).trans hx207_2
              replace hx207_3 := (HB.out.cell (World.block_lt_of_cell? w _ hx207_3)).trans hx207_3
              replace hx207_4 := (HB.out.cell (World.block_lt_of_cell? w _ hx207_4)).trans hx207_4
              replace hx207_5 := (HB.out.cell (World.block_lt_of_cell? w _ hx207_5)).trans hx207_5
              replace p207 := eq_true p207
              replace q207 := eq_true q207
              have p209 : 0 ≤ (x3_1 : Int) := of_decide_eq_true (by first | (with_reducible assumption) | assumption)
              have q209 : x3_1 < (l0.length : Int) := of_decide_eq_true (by first | (with_reducible assumption) | assumption)
              obtain ⟨ad209, e209, hx209_0, hx209_1, hx209_2, hx209_3, hx209_4, hx209_5⟩ := at_T30 HR0.out x3_1 p209 q209
              have hw209_5 := hx209_5
              have hw209_4 := hx209_4
              have hw209_3 := hx209_3
              have hw209_2 := hx209_2
              have hw209_1 := hx209_1
              have hw209_0 := hx209_0
              obtain rfl : ad207 = ad209 := (by injection e209)
              replace hx209_0 := (HB.out.cell (World.block_lt_of_cell? w _ hx209_0)).trans hx209_0
              replace hx209_1 := (HB.out.cell (World.block_lt_of_cell? w _ hx209_1)).trans hx209_1
              replace hx209_2 := (HB.out.cell (World.block_lt_of_cell? w _ hx209_2)).trans hx209_2
              replace hx209_3 := (HB.out.cell (World.block_lt_of_cell? w _ hx209_3)).trans hx209_3
              replace hx209_4 := (HB.out.cell (World.block_lt_of_cell? w _ hx209_4)).trans hx209_4
              replace hx209_5 := (HB.out.cell (World.block_lt_of_cell? w _ hx209_5)).trans hx209_5
              replace p209 := eq_true p209
              replace q209 := eq_true q209
              refine start_ (n := 11) (S := fun w' => w'.cell? (ad207.add ((x3_1).toNat * 6)) = some (.int .i64 ((rd_T30 l0 x3_1).f0.f0)) ∧ w'.cell? ⟨(ad207.add ((x3_1).toNat * 6)).block, (ad207.add ((x3_1).toNat * 6)).off + 1, none⟩ = some (.int .i64 ((rd_T30 l0 x3_1).f0.f1)) ∧ w'.cell? ⟨(ad207.add ((x3_1).toNat * 6)).block, (ad207.add ((x3_1).toNat * 6)).off + 2, none⟩ = some (.int .i64 ((rd_T30 l0 x3_1).f1)) ∧ w'.cell? ⟨(ad207.add ((x3_1).toNat * 6)).block, (ad207.add ((x3_1).toNat * 6)).off + 3, none⟩ = some (.int .i64 ((rd_T30 l0 x3_1).f2)) ∧ w'.cell? ⟨(ad207.add ((x3_1).toNat * 6)).block, (ad207.add ((x3_1).toNat * 6)).off + 4, none⟩ = some (.string ((rd_T30 l0 x3_1).f3)) ∧ w'.cell? ⟨(ad207.add ((x3_1).toNat * 6)).block, (ad207.add ((x3_1).toNat * 6)).off + 5, none⟩ = some (.float .f64 ((rd_T30 l0 x3_1).f4)) ∧ w'.cell? (ad207.add ((x3_1).toNat * 6)) = some (.int .i64 ((rd_T30 l0 x3_1).f0.f0)) ∧ w'.cell? ⟨(ad207.add ((x3_1).toNat * 6)).block, (ad207.add ((x3_1).toNat * 6)).off + 1, none⟩ = some (.int .i64 ((rd_T30 l0 x3_1).f0.f1)) ∧ w'.cell? ⟨(ad207.add ((x3_1).toNat * 6)).block, (ad207.add ((x3_1).toNat * 6)).off + 2, none⟩ = some (.int .i64 ((rd_T30 l0 x3_1).f1)) ∧ w'.cell? ⟨(ad207.add ((x3_1).toNat * 6)).block, (ad207.add ((x3_1).toNat * 6)).off + 3, none⟩ = some (.int .i64 ((rd_T30 l0 x3_1).f2)) ∧ w'.cell? ⟨(ad207.add ((x3_1).toNat * 6)).block, (ad207.add ((x3_1).toNat * 6)).off + 4, none⟩ = some (.string ((rd_T30 l0 x3_1).f3)) ∧ w'.cell? ⟨(ad207.add ((x3_1).toNat * 6)).block, (ad207.add ((x3_1).toNat * 6)).off + 5, none⟩ = some (.float .f64 ((rd_T30 l0 x3_1).f4))) (ds := []) #[false, false, false, false, false, false, false, false, false, false, false] (by kernel_rfl) rfl rfl ⟨((HB.out.cell (World.block_lt_of_cell? w _ hw207_0)).trans hw207_0), ((HB.out.cell (World.block_lt_of_cell? w _ hw207_1)).trans hw207_1), ((HB.out.cell (World.block_lt_of_cell? w _ hw207_2)).trans hw207_2), ((HB.out.cell (World.block_lt_of_cell? w _ hw207_3)).trans hw207_3), ((HB.out.cell (World.block_lt_of_cell? w _ hw207_4)).trans hw207_4), ((HB.out.cell (World.block_lt_of_cell? w _ hw207_5)).trans hw207_5), ((HB.out.cell (World.block_lt_of_cell? w _ hw209_0)).trans hw209_0), ((HB.out.cell (World.block_lt_of_cell? w _ hw209_1)).trans hw209_1), ((HB.out.cell (World.block_lt_of_cell? w _ hw209_2)).trans hw209_2), ((HB.out.cell (World.block_lt_of_cell? w _ hw209_3)).trans hw209_3), ((HB.out.cell (World.block_lt_of_cell? w _ hw209_4)).trans hw209_4), ((HB.out.cell (World.block_lt_of_cell? w _ hw209_5)).trans hw209_5)⟩ (fun hHeld => ?_); refine with_tabW bonsailaw21_RowsWrites.tab6 bonsailaw21_RowsWrites.bits6 (fun HT_ HW_ => ?_)
              generalize wr.drew = w9 at HB hx207_0 hx207_1 hx207_2 hx207_3 hx207_4 hx207_5 hx209_0 hx209_1 hx209_2 hx209_3 hx209_4 hx209_5 hHeld ⊢
              refine pure_ (i := 0) (N := some 18) (v := ?_) (a' := ?_) #[true, false, false, false, false, false, false, false, false, false, false] rfl rfl (any_of HT_.out (by kernel_rfl)) (fun _ _ _ h => h) (Or.inl ⟨by rfl, ?_⟩) ?_ ?_
              rotate_left
              · intro w'
                go_simp
                with_reducible rfl
              rotate_left
              · simp only [Act.put, List.setIfInBounds_toArray, List.set_cons_zero, List.set_cons_succ, i64_w, i32_w]
                rfl
              refine pure_ (i := 1) (N := some 19) (v := ?_) (a' := ?_) #[true, true, false, false, false, false, false, false, false, false, false] rfl rfl (any_of HT_.out (by kernel_rfl)) (fun _ _ _ h => h) (Or.inl ⟨by rfl, ?_⟩) ?_ ?_
              rotate_left
              · intro w'
                go_simp
                with_reducible rfl
              rotate_left
              · simp only [Act.put, List.setIfInBounds_toArray, List.set_cons_zero, List.set_cons_succ, i64_w, i32_w]
                rfl
              refine pure_ (i := 2) (N := some 20) (v := ?_) (a' := ?_) #[true, true, true, false, false, false, false, false, false, false, false] rfl rfl (any_of HT_.out (by kernel_rfl)) (fun _ _ _ h => h) (Or.inl ⟨by rfl, ?_⟩) ?_ ?_
              rotate_left
              · intro w'
                go_simp
                with_reducible rfl
              rotate_left
              · simp only [Act.put, List.setIfInBounds_toArray, List.set_cons_zero, List.set_cons_succ, i64_w, i32_w]
                rfl
              refine pure_ (i := 5) (N := some 23) (v := ?_) (a' := ?_) #[true, true, true, false, false, true, false, false, false, false, false] rfl rfl (any_of HT_.out (by kernel_rfl)) (fun _ _ _ h => h) (Or.inl ⟨by rfl, ?_⟩) ?_ ?_
              rotate_left
              · intro w'
                go_simp
                with_reducible rfl
              rotate_left
              · simp only [Act.put, List.setIfInBounds_toArray, List.set_cons_zero, List.set_cons_succ, i64_w, i32_w]
                rfl
              refine pure_ (i := 6) (N := some 24) (v := ?_) (a' := ?_) #[true, true, true, false, false, true, true, false, false, false, false] rfl rfl (any_of HT_.out (by kernel_rfl)) (fun _ _ _ h => h) (Or.inl ⟨by rfl, ?_⟩) ?_ ?_
              rotate_left
              · intro w'
                go_simp
                with_reducible rfl
              rotate_left
              · simp only [Act.put, List.setIfInBounds_toArray, List.set_cons_zero, List.set_cons_succ, i64_w, i32_w]
                rfl
              refine pure_ (i := 7) (N := some 25) (v := ?_) (a' := ?_) #[true, true, true, false, false, true, true, true, false, false, false] rfl rfl (any_of HT_.out (by kernel_rfl)) (fun _ _ _ h => h) (Or.inl ⟨by rfl, ?_⟩) ?_ ?_
              rotate_left
              · intro w'
                go_simp
                with_reducible rfl
              rotate_left
              · simp only [Act.put, List.setIfInBounds_toArray, List.set_cons_zero, List.set_cons_succ, i64_w, i32_w]
                rfl
              refine take_ (i := 3) (N := some 21) (v := ?_) (a' := ?_) #[true, true, true, true, false, true, true, true, false, false, false] rfl rfl (take_ofW HT_.out HW_.out (by kernel_rfl)) (fun _ _ _ h => h) (Or.inl ⟨by rfl, ?_⟩) hHeld ?_ ?_
              rotate_left
              · rintro w' ⟨s0, s1, s2, s3, s4, s5, s6, s7, s8, s9, s10, s11⟩
                go_simp
                with_reducible rfl
              rotate_left
              · simp only [Act.put, List.setIfInBounds_toArray, List.set_cons_zero, List.set_cons_succ, i64_w, i32_w]
                rfl
              refine take_ (i := 8) (N := some 26) (v := ?_) (a' := ?_) #[true, true, true, true, false, true, true, true, true, false, false] rfl rfl (take_ofW HT_.out HW_.out (by kernel_rfl)) (fun _ _ _ h => h) (Or.inl ⟨by rfl, ?_⟩) hHeld ?_ ?_
              rotate_left
              · rintro w' ⟨s0, s1, s2, s3, s4, s5, s6, s7, s8, s9, s10, s11⟩
                go_simp
                with_reducible rfl
              rotate_left
              · simp only [Act.put, List.setIfInBounds_toArray, List.set_cons_zero, List.set_cons_succ, i64_w, i32_w]
                rfl
              refine one_ (i := 4) (N := some 22) #[true, true, true, true, true, true, true, true, true, false, false] rfl rfl (one_of HT_.out (by kernel_rfl)) (by decide) (fun K hK => ?_)
              refine goes_ Try.func9 (by kernel_rfl) rfl #[.agg #[.int .i64 ((rd_T30 l0 x3_1).f0.f0), .int .i64 ((rd_T30 l0 x3_1).f0.f1), .int .i64 ((rd_T30 l0 x3_1).f1), .int .i64 ((rd_T30 l0 x3_1).f2), .string ((rd_T30 l0 x3_1).f3), .float .f64 ((rd_T30 l0 x3_1).f4)]] (by rfl) rfl rfl (by (try simp only [List.map_toArray, List.map_cons, List.map_nil]); first | done | rfl | (simp only [List.length_drop, List.length_take]; rfl)) ?_
              with_reducible refine (rows_One.calls ((rd_T30 l0 x3_1).f0.f0) ((rd_T30 l0 x3_1).f0.f1) ((rd_T30 l0 x3_1).f1) ((rd_T30 l0 x3_1).f2) ((rd_T30 l0 x3_1).f3) ((rd_T30 l0 x3_1).f4) t208 _ A6.out).mono ?_
              rintro e w10 ⟨rfl, hb⟩
              refine ⟨_, rfl, ?_⟩
              have n0_ := Aside0.mk (below_step (by repeat (first | (with_reducible first | exact HB.out | apply below_alloc | apply pw_below_drewN | apply below_drew1) | exact HB.out)) hb)
              clear HB
              have HB := n0_
              clear n0_
              (try clear hb)
              (try clear hb2)
              (try clear hk)
              (try clear hi)
              refine hK.out _ _ ⟨((HB.out.cell (World.block_lt_of_cell? w _ hw207_0)).trans hw207_0), ((HB.out.cell (World.block_lt_of_cell? w _ hw207_1)).trans hw207_1), ((HB.out.cell (World.block_lt_of_cell? w _ hw207_2)).trans hw207_2), ((HB.out.cell (World.block_lt_of_cell? w _ hw207_3)).trans hw207_3), ((HB.out.cell (World.block_lt_of_cell? w _ hw207_4)).trans hw207_4), ((HB.out.cell (World.block_lt_of_cell? w _ hw207_5)).trans hw207_5), ((HB.out.cell (World.block_lt_of_cell? w _ hw209_0)).trans hw209_0), ((HB.out.cell (World.block_lt_of_cell? w _ hw209_1)).trans hw209_1), ((HB.out.cell (World.block_lt_of_cell? w _ hw209_2)).trans hw209_2), ((HB.out.cell (World.block_lt_of_cell? w _ hw209_3)).trans hw209_3), ((HB.out.cell (World.block_lt_of_cell? w _ hw209_4)).trans hw209_4), ((HB.out.cell (World.block_lt_of_cell? w _ hw209_5)).trans hw209_5)⟩ (fun hHeld => ?_)
              clear hK K
              refine norm_ (a' := ?_) ?_ ?_
              rotate_left
              · show Act.put _ (some 22) _ = _
                simp only [Act.put, List.setIfInBounds_toArray, List.set_cons_zero, List.set_cons_succ, i64_w, i32_w]
                rfl
              refine one_ (i := 9) (N := some 27) #[true, true, true, true, true, true, true, true, true, true, false] rfl rfl (one_of HT_.out (by kernel_rfl)) (by decide) (fun K hK => ?_)
              refine goes_ Try.func10 (by kernel_rfl) rfl #[.agg #[.int .i64 ((rd_T30 l0 x3_1).f0.f0), .int .i64 ((rd_T30 l0 x3_1).f0.f1), .int .i64 ((rd_T30 l0 x3_1).f1), .int .i64 ((rd_T30 l0 x3_1).f2), .string ((rd_T30 l0 x3_1).f3), .float .f64 ((rd_T30 l0 x3_1).f4)]] (by rfl) rfl rfl (by (try simp only [List.map_toArray, List.map_cons, List.map_nil]); first | done | rfl | (simp only [List.length_drop, List.length_take]; rfl)) ?_
              with_reducible refine (bonsairef21_One.calls k1 ((rd_T30 l0 x3_1).f0.f0) ((rd_T30 l0 x3_1).f0.f1) ((rd_T30 l0 x3_1).f1) ((rd_T30 l0 x3_1).f2) ((rd_T30 l0 x3_1).f3) ((rd_T30 l0 x3_1).f4) t210 _ A7.out).mono ?_
              rintro e w11 ⟨rfl, hb⟩
              refine ⟨_, rfl, ?_⟩
              have n0_ := Aside0.mk (below_step (by repeat (first | (with_reducible first | exact HB.out | apply below_alloc | apply pw_below_drewN | apply below_drew1) | exact HB.out)) hb)
              clear HB
              have HB := n0_
              clear n0_
              (try clear hb)
              (try clear hb2)
              (try clear hk)
              (try clear hi)
              refine hK.out _ _ ⟨((HB.out.cell (World.block_lt_of_cell? w _ hw207_0)).trans hw207_0), ((HB.out.cell (World.block_lt_of_cell? w _ hw207_1)).trans hw207_1), ((HB.out.cell (World.block_lt_of_cell? w _ hw207_2)).trans hw207_2), ((HB.out.cell (World.block_lt_of_cell? w _ hw207_3)).trans hw207_3), ((HB.out.cell (World.block_lt_of_cell? w _ hw207_4)).trans hw207_4), ((HB.out.cell (World.block_lt_of_cell? w _ hw207_5)).trans hw207_5), ((HB.out.cell (World.block_lt_of_cell? w _ hw209_0)).trans hw209_0), ((HB.out.cell (World.block_lt_of_cell? w _ hw209_1)).trans hw209_1), ((HB.out.cell (World.block_lt_of_cell? w _ hw209_2)).trans hw209_2), ((HB.out.cell (World.block_lt_of_cell? w _ hw209_3)).trans hw209_3), ((HB.out.cell (World.block_lt_of_cell? w _ hw209_4)).trans hw209_4), ((HB.out.cell (World.block_lt_of_cell? w _ hw209_5)).trans hw209_5)⟩ (fun hHeld => ?_)
              clear hK K
              refine norm_ (a' := ?_) ?_ ?_
              rotate_left
              · show Act.put _ (some 27) _ = _
                simp only [Act.put, List.setIfInBounds_toArray, List.set_cons_zero, List.set_cons_succ, i64_w, i32_w]
                rfl
              refine pure_ (i := 10) (N := some 28) (v := ?_) (a' := ?_) #[true, true, true, true, true, true, true, true, true, true, true] rfl rfl (any_of HT_.out (by kernel_rfl)) (fun _ _ _ h => h) (Or.inl ⟨by rfl, ?_⟩) ?_ ?_
              rotate_left
              · intro w'
                go_simp
                with_reducible rfl
              rotate_left
              · simp only [Act.put, List.setIfInBounds_toArray, List.set_cons_zero, List.set_cons_succ, i64_w, i32_w]
                rfl
              refine done_ (done_of HT_.out (by kernel_rfl)) ?_
              try go_wp2
              go_roundg k1
              case measure => have := HK1.out; omega
              case rel => exact ⟨(wrap64 (x3_1 + 1)), (by first | rfl | (simp; done) | (simp [*]; done)), H', ⟨by have := HK1.out; omega⟩, ⟨by repeat (first | (with_reducible first | exact HB.out | apply below_alloc | apply pw_below_drewN | apply below_drew1) | exact HB.out)⟩⟩
            · rw [if_neg c8] at H
              have c8b0 : (t208.toList == t210.toList) = false := beq_eq_false_iff_ne.mpr c8
              have c8b1 : (t208.toList != t210.toList) = true := bne_iff_ne.mpr c8
              obtain rfl := Option.some.inj H
              try go_wp2
              have n0_ := Aside0.mk (below_drew1 HB.out)
              clear HB
              have HB := n0_
              clear n0_
              have p207 : 0 ≤ (x3_1 : Int) := of_decide_eq_true (by first | (with_reducible assumption) | assumption)
              have q207 : x3_1 < (l0.length : Int) := of_decide_eq_true (by first | (with_reducible assumption) | assumption)
              obtain ⟨ad207, e207, hx207_0, hx207_1, hx207_2, hx207_3, hx207_4, hx207_5⟩ := at_T30 HR0.out x3_1 p207 q207
              have hw207_5 := hx207_5
              have hw207_4 := hx207_4
              have hw207_3 := hx207_3
              have hw207_2 := hx207_2
              have hw207_1 := hx207_1
              have hw207_0 := hx207_0
              cases e207
              replace hx207_0 := (HB.out.cell (World.block_lt_of_cell? w _ hx207_0)).trans hx207_0
              replace hx207_1 := (HB.out.cell (World.block_lt_of_cell? w _ hx207_1)).trans hx207_1
              replace hx207_2 := (HB.out.cell (World.block_lt_of_cell? w _ hx207_2)).trans hx207_2
              replace hx207_3 := (HB.out.cell (World.block_lt_of_cell? w _ hx207_3)).trans hx207_3
              replace hx207_4 := (HB.out.cell (World.block_lt_of_cell? w _ hx207_4)).trans hx207_4
              replace hx207_5 := (HB.out.cell (World.block_lt_of_cell? w _ hx207_5)).trans hx207_5
              replace p207 := eq_true p207
              replace q207 := eq_true q207
              have p209 : 0 ≤ (x3_1 : Int) := of_decide_eq_true (by first | (with_reducible assumption) | assumption)
              have q209 : x3_1 < (l0.length : Int) := of_decide_eq_true (by first | (with_reducible assumption) | assumption)
              obtain ⟨ad209, e209, hx209_0, hx209_1, hx209_2, hx209_3, hx209_4, hx209_5⟩ := at_T30 HR0.out x3_1 p209 q209
              have hw209_5 := hx209_5
              have hw209_4 := hx209_4
              have hw209_3 := hx209_3
              have hw209_2 := hx209_2
              have hw209_1 := hx209_1
              have hw209_0 := hx209_0
              obtain rfl : ad207 = ad209 := (by injection e209)
              replace hx209_0 := (HB.out.cell (World.block_lt_of_cell? w _ hx209_0)).trans hx209_0
              replace hx209_1 := (HB.out.cell (World.block_lt_of_cell? w _ hx209_1)).trans hx209_1
              replace hx209_2 := (HB.out.cell (World.block_lt_of_cell? w _ hx209_2)).trans hx209_2
              replace hx209_3 := (HB.out.cell (World.block_lt_of_cell? w _ hx209_3)).trans hx209_3
              replace hx209_4 := (HB.out.cell (World.block_lt_of_cell? w _ hx209_4)).trans hx209_4
              replace hx209_5 := (HB.out.cell (World.block_lt_of_cell? w _ hx209_5)).trans hx209_5
              replace p209 := eq_true p209
              replace q209 := eq_true q209
              refine start_ (n := 11) (S := fun w' => w'.cell? (ad207.add ((x3_1).toNat * 6)) = some (.int .i64 ((rd_T30 l0 x3_1).f0.f0)) ∧ w'.cell? ⟨(ad207.add ((x3_1).toNat * 6)).block, (ad207.add ((x3_1).toNat * 6)).off + 1, none⟩ = some (.int .i64 ((rd_T30 l0 x3_1).f0.f1)) ∧ w'.cell? ⟨(ad207.add ((x3_1).toNat * 6)).block, (ad207.add ((x3_1).toNat * 6)).off + 2, none⟩ = some (.int .i64 ((rd_T30 l0 x3_1).f1)) ∧ w'.cell? ⟨(ad207.add ((x3_1).toNat * 6)).block, (ad207.add ((x3_1).toNat * 6)).off + 3, none⟩ = some (.int .i64 ((rd_T30 l0 x3_1).f2)) ∧ w'.cell? ⟨(ad207.add ((x3_1).toNat * 6)).block, (ad207.add ((x3_1).toNat * 6)).off + 4, none⟩ = some (.string ((rd_T30 l0 x3_1).f3)) ∧ w'.cell? ⟨(ad207.add ((x3_1).toNat * 6)).block, (ad207.add ((x3_1).toNat * 6)).off + 5, none⟩ = some (.float .f64 ((rd_T30 l0 x3_1).f4)) ∧ w'.cell? (ad207.add ((x3_1).toNat * 6)) = some (.int .i64 ((rd_T30 l0 x3_1).f0.f0)) ∧ w'.cell? ⟨(ad207.add ((x3_1).toNat * 6)).block, (ad207.add ((x3_1).toNat * 6)).off + 1, none⟩ = some (.int .i64 ((rd_T30 l0 x3_1).f0.f1)) ∧ w'.cell? ⟨(ad207.add ((x3_1).toNat * 6)).block, (ad207.add ((x3_1).toNat * 6)).off + 2, none⟩ = some (.int .i64 ((rd_T30 l0 x3_1).f1)) ∧ w'.cell? ⟨(ad207.add ((x3_1).toNat * 6)).block, (ad207.add ((x3_1).toNat * 6)).off + 3, none⟩ = some (.int .i64 ((rd_T30 l0 x3_1).f2)) ∧ w'.cell? ⟨(ad207.add ((x3_1).toNat * 6)).block, (ad207.add ((x3_1).toNat * 6)).off + 4, none⟩ = some (.string ((rd_T30 l0 x3_1).f3)) ∧ w'.cell? ⟨(ad207.add ((x3_1).toNat * 6)).block, (ad207.add ((x3_1).toNat * 6)).off + 5, none⟩ = some (.float .f64 ((rd_T30 l0 x3_1).f4))) (ds := []) #[false, false, false, false, false, false, false, false, false, false, false] (by kernel_rfl) rfl rfl ⟨((HB.out.cell (World.block_lt_of_cell? w _ hw207_0)).trans hw207_0), ((HB.out.cell (World.block_lt_of_cell? w _ hw207_1)).trans hw207_1), ((HB.out.cell (World.block_lt_of_cell? w _ hw207_2)).trans hw207_2), ((HB.out.cell (World.block_lt_of_cell? w _ hw207_3)).trans hw207_3), ((HB.out.cell (World.block_lt_of_cell? w _ hw207_4)).trans hw207_4), ((HB.out.cell (World.block_lt_of_cell? w _ hw207_5)).trans hw207_5), ((HB.out.cell (World.block_lt_of_cell? w _ hw209_0)).trans hw209_0), ((HB.out.cell (World.block_lt_of_cell? w _ hw209_1)).trans hw209_1), ((HB.out.cell (World.block_lt_of_cell? w _ hw209_2)).trans hw209_2), ((HB.out.cell (World.block_lt_of_cell? w _ hw209_3)).trans hw209_3), ((HB.out.cell (World.block_lt_of_cell? w _ hw209_4)).trans hw209_4), ((HB.out.cell (World.block_lt_of_cell? w _ hw209_5)).trans hw209_5)⟩ (fun hHeld => ?_); refine with_tabW bonsailaw21_RowsWrites.tab6 bonsailaw21_RowsWrites.bits6 (fun HT_ HW_ => ?_)
              generalize wr.drew = w12 at HB hx207_0 hx207_1 hx207_2 hx207_3 hx207_4 hx207_5 hx209_0 hx209_1 hx209_2 hx209_3 hx209_4 hx209_5 hHeld ⊢
              refine pure_ (i := 0) (N := some 18) (v := ?_) (a' := ?_) #[true, false, false, false, false, false, false, false, false, false, false] rfl rfl (any_of HT_.out (by kernel_rfl)) (fun _ _ _ h => h) (Or.inl ⟨by rfl, ?_⟩) ?_ ?_
              rotate_left
              · intro w'
                go_simp
                with_reducible rfl
              rotate_left
              · simp only [Act.put, List.setIfInBounds_toArray, List.set_cons_zero, List.set_cons_succ, i64_w, i32_w]
                rfl
              refine pure_ (i := 1) (N := some 19) (v := ?_) (a' := ?_) #[true, true, false, false, false, false, false, false, false, false, false] rfl rfl (any_of HT_.out (by kernel_rfl)) (fun _ _ _ h => h) (Or.inl ⟨by rfl, ?_⟩) ?_ ?_
              rotate_left
              · intro w'
                go_simp
                with_reducible rfl
              rotate_left
              · simp only [Act.put, List.setIfInBounds_toArray, List.set_cons_zero, List.set_cons_succ, i64_w, i32_w]
                rfl
              refine pure_ (i := 2) (N := some 20) (v := ?_) (a' := ?_) #[true, true, true, false, false, false, false, false, false, false, false] rfl rfl (any_of HT_.out (by kernel_rfl)) (fun _ _ _ h => h) (Or.inl ⟨by rfl, ?_⟩) ?_ ?_
              rotate_left
              · intro w'
                go_simp
                with_reducible rfl
              rotate_left
              · simp only [Act.put, List.setIfInBounds_toArray, List.set_cons_zero, List.set_cons_succ, i64_w, i32_w]
                rfl
              refine pure_ (i := 5) (N := some 23) (v := ?_) (a' := ?_) #[true, true, true, false, false, true, false, false, false, false, false] rfl rfl (any_of HT_.out (by kernel_rfl)) (fun _ _ _ h => h) (Or.inl ⟨by rfl, ?_⟩) ?_ ?_
              rotate_left
              · intro w'
                go_simp
                with_reducible rfl
              rotate_left
              · simp only [Act.put, List.setIfInBounds_toArray, List.set_cons_zero, List.set_cons_succ, i64_w, i32_w]
                rfl
              refine pure_ (i := 6) (N := some 24) (v := ?_) (a' := ?_) #[true, true, true, false, false, true, true, false, false, false, false] rfl rfl (any_of HT_.out (by kernel_rfl)) (fun _ _ _ h => h) (Or.inl ⟨by rfl, ?_⟩) ?_ ?_
              rotate_left
              · intro w'
                go_simp
                with_reducible rfl
              rotate_left
              · simp only [Act.put, List.setIfInBounds_toArray, List.set_cons_zero, List.set_cons_succ, i64_w, i32_w]
                rfl
              refine pure_ (i := 7) (N := some 25) (v := ?_) (a' := ?_) #[true, true, true, false, false, true, true, true, false, false, false] rfl rfl (any_of HT_.out (by kernel_rfl)) (fun _ _ _ h => h) (Or.inl ⟨by rfl, ?_⟩) ?_ ?_
              rotate_left
              · intro w'
                go_simp
                with_reducible rfl
              rotate_left
              · simp only [Act.put, List.setIfInBounds_toArray, List.set_cons_zero, List.set_cons_succ, i64_w, i32_w]
                rfl
              refine take_ (i := 3) (N := some 21) (v := ?_) (a' := ?_) #[true, true, true, true, false, true, true, true, false, false, false] rfl rfl (take_ofW HT_.out HW_.out (by kernel_rfl)) (fun _ _ _ h => h) (Or.inl ⟨by rfl, ?_⟩) hHeld ?_ ?_
              rotate_left
              · rintro w' ⟨s0, s1, s2, s3, s4, s5, s6, s7, s8, s9, s10, s11⟩
                go_simp
                with_reducible rfl
              rotate_left
              · simp only [Act.put, List.setIfInBounds_toArray, List.set_cons_zero, List.set_cons_succ, i64_w, i32_w]
                rfl
              refine take_ (i := 8) (N := some 26) (v := ?_) (a' := ?_) #[true, true, true, true, false, true, true, true, true, false, false] rfl rfl (take_ofW HT_.out HW_.out (by kernel_rfl)) (fun _ _ _ h => h) (Or.inl ⟨by rfl, ?_⟩) hHeld ?_ ?_
              rotate_left
              · rintro w' ⟨s0, s1, s2, s3, s4, s5, s6, s7, s8, s9, s10, s11⟩
                go_simp
                with_reducible rfl
              rotate_left
              · simp only [Act.put, List.setIfInBounds_toArray, List.set_cons_zero, List.set_cons_succ, i64_w, i32_w]
                rfl
              refine one_ (i := 4) (N := some 22) #[true, true, true, true, true, true, true, true, true, false, false] rfl rfl (one_of HT_.out (by kernel_rfl)) (by decide) (fun K hK => ?_)
              refine goes_ Try.func9 (by kernel_rfl) rfl #[.agg #[.int .i64 ((rd_T30 l0 x3_1).f0.f0), .int .i64 ((rd_T30 l0 x3_1).f0.f1), .int .i64 ((rd_T30 l0 x3_1).f1), .int .i64 ((rd_T30 l0 x3_1).f2), .string ((rd_T30 l0 x3_1).f3), .float .f64 ((rd_T30 l0 x3_1).f4)]] (by rfl) rfl rfl (by (try simp only [List.map_toArray, List.map_cons, List.map_nil]); first | done | rfl | (simp only [List.length_drop, List.length_take]; rfl)) ?_
              with_reducible refine (rows_One.calls ((rd_T30 l0 x3_1).f0.f0) ((rd_T30 l0 x3_1).f0.f1) ((rd_T30 l0 x3_1).f1) ((rd_T30 l0 x3_1).f2) ((rd_T30 l0 x3_1).f3) ((rd_T30 l0 x3_1).f4) t208 _ A6.out).mono ?_
              rintro e w13 ⟨rfl, hb⟩
              refine ⟨_, rfl, ?_⟩
              have n0_ := Aside0.mk (below_step (by repeat (first | (with_reducible first | exact HB.out | apply below_alloc | apply pw_below_drewN | apply below_drew1) | exact HB.out)) hb)
              clear HB
              have HB := n0_
              clear n0_
              (try clear hb)
              (try clear hb2)
              (try clear hk)
              (try clear hi)
              refine hK.out _ _ ⟨((HB.out.cell (World.block_lt_of_cell? w _ hw207_0)).trans hw207_0), ((HB.out.cell (World.block_lt_of_cell? w _ hw207_1)).trans hw207_1), ((HB.out.cell (World.block_lt_of_cell? w _ hw207_2)).trans hw207_2), ((HB.out.cell (World.block_lt_of_cell? w _ hw207_3)).trans hw207_3), ((HB.out.cell (World.block_lt_of_cell? w _ hw207_4)).trans hw207_4), ((HB.out.cell (World.block_lt_of_cell? w _ hw207_5)).trans hw207_5), ((HB.out.cell (World.block_lt_of_cell? w _ hw209_0)).trans hw209_0), ((HB.out.cell (World.block_lt_of_cell? w _ hw209_1)).trans hw209_1), ((HB.out.cell (World.block_lt_of_cell? w _ hw209_2)).trans hw209_2), ((HB.out.cell (World.block_lt_of_cell? w _ hw209_3)).trans hw209_3), ((HB.out.cell (World.block_lt_of_cell? w _ hw209_4)).trans hw209_4), ((HB.out.cell (World.block_lt_of_cell? w _ hw209_5)).trans hw209_5)⟩ (fun hHeld => ?_)
              clear hK K
              refine norm_ (a' := ?_) ?_ ?_
              rotate_left
              · show Act.put _ (some 22) _ = _
                simp only [Act.put, List.setIfInBounds_toArray, List.set_cons_zero, List.set_cons_succ, i64_w, i32_w]
                rfl
              refine one_ (i := 9) (N := some 27) #[true, true, true, true, true, true, true, true, true, true, false] rfl rfl (one_of HT_.out (by kernel_rfl)) (by decide) (fun K hK => ?_)
              refine goes_ Try.func10 (by kernel_rfl) rfl #[.agg #[.int .i64 ((rd_T30 l0 x3_1).f0.f0), .int .i64 ((rd_T30 l0 x3_1).f0.f1), .int .i64 ((rd_T30 l0 x3_1).f1), .int .i64 ((rd_T30 l0 x3_1).f2), .string ((rd_T30 l0 x3_1).f3), .float .f64 ((rd_T30 l0 x3_1).f4)]] (by rfl) rfl rfl (by (try simp only [List.map_toArray, List.map_cons, List.map_nil]); first | done | rfl | (simp only [List.length_drop, List.length_take]; rfl)) ?_
              with_reducible refine (bonsairef21_One.calls k1 ((rd_T30 l0 x3_1).f0.f0) ((rd_T30 l0 x3_1).f0.f1) ((rd_T30 l0 x3_1).f1) ((rd_T30 l0 x3_1).f2) ((rd_T30 l0 x3_1).f3) ((rd_T30 l0 x3_1).f4) t210 _ A7.out).mono ?_
              rintro e w14 ⟨rfl, hb⟩
              refine ⟨_, rfl, ?_⟩
              have n0_ := Aside0.mk (below_step (by repeat (first | (with_reducible first | exact HB.out | apply below_alloc | apply pw_below_drewN | apply below_drew1) | exact HB.out)) hb)
              clear HB
              have HB := n0_
              clear n0_
              (try clear hb)
              (try clear hb2)
              (try clear hk)
              (try clear hi)
              refine hK.out _ _ ⟨((HB.out.cell (World.block_lt_of_cell? w _ hw207_0)).trans hw207_0), ((HB.out.cell (World.block_lt_of_cell? w _ hw207_1)).trans hw207_1), ((HB.out.cell (World.block_lt_of_cell? w _ hw207_2)).trans hw207_2), ((HB.out.cell (World.block_lt_of_cell? w _ hw207_3)).trans hw207_3), ((HB.out.cell (World.block_lt_of_cell? w _ hw207_4)).trans hw207_4), ((HB.out.cell (World.block_lt_of_cell? w _ hw207_5)).trans hw207_5), ((HB.out.cell (World.block_lt_of_cell? w _ hw209_0)).trans hw209_0), ((HB.out.cell (World.block_lt_of_cell? w _ hw209_1)).trans hw209_1), ((HB.out.cell (World.block_lt_of_cell? w _ hw209_2)).trans hw209_2), ((HB.out.cell (World.block_lt_of_cell? w _ hw209_3)).trans hw209_3), ((HB.out.cell (World.block_lt_of_cell? w _ hw209_4)).trans hw209_4), ((HB.out.cell (World.block_lt_of_cell? w _ hw209_5)).trans hw209_5)⟩ (fun hHeld => ?_)
              clear hK K
              refine norm_ (a' := ?_) ?_ ?_
              rotate_left
              · show Act.put _ (some 27) _ = _
                simp only [Act.put, List.setIfInBounds_toArray, List.set_cons_zero, List.set_cons_succ, i64_w, i32_w]
                rfl
              refine pure_ (i := 10) (N := some 28) (v := ?_) (a' := ?_) #[true, true, true, true, true, true, true, true, true, true, true] rfl rfl (any_of HT_.out (by kernel_rfl)) (fun _ _ _ h => h) (Or.inl ⟨by rfl, ?_⟩) ?_ ?_
              rotate_left
              · intro w'
                go_simp
                with_reducible rfl
              rotate_left
              · simp only [Act.put, List.setIfInBounds_toArray, List.set_cons_zero, List.set_cons_succ, i64_w, i32_w]
                rfl
              refine done_ (done_of HT_.out (by kernel_rfl)) ?_
              try go_wp2
              go_ret
              exact ⟨by first | rfl | (simp [errW_none, errW_some] <;> rfl) | (simp [*, errW_none, errW_some] <;> rfl), by repeat (first | (with_reducible first | exact HB.out | apply below_alloc | apply pw_below_drewN | apply below_drew1) | exact HB.out)⟩
          · rw [if_neg c5] at H
            exact absurd H (by simp)
        · rw [if_neg c4] at H
          have c4b0 : decide (x3_1 < (l0.length : Int)) = false := decide_eq_false c4
          clear c4
          replace H := Option.bind_eq_some_iff.mp H
          obtain ⟨⟨t202, t203⟩, A150, H⟩ := H
          replace H : ((bonsairef21_Encode.f k1 l0).bind fun bt204 => (if t202.toList = bt204.1.toList then (if t203 = bt204.2 then ((bonsailaw21_live.f).bind fun t206 => (some t206)) else (some false)) else (some false))) = some r := H
          have A15 := Aside0.mk A150
          clear A150
          replace H := Option.bind_eq_some_iff.mp H
          obtain ⟨⟨t204, t205⟩, A160, H⟩ := H
          replace H : (if t202.toList = t204.toList then (if t203 = t205 then ((bonsailaw21_live.f).bind fun t206 => (some t206)) else (some false)) else (some false)) = some r := H
          have A16 := Aside0.mk A160
          clear A160
          by_cases c17 : t202.toList = t204.toList
          · rw [if_pos c17] at H
            have c17b0 : (t202.toList == t204.toList) = true := beq_iff_eq.mpr c17
            have c17b1 : (t202.toList != t204.toList) = false := bne_eq_false_iff_eq.mpr c17
            clear c17
            by_cases c18 : t203 = t205
            · rw [if_pos c18] at H
              have c18b0 : (t203 == t205) = true := beq_iff_eq.mpr c18
              have c18b1 : (t203 != t205) = false := bne_eq_false_iff_eq.mpr c18
              clear c18
              replace H := Option.bind_eq_some_iff.mp H
              obtain ⟨t206, A190, H⟩ := H
              replace H : (some t206) = some r := H
              have A19 := Aside0.mk A190
              clear A190
              obtain rfl := Option.some.inj H
              go_wp2_with (first | ((with_reducible refine gate_callee (f := 11) rfl ?_); refine goesL_ (some 31) rfl rfl Try.func11 (by kernel_rfl) rfl #[.slice A0 l0.length c0] rfl (by (try simp only [List.map_toArray, List.map_cons, List.map_nil]); first | done | rfl | (simp only [List.length_drop, List.length_take]; rfl)) ?_; (with_reducible refine (rows_Encode.calls _ _ l0 t202 t203 _ ?side1 ?side2 A15.out).mono ?_); (case side1 => repeat (first | exact (Kd.C_below HR0.out HB.out) | (with_reducible refine Kd.C_alloc ?_ _) | (with_reducible refine Kd.C_drewN ?_ _) | (with_reducible refine Kd.C_drew ?_))); (case side2 => exact HC0.out); rintro e w20 ⟨rfl, hb⟩; refine ⟨_, rfl, ?_⟩; have n0_ := Aside0.mk (below_step (by repeat (first | (with_reducible first | exact HB.out | apply below_alloc | apply pw_below_drewN | apply below_drew1) | exact HB.out)) hb); clear HB; have HB := n0_; clear n0_; (try clear hb); (try clear hb2); (try clear hk); (try clear hi)) | ((with_reducible refine gate_callee (f := 12) rfl ?_); refine goesL_ (some 36) rfl rfl Try.func12 (by kernel_rfl) rfl #[.slice A0 l0.length c0] rfl (by (try simp only [List.map_toArray, List.map_cons, List.map_nil]); first | done | rfl | (simp only [List.length_drop, List.length_take]; rfl)) ?_; (with_reducible refine (bonsairef21_Encode.calls k1 _ _ l0 t204 t205 _ ?side1 ?side2 A16.out).mono ?_); (case side1 => repeat (first | exact (Kd.C_below HR0.out HB.out) | (with_reducible refine Kd.C_alloc ?_ _) | (with_reducible refine Kd.C_drewN ?_ _) | (with_reducible refine Kd.C_drew ?_))); (case side2 => exact HC0.out); rintro e w21 ⟨rfl, hb⟩; refine ⟨_, rfl, ?_⟩; have n0_ := Aside0.mk (below_step (by repeat (first | (with_reducible first | exact HB.out | apply below_alloc | apply pw_below_drewN | apply below_drew1) | exact HB.out)) hb); clear HB; have HB := n0_; clear n0_; (try clear hb); (try clear hb2); (try clear hk); (try clear hi)) | (go_at_call 8; (with_reducible refine (bonsailaw21_live.calls  t206 _ A19.out).mono ?_); rintro e w22 ⟨rfl, hb⟩; have n0_ := Aside0.mk (below_step (by repeat (first | (with_reducible first | exact HB.out | apply below_alloc | apply pw_below_drewN | apply below_drew1) | exact HB.out)) hb); clear HB; have HB := n0_; clear n0_; (try clear hb); (try clear hb2); (try clear hk); (try clear hi)))
              go_ret
              exact ⟨by first | rfl | (simp [errW_none, errW_some] <;> rfl) | (simp [*, errW_none, errW_some] <;> rfl), by repeat (first | (with_reducible first | exact HB.out | apply below_alloc | apply pw_below_drewN | apply below_drew1) | exact HB.out)⟩
            · rw [if_neg c18] at H
              have c18b0 : (t203 == t205) = false := beq_eq_false_iff_ne.mpr c18
              have c18b1 : (t203 != t205) = true := bne_iff_ne.mpr c18
              obtain rfl := Option.some.inj H
              go_wp2_with (first | ((with_reducible refine gate_callee (f := 11) rfl ?_); refine goesL_ (some 31) rfl rfl Try.func11 (by kernel_rfl) rfl #[.slice A0 l0.length c0] rfl (by (try simp only [List.map_toArray, List.map_cons, List.map_nil]); first | done | rfl | (simp only [List.length_drop, List.length_take]; rfl)) ?_; (with_reducible refine (rows_Encode.calls _ _ l0 t202 t203 _ ?side1 ?side2 A15.out).mono ?_); (case side1 => repeat (first | exact (Kd.C_below HR0.out HB.out) | (with_reducible refine Kd.C_alloc ?_ _) | (with_reducible refine Kd.C_drewN ?_ _) | (with_reducible refine Kd.C_drew ?_))); (case side2 => exact HC0.out); rintro e w23 ⟨rfl, hb⟩; refine ⟨_, rfl, ?_⟩; have n0_ := Aside0.mk (below_step (by repeat (first | (with_reducible first | exact HB.out | apply below_alloc | apply pw_below_drewN | apply below_drew1) | exact HB.out)) hb); clear HB; have HB := n0_; clear n0_; (try clear hb); (try clear hb2); (try clear hk); (try clear hi)) | ((with_reducible refine gate_callee (f := 12) rfl ?_); refine goesL_ (some 36) rfl rfl Try.func12 (by kernel_rfl) rfl #[.slice A0 l0.length c0] rfl (by (try simp only [List.map_toArray, List.map_cons, List.map_nil]); first | done | rfl | (simp only [List.length_drop, List.length_take]; rfl)) ?_; (with_reducible refine (bonsairef21_Encode.calls k1 _ _ l0 t204 t205 _ ?side1 ?side2 A16.out).mono ?_); (case side1 => repeat (first | exact (Kd.C_below HR0.out HB.out) | (with_reducible refine Kd.C_alloc ?_ _) | (with_reducible refine Kd.C_drewN ?_ _) | (with_reducible refine Kd.C_drew ?_))); (case side2 => exact HC0.out); rintro e w24 ⟨rfl, hb⟩; refine ⟨_, rfl, ?_⟩; have n0_ := Aside0.mk (below_step (by repeat (first | (with_reducible first | exact HB.out | apply below_alloc | apply pw_below_drewN | apply below_drew1) | exact HB.out)) hb); clear HB; have HB := n0_; clear n0_; (try clear hb); (try clear hb2); (try clear hk); (try clear hi)))
              go_ret
              exact ⟨by first | rfl | (simp [errW_none, errW_some] <;> rfl) | (simp [*, errW_none, errW_some] <;> rfl), by repeat (first | (with_reducible first | exact HB.out | apply below_alloc | apply pw_below_drewN | apply below_drew1) | exact HB.out)⟩
          · rw [if_neg c17] at H
            have c17b0 : (t202.toList == t204.toList) = false := beq_eq_false_iff_ne.mpr c17
            have c17b1 : (t202.toList != t204.toList) = true := bne_iff_ne.mpr c17
            obtain rfl := Option.some.inj H
            go_wp2_with (first | ((with_reducible refine gate_callee (f := 11) rfl ?_); refine goesL_ (some 31) rfl rfl Try.func11 (by kernel_rfl) rfl #[.slice A0 l0.length c0] rfl (by (try simp only [List.map_toArray, List.map_cons, List.map_nil]); first | done | rfl | (simp only [List.length_drop, List.length_take]; rfl)) ?_; (with_reducible refine (rows_Encode.calls _ _ l0 t202 t203 _ ?side1 ?side2 A15.out).mono ?_); (case side1 => repeat (first | exact (Kd.C_below HR0.out HB.out) | (with_reducible refine Kd.C_alloc ?_ _) | (with_reducible refine Kd.C_drewN ?_ _) | (with_reducible refine Kd.C_drew ?_))); (case side2 => exact HC0.out); rintro e w25 ⟨rfl, hb⟩; refine ⟨_, rfl, ?_⟩; have n0_ := Aside0.mk (below_step (by repeat (first | (with_reducible first | exact HB.out | apply below_alloc | apply pw_below_drewN | apply below_drew1) | exact HB.out)) hb); clear HB; have HB := n0_; clear n0_; (try clear hb); (try clear hb2); (try clear hk); (try clear hi)) | ((with_reducible refine gate_callee (f := 12) rfl ?_); refine goesL_ (some 36) rfl rfl Try.func12 (by kernel_rfl) rfl #[.slice A0 l0.length c0] rfl (by (try simp only [List.map_toArray, List.map_cons, List.map_nil]); first | done | rfl | (simp only [List.length_drop, List.length_take]; rfl)) ?_; (with_reducible refine (bonsairef21_Encode.calls k1 _ _ l0 t204 t205 _ ?side1 ?side2 A16.out).mono ?_); (case side1 => repeat (first | exact (Kd.C_below HR0.out HB.out) | (with_reducible refine Kd.C_alloc ?_ _) | (with_reducible refine Kd.C_drewN ?_ _) | (with_reducible refine Kd.C_drew ?_))); (case side2 => exact HC0.out); rintro e w26 ⟨rfl, hb⟩; refine ⟨_, rfl, ?_⟩; have n0_ := Aside0.mk (below_step (by repeat (first | (with_reducible first | exact HB.out | apply below_alloc | apply pw_below_drewN | apply below_drew1) | exact HB.out)) hb); clear HB; have HB := n0_; clear n0_; (try clear hb); (try clear hb2); (try clear hk); (try clear hi)))
            go_ret
            exact ⟨by first | rfl | (simp [errW_none, errW_some] <;> rfl) | (simp [*, errW_none, errW_some] <;> rfl), by repeat (first | (with_reducible first | exact HB.out | apply below_alloc | apply pw_below_drewN | apply below_drew1) | exact HB.out)⟩
  · replace c3 := Bool.eq_false_iff.mpr c3
    subst c3
    have H1 : ((bonsailaw21_live.f).bind fun t201 => (some t201)) = some r := by rw [if_neg (show ¬ (false = true) by decide)] at H; exact H
    clear H
    have H := H1
    clear H1
    replace H := Option.bind_eq_some_iff.mp H
    obtain ⟨t201, A270, H⟩ := H
    replace H : (some t201) = some r := H
    have A27 := Aside0.mk A270
    clear A270
    obtain rfl := Option.some.inj H
    go_enter Try.func3, Try.ntmps3
    go_wp2_with (first | ((with_reducible refine gate_callee (f := 7) rfl ?_); refine goesL_ (some 9) rfl rfl Try.func7 (by kernel_rfl) rfl #[.slice A0 l0.length c0, .int .i64 60] rfl (by (try simp only [List.map_toArray, List.map_cons, List.map_nil]); first | done | rfl | (simp only [List.length_drop, List.length_take]; rfl)) ?_; (with_reducible refine (bonsairef13_Few.calls k _ _ l0 60 false _ ?side1 ?side2 A2.out).mono ?_); (case side1 => repeat (first | exact HR0.out | (with_reducible refine Kd.C_alloc ?_ _) | (with_reducible refine Kd.C_drewN ?_ _) | (with_reducible refine Kd.C_drew ?_))); (case side2 => exact HC0.out); rintro e w' ⟨rfl, ⟨nd, rfl⟩⟩; refine ⟨_, rfl, ?_⟩) | ((with_reducible refine gate_callee (f := 8) rfl ?_); refine goesL_ (some 11) rfl rfl Try.func8 (by kernel_rfl) rfl #[] rfl (by (try simp only [List.map_toArray, List.map_cons, List.map_nil]); first | done | rfl | (simp only [List.length_drop, List.length_take]; rfl)) ?_; (with_reducible refine (bonsailaw21_live.calls  t201 _ A27.out).mono ?_); rintro e w28 ⟨rfl, hb⟩; refine ⟨_, rfl, ?_⟩; have n0_ := Aside0.mk (below_step (by repeat (first | (with_reducible first | exact HB.out | apply below_alloc | apply pw_below_drewN | apply below_drew1) | exact HB.out)) hb); clear HB; have HB := n0_; clear n0_; (try clear hb); (try clear hb2); (try clear hk); (try clear hi)))
    go_ret
    exact ⟨by first | rfl | (simp [errW_none, errW_some] <;> rfl) | (simp [*, errW_none, errW_some] <;> rfl), by repeat (first | (with_reducible first | exact HB.out | apply below_alloc | apply pw_below_drewN | apply below_drew1) | exact HB.out)⟩
end Go.Proofs.Ytfcndhajcikgiaa.B
namespace Go.Proofs.Ytfcndhajcikgiaa.B
open Go.RowKit Go.Proofs.Sp Go.Proofs.Fl Go.Proofs.YtfcndhajcikgiaaW.PrintWords Go.Proofs.YtfcndhajcikgiaaW.PrintLast Go.Proofs.YtfcndhajcikgiaaW.PrintMore
theorem writes_l {l : List S30} (hr : Ranks l) (hl : l.length ≤ 60) (hn : ∀ x ∈ l, x.f3.size ≤ 100) : ∀ (d i k : Nat), i + d = l.length → d + 140 ≤ k → bonsailaw21_RowsWrites.l0 k l i = some true
  | 0, i, k, hd, hk => by
    obtain ⟨k, rfl⟩ : ∃ m, k = m + 1 := ⟨k - 1, by omega⟩
    rw [bonsailaw21_RowsWrites.l0, if_neg (by omega), encode_f hr, ref_encode_f hr k (by omega)]
    simp only [Option.bind_some]
    rw [if_pos trivial, if_pos trivial]; rfl
  | d + 1, i, k, hd, hk => by
    obtain ⟨k, rfl⟩ : ∃ m, k = m + 1 := ⟨k - 1, by omega⟩
    have hi : i < l.length := by omega
    have hm := List.getElem_mem hi
    have h1 := hn _ hm
    rw [bonsailaw21_RowsWrites.l0, if_pos (by omega), if_pos (by omega), rd_get l i hi, one_f_ (hr _ hm) (by omega), ref_one_f (hr _ hm) (by omega) k (by omega)]
    simp only [Option.bind_some]
    rw [if_pos trivial, w64 (by omega) (by omega)]
    exact writes_l hr hl hn d (i + 1) k (by omega) (by omega)
theorem writes_pure {l : List S30} (hr : Ranks l) : ∃ k, bonsailaw21_RowsWrites.f k l = some true := by
  refine ⟨l.length + 1000, ?_⟩
  unfold bonsailaw21_RowsWrites.f
  rw [few_f l 60 (by decide) _ (by omega)]
  simp only [Option.bind_some]
  by_cases h : fewB l 60 = true
  · obtain ⟨h1, h2⟩ := fewB_names h
    rw [if_pos h]
    exact writes_l hr (by omega) h2 l.length 0 _ (by omega) (by omega)
  · rw [if_neg h]; rfl
end Go.Proofs.Ytfcndhajcikgiaa.B
namespace Go.Proofs.Ytfcndhajcikgiaa.rowsWrites
open Go.ChangeShapes Go.WideShapes Go.ChangeAt Go.RowKit Go.Proofs.Ytfcndhajcikgiaa.B
open Go.ChangeMaps (open_string shut_string)
theorem own : ownKnob Try.prog.godebug = none := by kernel_rfl
theorem laidOut : laidOutB Try.prog = true := by kernel_rfl
set_option maxRecDepth 100000 in
theorem lifted (os : Os) (started : os.Started) (H : Type) (enc : TypeId × Value → H) :
    ReturnsInHanded {} Try.checked os 3 .any (Rows.rowsWritesSpec.pre6 enc Try.prog Try.f3 Rows.rowsWritesRow.domain false) (Rows.rowsWritesSpec.post enc Try.prog Try.f3 false true false false) := by
  refine returnsInHanded_of_change_sized (C := Try.checked) own started (by kernel_rfl) Try.func3
    (ChangeSpec.witness6 (enc := enc) (C := Try.checked) false ⟨#[], #[.slice none 0 0], []⟩ 8 (by kernel_rfl) (by kernel_rfl) (by kernel_rfl) (by kernel_rfl)) ?_
  intro W base args ds gs before hval0 hW hcnd hsz0 _
  have hsz : (DataW.weightsEach Try.prog (Try.f3.params.toList ++ Rows.rowsWritesSpec.plain.varTypes Try.prog) (ds ++ gs)).all (· ≤ reachBytes) = true := hsz0
  have hval : ∀ (j : Nat) t v, Try.f3.params[j]? = some t → args[j]? = some v → Value.okWide Try.prog W .any base t v := hval0
  have hW' := hW
  obtain ⟨p, q, hA0, hV, rfl, hfz, hnd⟩ := hW
  have hA : DataW.TrodAll enc Try.prog W 0 (fun _ => true) true Try.f3.params.toList args.toList ds p := hA0
  rw [Try.params3] at hA hval hsz
  obtain ⟨v0, vs0, d0, ds0, p0, q0, hargs, rfl, rfl, h0, r0⟩ := trodAll_cons hA
  obtain ⟨rfl, rfl, rfl⟩ := trodAll_nil r0
  obtain rfl : args = #[v0] := by cases args; simp_all
  obtain ⟨rfl, rfl⟩ := trodVars_none hV
  obtain ⟨a0, len0, cap0, rfl⟩ := okWide_slice Try.underlying22 (hval 0 22 v0 rfl rfl)
  have k0 := h0
  have lt0 : ∀ x ∈ p0, x.block < W.heap.size := by obtain ⟨m, hm⟩ := k0; exact DataW.trod_lt m _ _ _ hm
  obtain ⟨l0, rfl, hc0, hC0, hR0⟩ := open_moves h0
  clear hA0 hval0 hsz0 hsz
  obtain ⟨k, hk⟩ := writes_pure hR0
  refine (bonsailaw21_RowsWrites.calls k a0 cap0 l0 true W hC0 hc0 hk).mono fun e W' ⟨he, bel⟩ => ?_
  subst he
  exact ⟨_, rfl, _, _, _, [], _, [], hW', trodAll_mk1 (shut_bool Try.underlying4 _), (trodAll_cons_mk (Below.trod laidOut (by kernel_rfl) (of_decide_eq_true (by kernel_rfl)) k0 bel lt0) trodAll_mk0), rfl, bel.frame _, fun h => by cases h⟩
theorem over : Rows.rowsWritesRow.holds Try.pinned (OpenSpec.ofChange Rows.rowsWritesSpec) :=
  OpenClaim.holds_of_wide 3 Try.f3 rfl rfl rfl rfl rfl rfl rfl ⟨rfl, rfl, rfl, rfl, rfl⟩ rfl rfl rfl rfl rfl (by kernel_rfl) Try.func3 (by kernel_rfl)
    (of_decide_eq_true (by kernel_rfl)) (by unfold Func.isWrapper; first | (rw [if_pos (by decide +kernel)]; kernel_rfl) | (rw [if_neg (by decide +kernel)]; exact ⟨rfl, rfl⟩))
    (fun os started H enc _ => lifted os started H enc)
end Go.Proofs.Ytfcndhajcikgiaa.rowsWrites
namespace Go.Proofs.Ytfcndhajcikgiaa
/-- The row, under a short name, for the claim. -/
theorem rowsWrites_holds : Rows.RowsWritesSaid := rowsWrites.over
#print axioms rowsWrites_holds
end Go.Proofs.Ytfcndhajcikgiaa
