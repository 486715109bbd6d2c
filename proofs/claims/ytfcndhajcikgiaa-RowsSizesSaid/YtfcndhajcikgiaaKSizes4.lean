/- RowsSizes: for every input the law returns true, and the input reads behind the call as it read before. (Part 4 of 10.) -/
import Derived.Test.YtfcndhajcikgiaaKSizes3
set_option linter.unusedVariables false
set_option linter.unusedSimpArgs false
namespace Go.Proofs.Ytfcndhajcikgiaa.B
open Go.RowKit Go.Proofs.Sp Go.Proofs.Fl Go.Proofs.YtfcndhajcikgiaaW.PrintWords Go.Proofs.YtfcndhajcikgiaaW.PrintLast Go.Proofs.YtfcndhajcikgiaaW.PrintMore
/-- s is an end of S. -/
def Suf (S s : ByteArray) : Prop := s.size ≤ S.size ∧ S.extract (S.size - s.size) S.size = s
theorem ba_ext {a b : ByteArray} (h : a.data.toList = b.data.toList) : a = b := by
  cases a; cases b; simp only [ByteArray.mk.injEq]; exact Array.toList_inj.1 h
theorem extract_list (s : ByteArray) (i j : Nat) : (s.extract i j).data.toList = (s.data.toList.drop i).take (j - i) := by
  rw [ByteArray.data_extract, Array.toList_extract]
theorem Suf.refl (S : ByteArray) : Suf S S := ⟨Nat.le_refl _, by rw [Nat.sub_self]; apply ba_ext; rw [extract_list]; simp [List.take_of_length_le]⟩
theorem Suf.from (S : ByteArray) (i : Nat) (h : i ≤ S.size) : Suf S (S.extract i S.size) := by
  have : (S.extract i S.size).size = S.size - i := by rw [ByteArray.size_extract]; omega
  refine ⟨by omega, ?_⟩
  rw [this, show S.size - (S.size - i) = i by omega]
theorem Suf.list {S s : ByteArray} (h : Suf S s) : s.data.toList = S.data.toList.drop (S.size - s.size) := by
  have h1 := congrArg (fun x : ByteArray => x.data.toList) h.2
  simp only [extract_list] at h1
  rw [← h1, List.take_of_length_le]
  simp
theorem Suf.drop {S s : ByteArray} (h : Suf S s) (n : Nat) : Suf S (s.extract n s.size) := by
  have hz : (s.extract n s.size).size = s.size - n := by rw [ByteArray.size_extract]; omega
  have h1 := h.1
  refine ⟨by omega, ?_⟩
  apply ba_ext
  have hl : s.data.toList.length = s.size := by simp
  have hL : S.data.toList.length = S.size := by simp
  rw [extract_list, extract_list, hz, List.take_of_length_le (by simp), List.take_of_length_le (by simp), h.list, List.drop_drop]
  by_cases hn : n ≤ s.size
  · congr 1; omega
  · rw [List.drop_eq_nil_of_le (by omega), List.drop_eq_nil_of_le (by omega)]
theorem numR_suf {S : ByteArray} {q : ByteArray × Int} (hs : Suf S q.1) : Suf S (numR q).2.1 := by
  unfold numR
  split
  · split
    · exact hs.drop _
    · exact hs
  · exact hs
theorem takeR_suf {S : ByteArray} {q : ByteArray × Int} {n : Int} (hs : Suf S q.1) : Suf S (takeR q n).2.1 := by
  unfold takeR
  split
  · split
    · exact hs.drop _
    · exact hs
  · exact hs
theorem fixR_suf {S : ByteArray} {q : ByteArray × Int} (hs : Suf S q.1) : Suf S (fixR q).2.1 := takeR_suf hs
/-- Behind a text that is one. -/
theorem takeS_to {S s : ByteArray} (hS : S.size ≤ 140737488355328) (hs : Suf S s) (ht : (takeS S ((S.size : Int) - s.size)).2.2 = 0) :
    ∃ n : Nat, n ≤ s.size ∧ (takeS S ((S.size : Int) - s.size)).2.1 - ((S.size : Int) - s.size) = n ∧ (takeS S ((S.size : Int) - s.size)).2.1 = (S.size : Int) - (s.extract n s.size).size := by
  have h1 := hs.1
  have e0 : S.extract ((S.size : Int) - s.size).toNat S.size = s := by rw [show ((S.size : Int) - s.size).toNat = S.size - s.size by omega]; exact hs.2
  unfold takeS at ht ⊢
  rw [e0] at ht ⊢
  have h0 := numR_nonneg (s, 0)
  have hz := numR_size (s, 0)
  obtain ⟨q, hq⟩ : ∃ q, q = numR (s, 0) := ⟨_, rfl⟩
  rw [← hq] at ht hz h0 ⊢
  dsimp only at hz
  rw [if_neg (by omega)] at ht ⊢
  split at ht
  · rename_i c; exact absurd ht c
  · rename_i c
    rw [if_neg c]
    split at ht
    · exact absurd ht (by decide)
    · rename_i c2
      rw [if_neg c2]
      split at ht
      · exact absurd ht (by decide)
      · rename_i c3
        rw [if_neg c3]
        split at ht
        · rename_i c4
          rw [if_pos c4]
          have e1 : (q.2.1.extract q.1.toNat q.2.1.size).size = q.2.1.size - q.1.toNat := by rw [ByteArray.size_extract]; omega
          refine ⟨s.size - (q.2.1.size - q.1.toNat), by omega, ?_, ?_⟩
          · show wrap64 _ - _ = _
            rw [e1, w64 (by omega) (by omega)]; omega
          · show wrap64 _ = _
            rw [e1, w64 (by omega) (by omega), ByteArray.size_extract]; omega
        · exact absurd ht (by decide)
theorem four_four (q : ByteArray × Int) : fourAt q 4 = { a := wrap64 (numR q).1, b := wrap64 (numR (numR q).2).1, c := wrap64 (numR (numR (numR q).2).2).1, d := wrap64 (numR (numR (numR (numR q).2).2).2).1, ok := true && decide ((numR q).1 ≤ 9223372036854775807) && decide ((numR (numR q).2).1 ≤ 9223372036854775807) && decide ((numR (numR (numR q).2).2).1 ≤ 9223372036854775807) && decide ((numR (numR (numR (numR q).2).2).2).1 ≤ 9223372036854775807), q := (numR (numR (numR (numR q).2).2).2).2 } := rfl
theorem numR_err (q : ByteArray × Int) (h : q.2 ≠ 0) : numR q = (0, q) := by unfold numR; rw [if_neg h]
/-- A move, its four numbers being read. -/
def moveT (S : ByteArray) (v0 v1 v2 v3 : Int) (q : ByteArray × Int) : Option MoveS × Int × (ByteArray × Int) :=
  if q.2 ≠ 0 then (none, q.2, q) else
  if (takeS S (wrap64 ((S.size : Int) - q.1.size))).2.2 ≠ 0 then (none, (takeS S (wrap64 ((S.size : Int) - q.1.size))).2.2, q) else
  if (fixR (takeR q (wrap64 ((takeS S (wrap64 ((S.size : Int) - q.1.size))).2.1 - wrap64 ((S.size : Int) - q.1.size)))).2).2.2 ≠ 0 then (none, (fixR (takeR q (wrap64 ((takeS S (wrap64 ((S.size : Int) - q.1.size))).2.1 - wrap64 ((S.size : Int) - q.1.size)))).2).2.2, (fixR (takeR q (wrap64 ((takeS S (wrap64 ((S.size : Int) - q.1.size))).2.1 - wrap64 ((S.size : Int) - q.1.size)))).2).2) else
  if (true && decide (v0 ≤ 9223372036854775807) && decide (v1 ≤ 9223372036854775807) && decide (v2 ≤ 9223372036854775807) && decide (v3 ≤ 9223372036854775807)) && canonB (fixR (takeR q (wrap64 ((takeS S (wrap64 ((S.size : Int) - q.1.size))).2.1 - wrap64 ((S.size : Int) - q.1.size)))).2).1 && oneB (wrap64 v0) (wrap64 v1) (wrap64 v2) (wrap64 v3) (takeS S (wrap64 ((S.size : Int) - q.1.size))).1
  then (some { c := wrap64 v0, r := wrap64 v1, p := wrap64 v2, ch := wrap64 v3, name := (takeS S (wrap64 ((S.size : Int) - q.1.size))).1, rank := (fixR (takeR q (wrap64 ((takeS S (wrap64 ((S.size : Int) - q.1.size))).2.1 - wrap64 ((S.size : Int) - q.1.size)))).2).1 }, 0, (fixR (takeR q (wrap64 ((takeS S (wrap64 ((S.size : Int) - q.1.size))).2.1 - wrap64 ((S.size : Int) - q.1.size)))).2).2) else (none, 5, (fixR (takeR q (wrap64 ((takeS S (wrap64 ((S.size : Int) - q.1.size))).2.1 - wrap64 ((S.size : Int) - q.1.size)))).2).2)
theorem moveR_at {S s s1 s2 s3 s4 : ByteArray} {e e1 e2 e3 e4 v0 v1 v2 v3 : Int} (h0 : numR (s, e) = (v0, s1, e1)) (h1 : numR (s1, e1) = (v1, s2, e2)) (h2 : numR (s2, e2) = (v2, s3, e3)) (h3 : numR (s3, e3) = (v3, s4, e4)) : moveR S (s, e) = moveT S v0 v1 v2 v3 (s4, e4) := by
  unfold moveR moveT
  rw [four_four]
  simp only [h0, h1, h2, h3]
/-- Behind a text and a number of eight bytes. -/
theorem text_at {S s : ByteArray} (hS : S.size ≤ 140737488355328) (hs : Suf S s) {name : ByteArray} {tt : Int} (ht : takeS S ((S.size : Int) - s.size) = (name, tt, 0)) :
    ∃ s5, Suf S s5 ∧ tt = (S.size : Int) - s5.size ∧ (takeR (s, 0) (wrap64 (tt - ((S.size : Int) - s.size)))).2 = (s5, 0) := by
  obtain ⟨n, hn, h1, h2⟩ := takeS_to hS hs (by rw [ht])
  rw [ht] at h1 h2
  dsimp only at h1 h2
  have hz := hs.1
  refine ⟨s.extract n s.size, hs.drop n, h2, ?_⟩
  rw [h1, w64 (by omega) (by omega)]
  unfold takeR
  rw [if_pos rfl, if_pos ⟨by omega, show ((n : Nat) : Int) ≤ ((s.size : Nat) : Int) by omega⟩, Int.toNat_natCast]
theorem num_pl (S : ByteArray) (s : ByteArray) (e : Int) (hs : Suf S s) : ∃ v s1 e1, numR (s, e) = (v, s1, e1) ∧ Suf S s1 ∧ 0 ≤ v :=
  ⟨(numR (s, e)).1, (numR (s, e)).2.1, (numR (s, e)).2.2, rfl, numR_suf (q := (s, e)) hs, numR_nonneg _⟩
end Go.Proofs.Ytfcndhajcikgiaa.B
namespace Go.Proofs.Ytfcndhajcikgiaa.B
open Go.RowKit Go.Proofs.Sp Go.Proofs.Fl Go.Proofs.YtfcndhajcikgiaaW.PrintWords Go.Proofs.YtfcndhajcikgiaaW.PrintLast Go.Proofs.YtfcndhajcikgiaaW.PrintMore
theorem err_f (s : ByteArray) (er : Int) : pack_Reader_Err.f s er = some (er, s, er) := rfl
set_option maxRecDepth 100000 in
set_option maxHeartbeats 4000000 in
theorem rows_move.calls (h g : Nat) (S s : ByteArray) (er : Int) (w0 w : World) (hS : S.size ≤ 9223372036854775807) (hI : IsRows w0 w h g S s er) (hB : Below w0.heap.size w0 w) :
    Calls Try.prog 32 #[.pointer (some ⟨h, 0, none⟩)] w fun e w' => MoveOf w0 w h g S (moveR S (s, er)) e w' := by
  have S0 := Lib.hid (St.start hI hB)
  clear hI hB
  obtain ⟨m, hm⟩ : ∃ m, m = moveR S (s, er) := ⟨_, rfl⟩
  rw [← hm]
  obtain ⟨f, hf⟩ : ∃ f, f = fourAt (s, er) 4 := ⟨_, rfl⟩
  have HF := Lib.hid (rows_four.calls h g S s er w0)
  rw [← hf] at HF
  have hm2 : m = if f.q.2 ≠ 0 then (none, f.q.2, f.q) else
      if (takeS S (wrap64 ((S.size : Int) - f.q.1.size))).2.2 ≠ 0 then (none, (takeS S (wrap64 ((S.size : Int) - f.q.1.size))).2.2, f.q) else
      if (fixR (takeR f.q (wrap64 ((takeS S (wrap64 ((S.size : Int) - f.q.1.size))).2.1 - wrap64 ((S.size : Int) - f.q.1.size)))).2).2.2 ≠ 0 then (none, (fixR (takeR f.q (wrap64 ((takeS S (wrap64 ((S.size : Int) - f.q.1.size))).2.1 - wrap64 ((S.size : Int) - f.q.1.size)))).2).2.2, (fixR (takeR f.q (wrap64 ((takeS S (wrap64 ((S.size : Int) - f.q.1.size))).2.1 - wrap64 ((S.size : Int) - f.q.1.size)))).2).2) else
      if f.ok && canonB (fixR (takeR f.q (wrap64 ((takeS S (wrap64 ((S.size : Int) - f.q.1.size))).2.1 - wrap64 ((S.size : Int) - f.q.1.size)))).2).1 && oneB f.a f.b f.c f.d (takeS S (wrap64 ((S.size : Int) - f.q.1.size))).1 then (some { c := f.a, r := f.b, p := f.c, ch := f.d, name := (takeS S (wrap64 ((S.size : Int) - f.q.1.size))).1, rank := (fixR (takeR f.q (wrap64 ((takeS S (wrap64 ((S.size : Int) - f.q.1.size))).2.1 - wrap64 ((S.size : Int) - f.q.1.size)))).2).1 }, 0, (fixR (takeR f.q (wrap64 ((takeS S (wrap64 ((S.size : Int) - f.q.1.size))).2.1 - wrap64 ((S.size : Int) - f.q.1.size)))).2).2) else (none, 5, (fixR (takeR f.q (wrap64 ((takeS S (wrap64 ((S.size : Int) - f.q.1.size))).2.1 - wrap64 ((S.size : Int) - f.q.1.size)))).2).2) := by
    rw [hm, hf]; rfl
  clear hm hf
  obtain ⟨a, b, c, d, ok, s1, e1⟩ := f
  dsimp only at hm2 HF
  obtain ⟨at_, hat⟩ : ∃ at_, at_ = wrap64 ((S.size : Int) - s1.size) := ⟨_, rfl⟩
  rw [← hat] at hm2
  have HAT := Lib.hid hat
  clear hat
  have ht := take_f S at_ hS
  obtain ⟨t, htt⟩ : ∃ t, t = takeS S at_ := ⟨_, rfl⟩
  rw [← htt] at hm2 ht
  clear htt
  obtain ⟨tn, te, tr⟩ := t
  dsimp only at hm2 ht
  have HT := Lib.hid ht
  clear ht
  have hu := takeR_f s1 e1 (wrap64 (te - at_))
  obtain ⟨u, huu⟩ : ∃ u, u = takeR (s1, e1) (wrap64 (te - at_)) := ⟨_, rfl⟩
  rw [← huu] at hm2 hu
  clear huu
  obtain ⟨un, us, ue⟩ := u
  dsimp only at hm2 hu
  have HU := Lib.hid hu
  clear hu
  have hx := fixR_f us ue
  have hxl := fixR_lt (us, ue)
  obtain ⟨x, hxx⟩ : ∃ x, x = fixR (us, ue) := ⟨_, rfl⟩
  rw [← hxx] at hm2 hx hxl
  clear hxx
  obtain ⟨xv, xs, xe⟩ := x
  dsimp only at hm2 hx hxl
  have HX := Lib.hid hx
  have HXL := Lib.hid hxl
  have HC := Lib.hid (canon_f hxl)
  have HO := Lib.hid (fun y => one_f a b c d tn y)
  have HM := Lib.hid hm2
  clear hx hxl hm2
  have HATC := Lib.hid (fun (W : World) (h1 : IsRows w0 W h g S s1 e1) (h2 : Below w0.heap.size w0 W) => (rows_at.calls h g S s1 e1 w0 W h1 h2).mono (R' := fun e w' => e = .returned (.int .i64 at_) ∧ IsRows w0 w' h g S s1 e1 ∧ Below w0.heap.size w0 w' ∧ KeepBut W w' g none) (fun e w' hq => by rw [HAT.out]; exact hq))
  go_enter Try.func32, Try.ntmps32
  go_wp2_with (go_at_call 58; refine (HF.out _ S0.out.1 S0.out.2.1).mono ?_; rintro e w2 ⟨rfl, h1, h2, h3⟩; have S1 := Lib.hid ((S0.out.call h1.2.2.2 h2 h3).alloc (.cells #[.int .i64 a, .int .i64 b, .int .i64 c, .int .i64 d] 46)); have V1 := Lib.hid (heap_alloc_new w2 (.cells #[.int .i64 a, .int .i64 b, .int .i64 c, .int .i64 d] 46)); have hc0 := S1.out.1.c0; have hc1 := S1.out.1.c1; have hgv : ¬ w2.heap.size = g := (by have := S1.out.2.2.2.2.2.1; have := h3.1; simp at this; omega); clear h1 h2 h3)
  by_cases c1 : e1 = 0
  · have hm2 : m = if tr ≠ 0 then (none, tr, (s1, e1)) else if xe ≠ 0 then (none, xe, (xs, xe)) else if ok && canonB xv && oneB a b c d tn then (some { c := a, r := b, p := c, ch := d, name := tn, rank := xv }, 0, (xs, xe)) else (none, 5, (xs, xe)) := by
      have := HM.out; rw [if_neg (by simpa using c1)] at this; exact this
    have HM2 := Lib.hid hm2
    clear hm2 HM
    go_wp2_with (go_at_call 31; refine (pack_Reader_Err.calls g s1 e1 _ _ _ w0 _ S1.out.1.2.2.2 S1.out.2.1 (err_f s1 e1)).mono ?_; rintro e wS2 ⟨rfl, h1, h2, h3⟩; have S2 := Lib.hid (S1.out.call h1 h2 h3); have c0S2 := S2.out.1.c0; have c1S2 := S2.out.1.c1; have V2 := Lib.hid (h3.blk V1.out hgv (by simp)); clear h1 h2 h3)
    go_wp2_with (go_at_call 59; refine (HATC.out _ S2.out.1 S2.out.2.1).mono ?_; rintro e wS3 ⟨rfl, h1, h2, h3⟩; have S3 := Lib.hid (S2.out.call h1.2.2.2 h2 h3); have c0S3 := S3.out.1.c0; have c1S3 := S3.out.1.c1; have V3 := Lib.hid (h3.blk V2.out hgv (by simp)); clear h1 h2 h3)
    by_cases c2 : tr = 0
    · have hm3 : m = if xe ≠ 0 then (none, xe, (xs, xe)) else if ok && canonB xv && oneB a b c d tn then (some { c := a, r := b, p := c, ch := d, name := tn, rank := xv }, 0, (xs, xe)) else (none, 5, (xs, xe)) := by
        have := HM2.out; rw [if_neg (by simpa using c2)] at this; exact this
      have HM3 := Lib.hid hm3
      clear hm3 HM2
      go_wp2_with (go_at_call 60; refine (word_Take.calls 2 S at_ 64 _ _ _ _ HT.out).mono ?_; rintro e wS4 ⟨rfl, h1⟩; have S4 := Lib.hid (S3.out.below h1); have V4 := Lib.hid ((h1.block _ (blk_lt V3.out)).trans V3.out); have c0S4 := S4.out.1.c0; have c1S4 := S4.out.1.c1; clear h1)
      go_wp2_with (go_at_call 61; refine (pack_Reader_Take.calls g s1 e1 (wrap64 (te - at_)) _ _ _ w0 _ S4.out.1.2.2.2 S4.out.2.1 HU.out).mono ?_; rintro e wS5 ⟨rfl, h1, h2, h3⟩; have S5 := Lib.hid (S4.out.call h1 h2 h3); have c0S5 := S5.out.1.c0; have c1S5 := S5.out.1.c1; have V5 := Lib.hid (h3.blk V4.out hgv (by simp)); clear h1 h2 h3)
      go_wp2_with (go_at_call 62; refine (pack_Reader_Fix.calls g us ue _ _ _ w0 _ S5.out.1.2.2.2 S5.out.2.1 HX.out).mono ?_; rintro e wS6 ⟨rfl, h1, h2, h3⟩; have S6 := Lib.hid (S5.out.call h1 h2 h3); have c0S6 := S6.out.1.c0; have c1S6 := S6.out.1.c1; have V6 := Lib.hid (h3.blk V5.out hgv (by simp)); clear h1 h2 h3)
      by_cases c3 : xe = 0
      · have hm4 : m = if ok && canonB xv && oneB a b c d tn then (some { c := a, r := b, p := c, ch := d, name := tn, rank := xv }, 0, (xs, xe)) else (none, 5, (xs, xe)) := by
          have := HM3.out; rw [if_neg (by simpa using c3)] at this; exact this
        have HM4 := Lib.hid hm4
        clear hm4 HM3
        go_wp2_with (go_at_call 31; refine (pack_Reader_Err.calls g xs xe _ _ _ w0 _ S6.out.1.2.2.2 S6.out.2.1 (err_f xs xe)).mono ?_; rintro e wS7 ⟨rfl, h1, h2, h3⟩; have S7 := Lib.hid (S6.out.call h1 h2 h3); have c0S7 := S7.out.1.c0; have c1S7 := S7.out.1.c1; have V7 := Lib.hid (h3.blk V6.out hgv (by simp)); clear h1 h2 h3)
        have HFl := Lib.hid (fun W => bits_Float.calls xv HXL.out W)
        have v0 : wS7.cell? ⟨w2.heap.size, 0, none⟩ = some (.int .i64 a) := (blk_cell V7.out 0).trans rfl
        have v1 : wS7.cell? ⟨w2.heap.size, 1, none⟩ = some (.int .i64 b) := (blk_cell V7.out 1).trans rfl
        have v2 : wS7.cell? ⟨w2.heap.size, 2, none⟩ = some (.int .i64 c) := (blk_cell V7.out 2).trans rfl
        have v3 : wS7.cell? ⟨w2.heap.size, 3, none⟩ = some (.int .i64 d) := (blk_cell V7.out 3).trans rfl
        have hne1 : ¬ wS7.heap.size = w2.heap.size := by have := blk_lt V7.out; omega
        have hne2 : ¬ w2.heap.size = wS7.heap.size := by have := blk_lt V7.out; omega
        have hne3 : ¬ wS7.heap.size = w.heap.size := by have := blk_lt S7.out.2.2.2.1; omega
        go_region_held3 (fun w' => w'.cell? ⟨w2.heap.size, 0, none⟩ = some (.int .i64 a) ∧ w'.cell? ⟨w2.heap.size, 1, none⟩ = some (.int .i64 b) ∧ w'.cell? ⟨w2.heap.size, 2, none⟩ = some (.int .i64 c) ∧ w'.cell? ⟨w2.heap.size, 3, none⟩ = some (.int .i64 d)) (go_keep)
          (first | (go_at_call 63; refine (HFl.out _).mono ?_; rintro e w' ⟨y, hy, rfl, hb⟩; first | (have hb' : Below wS7.heap.size wS7 w' := ⟨hb.os, hb.tape, hb.output, hb.size, hb.block⟩; have q0 : w'.cell? ⟨w2.heap.size, 0, none⟩ = some (.int .i64 a) := (hb'.cell (p := ⟨w2.heap.size, 0, none⟩) (blk_lt V7.out)).trans v0; have q1 : w'.cell? ⟨w2.heap.size, 1, none⟩ = some (.int .i64 b) := (hb'.cell (p := ⟨w2.heap.size, 1, none⟩) (blk_lt V7.out)).trans v1; have q2 : w'.cell? ⟨w2.heap.size, 2, none⟩ = some (.int .i64 c) := (hb'.cell (p := ⟨w2.heap.size, 2, none⟩) (blk_lt V7.out)).trans v2; have q3 : w'.cell? ⟨w2.heap.size, 3, none⟩ = some (.int .i64 d) := (hb'.cell (p := ⟨w2.heap.size, 3, none⟩) (blk_lt V7.out)).trans v3; have hne4 : ¬ w'.heap.size = w2.heap.size := (by have := blk_lt V7.out; have := hb'.size; omega); have SX := Lib.hid (S7.out.below hb')) | (have hb' : Below (wS7.alloc (.cells zeroMove 30)).heap.size (wS7.alloc (.cells zeroMove 30)) w' := ⟨hb.os, hb.tape, hb.output, hb.size, hb.block⟩; have q0 : w'.cell? ⟨w2.heap.size, 0, none⟩ = some (.int .i64 a) := (hb'.cell (p := ⟨w2.heap.size, 0, none⟩) (by rw [World.size_alloc]; exact Nat.lt_succ_of_lt (blk_lt V7.out))).trans ((World.cell?_alloc_lt _ _ ⟨w2.heap.size, 0, none⟩ (blk_lt V7.out)).trans v0); have q1 : w'.cell? ⟨w2.heap.size, 1, none⟩ = some (.int .i64 b) := (hb'.cell (p := ⟨w2.heap.size, 1, none⟩) (by rw [World.size_alloc]; exact Nat.lt_succ_of_lt (blk_lt V7.out))).trans ((World.cell?_alloc_lt _ _ ⟨w2.heap.size, 1, none⟩ (blk_lt V7.out)).trans v1); have q2 : w'.cell? ⟨w2.heap.size, 2, none⟩ = some (.int .i64 c) := (hb'.cell (p := ⟨w2.heap.size, 2, none⟩) (by rw [World.size_alloc]; exact Nat.lt_succ_of_lt (blk_lt V7.out))).trans ((World.cell?_alloc_lt _ _ ⟨w2.heap.size, 2, none⟩ (blk_lt V7.out)).trans v2); have q3 : w'.cell? ⟨w2.heap.size, 3, none⟩ = some (.int .i64 d) := (hb'.cell (p := ⟨w2.heap.size, 3, none⟩) (by rw [World.size_alloc]; exact Nat.lt_succ_of_lt (blk_lt V7.out))).trans ((World.cell?_alloc_lt _ _ ⟨w2.heap.size, 3, none⟩ (blk_lt V7.out)).trans v3); have hx : w'.heap[wS7.heap.size]? = some (.cells zeroMove 30 (0, 0)) := (hb'.block _ (by rw [World.size_alloc]; exact Nat.lt_succ_self _)).trans (heap_alloc_new _ _); have p0 : w'.cell? ⟨wS7.heap.size, 0, none⟩ = some (.int .i64 0) := (blk_cell hx 0).trans rfl; have f0 := blk_frozen hx 0; have p1 : w'.cell? ⟨wS7.heap.size, 1, none⟩ = some (.int .i64 0) := (blk_cell hx 1).trans rfl; have f1 := blk_frozen hx 1; have p2 : w'.cell? ⟨wS7.heap.size, 2, none⟩ = some (.int .i64 0) := (blk_cell hx 2).trans rfl; have f2 := blk_frozen hx 2; have p3 : w'.cell? ⟨wS7.heap.size, 3, none⟩ = some (.int .i64 0) := (blk_cell hx 3).trans rfl; have f3 := blk_frozen hx 3; have p4 : w'.cell? ⟨wS7.heap.size, 4, none⟩ = some (.string ⟨#[]⟩) := (blk_cell hx 4).trans rfl; have f4 := blk_frozen hx 4; have p5 : w'.cell? ⟨wS7.heap.size, 5, none⟩ = some (.float .f64 0) := (blk_cell hx 5).trans rfl; have f5 := blk_frozen hx 5; have SX := Lib.hid ((S7.out.alloc (.cells zeroMove 30)).below hb')); have HY := Lib.hid hy; have HBy := Lib.hid hb; clear hy hb))
        · obtain ⟨X, hX⟩ : ∃ X, X = w'.heap.size := ⟨_, rfl⟩
          obtain ⟨W, hW⟩ : ∃ W, W = w'.alloc (.cells #[.int .i64 a, .int .i64 b, .int .i64 c, .int .i64 d, .string tn, .float .f64 y] 30) := ⟨_, rfl⟩
          have HP := Lib.hid (show PackM w0 w W X h g S xs xe #[.int .i64 a, .int .i64 b, .int .i64 c, .int .i64 d, .string tn, .float .f64 y] by rw [hW, hX]; exact PackM.new _ SX.out)
          rw [← hX, ← hW]
          clear hW hX
          cases ok with
          | false =>
            have HMM := Lib.hid (show m = (none, 5, (xs, xe)) by have := HM4.out; rw [if_neg (by simp)] at this; exact this)
            have HZ := Lib.hid (HP.out.1.ret (.int .i64 0) (.int .i64 0) (.int .i64 0) (.int .i64 0) (.string ⟨#[]⟩) (.float .f64 0)); have z0 : W.cell? ⟨w.heap.size, 0, none⟩ = some (.int .i64 0) := (blk_cell HP.out.1.2.2.2.1 0).trans rfl; have y0 := blk_frozen HP.out.1.2.2.2.1 0; have z1 : W.cell? ⟨w.heap.size, 1, none⟩ = some (.int .i64 0) := (blk_cell HP.out.1.2.2.2.1 1).trans rfl; have y1 := blk_frozen HP.out.1.2.2.2.1 1; have z2 : W.cell? ⟨w.heap.size, 2, none⟩ = some (.int .i64 0) := (blk_cell HP.out.1.2.2.2.1 2).trans rfl; have y2 := blk_frozen HP.out.1.2.2.2.1 2; have z3 : W.cell? ⟨w.heap.size, 3, none⟩ = some (.int .i64 0) := (blk_cell HP.out.1.2.2.2.1 3).trans rfl; have y3 := blk_frozen HP.out.1.2.2.2.1 3; have z4 : W.cell? ⟨w.heap.size, 4, none⟩ = some (.string ⟨#[]⟩) := (blk_cell HP.out.1.2.2.2.1 4).trans rfl; have y4 := blk_frozen HP.out.1.2.2.2.1 4; have z5 : W.cell? ⟨w.heap.size, 5, none⟩ = some (.float .f64 0) := (blk_cell HP.out.1.2.2.2.1 5).trans rfl; have y5 := blk_frozen HP.out.1.2.2.2.1 5
            go_wp2
            refine bodyPost_ret (results_row_tmp (p := 2) (u := 3) rfl _ _ w.heap.size 30 zeroMove (0, 0) _ rfl HZ.out.1 Try.underlying30 rfl size_move) rfl ?_
            exact MoveOf.none HMM.out HZ.out.2
          | true =>
            cases hcb : canonB xv with
            | false =>
              have HMM := Lib.hid (show m = (none, 5, (xs, xe)) by have := HM4.out; rw [hcb, if_neg (by simp)] at this; exact this)
              have HC2 := Lib.hid (show bits_Canon.f (xv : Int) = some false by rw [HC.out, hcb])
              go_wp2_with (go_at_call 64; refine (bits_Canon.calls _ false _ HC2.out).mono ?_; rintro e wa ⟨rfl, hd⟩; have HP2 := Lib.hid (HP.out.below hd.below); clear hd; have HZ := Lib.hid (HP2.out.1.ret (.int .i64 0) (.int .i64 0) (.int .i64 0) (.int .i64 0) (.string ⟨#[]⟩) (.float .f64 0)); have z0 : wa.cell? ⟨w.heap.size, 0, none⟩ = some (.int .i64 0) := (blk_cell HP2.out.1.2.2.2.1 0).trans rfl; have y0 := blk_frozen HP2.out.1.2.2.2.1 0; have z1 : wa.cell? ⟨w.heap.size, 1, none⟩ = some (.int .i64 0) := (blk_cell HP2.out.1.2.2.2.1 1).trans rfl; have y1 := blk_frozen HP2.out.1.2.2.2.1 1; have z2 : wa.cell? ⟨w.heap.size, 2, none⟩ = some (.int .i64 0) := (blk_cell HP2.out.1.2.2.2.1 2).trans rfl; have y2 := blk_frozen HP2.out.1.2.2.2.1 2; have z3 : wa.cell? ⟨w.heap.size, 3, none⟩ = some (.int .i64 0) := (blk_cell HP2.out.1.2.2.2.1 3).trans rfl; have y3 := blk_frozen HP2.out.1.2.2.2.1 3; have z4 : wa.cell? ⟨w.heap.size, 4, none⟩ = some (.string ⟨#[]⟩) := (blk_cell HP2.out.1.2.2.2.1 4).trans rfl; have y4 := blk_frozen HP2.out.1.2.2.2.1 4; have z5 : wa.cell? ⟨w.heap.size, 5, none⟩ = some (.float .f64 0) := (blk_cell HP2.out.1.2.2.2.1 5).trans rfl; have y5 := blk_frozen HP2.out.1.2.2.2.1 5)
              refine bodyPost_ret (results_row_tmp (p := 2) (u := 3) rfl _ _ w.heap.size 30 zeroMove (0, 0) _ rfl HZ.out.1 Try.underlying30 rfl size_move) rfl ?_
              exact MoveOf.none HMM.out HZ.out.2
            | true =>
              have HC2 := Lib.hid (show bits_Canon.f (xv : Int) = some true by rw [HC.out, hcb])
              cases hob : oneB a b c d tn with
              | false =>
                have HMM := Lib.hid (show m = (none, 5, (xs, xe)) by have := HM4.out; rw [hcb, hob, if_neg (by simp)] at this; exact this)
                have HO2 := Lib.hid (show moves_One.f a b c d tn y = some false by rw [HO.out y, hob])
                go_wp2_with (go_at_call 64; refine (bits_Canon.calls _ true _ HC2.out).mono ?_; rintro e wa ⟨rfl, hd⟩; have HP2 := Lib.hid (HP.out.below hd.below); clear hd; have x0 : wa.cell? ⟨X, 0, none⟩ = some (.int .i64 a) := (blk_cell HP2.out.2.1 0).trans rfl; have x1 : wa.cell? ⟨X, 1, none⟩ = some (.int .i64 b) := (blk_cell HP2.out.2.1 1).trans rfl; have x2 : wa.cell? ⟨X, 2, none⟩ = some (.int .i64 c) := (blk_cell HP2.out.2.1 2).trans rfl; have x3 : wa.cell? ⟨X, 3, none⟩ = some (.int .i64 d) := (blk_cell HP2.out.2.1 3).trans rfl; have x4 : wa.cell? ⟨X, 4, none⟩ = some (.string tn) := (blk_cell HP2.out.2.1 4).trans rfl; have x5 : wa.cell? ⟨X, 5, none⟩ = some (.float .f64 y) := (blk_cell HP2.out.2.1 5).trans rfl)
                go_wp2_with (go_at_call 54; refine (moves_One.calls a b c d tn y false _ HO2.out).mono ?_; rintro e wb ⟨rfl, hd⟩; have HP3 := Lib.hid (HP2.out.below hd); clear hd; have HZ := Lib.hid (HP3.out.1.ret (.int .i64 0) (.int .i64 0) (.int .i64 0) (.int .i64 0) (.string ⟨#[]⟩) (.float .f64 0)); have z0 : wb.cell? ⟨w.heap.size, 0, none⟩ = some (.int .i64 0) := (blk_cell HP3.out.1.2.2.2.1 0).trans rfl; have y0 := blk_frozen HP3.out.1.2.2.2.1 0; have z1 : wb.cell? ⟨w.heap.size, 1, none⟩ = some (.int .i64 0) := (blk_cell HP3.out.1.2.2.2.1 1).trans rfl; have y1 := blk_frozen HP3.out.1.2.2.2.1 1; have z2 : wb.cell? ⟨w.heap.size, 2, none⟩ = some (.int .i64 0) := (blk_cell HP3.out.1.2.2.2.1 2).trans rfl; have y2 := blk_frozen HP3.out.1.2.2.2.1 2; have z3 : wb.cell? ⟨w.heap.size, 3, none⟩ = some (.int .i64 0) := (blk_cell HP3.out.1.2.2.2.1 3).trans rfl; have y3 := blk_frozen HP3.out.1.2.2.2.1 3; have z4 : wb.cell? ⟨w.heap.size, 4, none⟩ = some (.string ⟨#[]⟩) := (blk_cell HP3.out.1.2.2.2.1 4).trans rfl; have y4 := blk_frozen HP3.out.1.2.2.2.1 4; have z5 : wb.cell? ⟨w.heap.size, 5, none⟩ = some (.float .f64 0) := (blk_cell HP3.out.1.2.2.2.1 5).trans rfl; have y5 := blk_frozen HP3.out.1.2.2.2.1 5)
                refine bodyPost_ret (results_row_tmp (p := 2) (u := 3) rfl _ _ w.heap.size 30 zeroMove (0, 0) _ rfl HZ.out.1 Try.underlying30 rfl size_move) rfl ?_
                exact MoveOf.none HMM.out HZ.out.2
              | true =>
                have HMM := Lib.hid (show m = (some { c := a, r := b, p := c, ch := d, name := tn, rank := xv }, 0, (xs, xe)) by have := HM4.out; rw [hcb, hob, if_pos (show (true && true && true) = true from rfl)] at this; exact this)
                have HO2 := Lib.hid (show moves_One.f a b c d tn y = some true by rw [HO.out y, hob])
                go_wp2_with (go_at_call 64; refine (bits_Canon.calls _ true _ HC2.out).mono ?_; rintro e wa ⟨rfl, hd⟩; have HP2 := Lib.hid (HP.out.below hd.below); clear hd; have x0 : wa.cell? ⟨X, 0, none⟩ = some (.int .i64 a) := (blk_cell HP2.out.2.1 0).trans rfl; have x1 : wa.cell? ⟨X, 1, none⟩ = some (.int .i64 b) := (blk_cell HP2.out.2.1 1).trans rfl; have x2 : wa.cell? ⟨X, 2, none⟩ = some (.int .i64 c) := (blk_cell HP2.out.2.1 2).trans rfl; have x3 : wa.cell? ⟨X, 3, none⟩ = some (.int .i64 d) := (blk_cell HP2.out.2.1 3).trans rfl; have x4 : wa.cell? ⟨X, 4, none⟩ = some (.string tn) := (blk_cell HP2.out.2.1 4).trans rfl; have x5 : wa.cell? ⟨X, 5, none⟩ = some (.float .f64 y) := (blk_cell HP2.out.2.1 5).trans rfl)
                go_wp2_with (go_at_call 54; refine (moves_One.calls a b c d tn y true _ HO2.out).mono ?_; rintro e wb ⟨rfl, hd⟩; have HP3 := Lib.hid (HP2.out.below hd); clear hd; have HZ := Lib.hid (HP3.out.1.ret (.int .i64 a) (.int .i64 b) (.int .i64 c) (.int .i64 d) (.string tn) (.float .f64 y)); have z0 : wb.cell? ⟨w.heap.size, 0, none⟩ = some (.int .i64 0) := (blk_cell HP3.out.1.2.2.2.1 0).trans rfl; have y0 := blk_frozen HP3.out.1.2.2.2.1 0; have z1 : wb.cell? ⟨w.heap.size, 1, none⟩ = some (.int .i64 0) := (blk_cell HP3.out.1.2.2.2.1 1).trans rfl; have y1 := blk_frozen HP3.out.1.2.2.2.1 1; have z2 : wb.cell? ⟨w.heap.size, 2, none⟩ = some (.int .i64 0) := (blk_cell HP3.out.1.2.2.2.1 2).trans rfl; have y2 := blk_frozen HP3.out.1.2.2.2.1 2; have z3 : wb.cell? ⟨w.heap.size, 3, none⟩ = some (.int .i64 0) := (blk_cell HP3.out.1.2.2.2.1 3).trans rfl; have y3 := blk_frozen HP3.out.1.2.2.2.1 3; have z4 : wb.cell? ⟨w.heap.size, 4, none⟩ = some (.string ⟨#[]⟩) := (blk_cell HP3.out.1.2.2.2.1 4).trans rfl; have y4 := blk_frozen HP3.out.1.2.2.2.1 4; have z5 : wb.cell? ⟨w.heap.size, 5, none⟩ = some (.float .f64 0) := (blk_cell HP3.out.1.2.2.2.1 5).trans rfl; have y5 := blk_frozen HP3.out.1.2.2.2.1 5; have x0 : wb.cell? ⟨X, 0, none⟩ = some (.int .i64 a) := (blk_cell HP3.out.2.1 0).trans rfl; have x1 : wb.cell? ⟨X, 1, none⟩ = some (.int .i64 b) := (blk_cell HP3.out.2.1 1).trans rfl; have x2 : wb.cell? ⟨X, 2, none⟩ = some (.int .i64 c) := (blk_cell HP3.out.2.1 2).trans rfl; have x3 : wb.cell? ⟨X, 3, none⟩ = some (.int .i64 d) := (blk_cell HP3.out.2.1 3).trans rfl; have x4 : wb.cell? ⟨X, 4, none⟩ = some (.string tn) := (blk_cell HP3.out.2.1 4).trans rfl; have x5 : wb.cell? ⟨X, 5, none⟩ = some (.float .f64 y) := (blk_cell HP3.out.2.1 5).trans rfl)
                refine bodyPost_ret (results_row_tmp (p := 2) (u := 3) rfl _ _ w.heap.size 30 #[.int .i64 a, .int .i64 b, .int .i64 c, .int .i64 d, .string tn, .float .f64 y] (0, 0) _ rfl HZ.out.1 Try.underlying30 rfl size_move) rfl ?_
                exact MoveOf.some HMM.out (show Hid (FloatOf xv y) by assumption).out HZ.out.2
        · obtain ⟨X, hX⟩ : ∃ X, X = wS7.heap.size := ⟨_, rfl⟩
          obtain ⟨W, hW⟩ : ∃ W, W = ((((((w'.setCell ⟨X, 0, none⟩ (.int .i64 a)).setCell ⟨X, 1, none⟩ (.int .i64 b)).setCell ⟨X, 2, none⟩ (.int .i64 c)).setCell ⟨X, 3, none⟩ (.int .i64 d)).setCell ⟨X, 4, none⟩ (.string tn)).setCell ⟨X, 5, none⟩ (.float .f64 y)) := ⟨_, rfl⟩
          have HP := Lib.hid (show PackM w0 w W X h g S xs xe #[.int .i64 a, .int .i64 b, .int .i64 c, .int .i64 d, .string tn, .float .f64 y] by rw [hW]; exact PackM.put SX.out (by rw [hX]; exact hx) (by have := blk_lt S7.out.2.2.2.1; omega) _ _ _ _ _ _)
          rw [← hX, ← hW]
          clear hW hX
          cases ok with
          | false =>
            have HMM := Lib.hid (show m = (none, 5, (xs, xe)) by have := HM4.out; rw [if_neg (by simp)] at this; exact this)
            have HZ := Lib.hid (HP.out.1.ret (.int .i64 0) (.int .i64 0) (.int .i64 0) (.int .i64 0) (.string ⟨#[]⟩) (.float .f64 0)); have z0 : W.cell? ⟨w.heap.size, 0, none⟩ = some (.int .i64 0) := (blk_cell HP.out.1.2.2.2.1 0).trans rfl; have y0 := blk_frozen HP.out.1.2.2.2.1 0; have z1 : W.cell? ⟨w.heap.size, 1, none⟩ = some (.int .i64 0) := (blk_cell HP.out.1.2.2.2.1 1).trans rfl; have y1 := blk_frozen HP.out.1.2.2.2.1 1; have z2 : W.cell? ⟨w.heap.size, 2, none⟩ = some (.int .i64 0) := (blk_cell HP.out.1.2.2.2.1 2).trans rfl; have y2 := blk_frozen HP.out.1.2.2.2.1 2; have z3 : W.cell? ⟨w.heap.size, 3, none⟩ = some (.int .i64 0) := (blk_cell HP.out.1.2.2.2.1 3).trans rfl; have y3 := blk_frozen HP.out.1.2.2.2.1 3; have z4 : W.cell? ⟨w.heap.size, 4, none⟩ = some (.string ⟨#[]⟩) := (blk_cell HP.out.1.2.2.2.1 4).trans rfl; have y4 := blk_frozen HP.out.1.2.2.2.1 4; have z5 : W.cell? ⟨w.heap.size, 5, none⟩ = some (.float .f64 0) := (blk_cell HP.out.1.2.2.2.1 5).trans rfl; have y5 := blk_frozen HP.out.1.2.2.2.1 5
            go_wp2
            refine bodyPost_ret (results_row_tmp (p := 2) (u := 3) rfl _ _ w.heap.size 30 zeroMove (0, 0) _ rfl HZ.out.1 Try.underlying30 rfl size_move) rfl ?_
            exact MoveOf.none HMM.out HZ.out.2
          | true =>
            cases hcb : canonB xv with
            | false =>
              have HMM := Lib.hid (show m = (none, 5, (xs, xe)) by have := HM4.out; rw [hcb, if_neg (by simp)] at this; exact this)
              have HC2 := Lib.hid (show bits_Canon.f (xv : Int) = some false by rw [HC.out, hcb])
              go_wp2_with (go_at_call 64; refine (bits_Canon.calls _ false _ HC2.out).mono ?_; rintro e wa ⟨rfl, hd⟩; have HP2 := Lib.hid (HP.out.below hd.below); clear hd; have HZ := Lib.hid (HP2.out.1.ret (.int .i64 0) (.int .i64 0) (.int .i64 0) (.int .i64 0) (.string ⟨#[]⟩) (.float .f64 0)); have z0 : wa.cell? ⟨w.heap.size, 0, none⟩ = some (.int .i64 0) := (blk_cell HP2.out.1.2.2.2.1 0).trans rfl; have y0 := blk_frozen HP2.out.1.2.2.2.1 0; have z1 : wa.cell? ⟨w.heap.size, 1, none⟩ = some (.int .i64 0) := (blk_cell HP2.out.1.2.2.2.1 1).trans rfl; have y1 := blk_frozen HP2.out.1.2.2.2.1 1; have z2 : wa.cell? ⟨w.heap.size, 2, none⟩ = some (.int .i64 0) := (blk_cell HP2.out.1.2.2.2.1 2).trans rfl; have y2 := blk_frozen HP2.out.1.2.2.2.1 2; have z3 : wa.cell? ⟨w.heap.size, 3, none⟩ = some (.int .i64 0) := (blk_cell HP2.out.1.2.2.2.1 3).trans rfl; have y3 := blk_frozen HP2.out.1.2.2.2.1 3; have z4 : wa.cell? ⟨w.heap.size, 4, none⟩ = some (.string ⟨#[]⟩) := (blk_cell HP2.out.1.2.2.2.1 4).trans rfl; have y4 := blk_frozen HP2.out.1.2.2.2.1 4; have z5 : wa.cell? ⟨w.heap.size, 5, none⟩ = some (.float .f64 0) := (blk_cell HP2.out.1.2.2.2.1 5).trans rfl; have y5 := blk_frozen HP2.out.1.2.2.2.1 5)
              refine bodyPost_ret (results_row_tmp (p := 2) (u := 3) rfl _ _ w.heap.size 30 zeroMove (0, 0) _ rfl HZ.out.1 Try.underlying30 rfl size_move) rfl ?_
              exact MoveOf.none HMM.out HZ.out.2
            | true =>
              have HC2 := Lib.hid (show bits_Canon.f (xv : Int) = some true by rw [HC.out, hcb])
              cases hob : oneB a b c d tn with
              | false =>
                have HMM := Lib.hid (show m = (none, 5, (xs, xe)) by have := HM4.out; rw [hcb, hob, if_neg (by simp)] at this; exact this)
                have HO2 := Lib.hid (show moves_One.f a b c d tn y = some false by rw [HO.out y, hob])
                go_wp2_with (go_at_call 64; refine (bits_Canon.calls _ true _ HC2.out).mono ?_; rintro e wa ⟨rfl, hd⟩; have HP2 := Lib.hid (HP.out.below hd.below); clear hd; have x0 : wa.cell? ⟨X, 0, none⟩ = some (.int .i64 a) := (blk_cell HP2.out.2.1 0).trans rfl; have x1 : wa.cell? ⟨X, 1, none⟩ = some (.int .i64 b) := (blk_cell HP2.out.2.1 1).trans rfl; have x2 : wa.cell? ⟨X, 2, none⟩ = some (.int .i64 c) := (blk_cell HP2.out.2.1 2).trans rfl; have x3 : wa.cell? ⟨X, 3, none⟩ = some (.int .i64 d) := (blk_cell HP2.out.2.1 3).trans rfl; have x4 : wa.cell? ⟨X, 4, none⟩ = some (.string tn) := (blk_cell HP2.out.2.1 4).trans rfl; have x5 : wa.cell? ⟨X, 5, none⟩ = some (.float .f64 y) := (blk_cell HP2.out.2.1 5).trans rfl)
                go_wp2_with (go_at_call 54; refine (moves_One.calls a b c d tn y false _ HO2.out).mono ?_; rintro e wb ⟨rfl, hd⟩; have HP3 := Lib.hid (HP2.out.below hd); clear hd; have HZ := Lib.hid (HP3.out.1.ret (.int .i64 0) (.int .i64 0) (.int .i64 0) (.int .i64 0) (.string ⟨#[]⟩) (.float .f64 0)); have z0 : wb.cell? ⟨w.heap.size, 0, none⟩ = some (.int .i64 0) := (blk_cell HP3.out.1.2.2.2.1 0).trans rfl; have y0 := blk_frozen HP3.out.1.2.2.2.1 0; have z1 : wb.cell? ⟨w.heap.size, 1, none⟩ = some (.int .i64 0) := (blk_cell HP3.out.1.2.2.2.1 1).trans rfl; have y1 := blk_frozen HP3.out.1.2.2.2.1 1; have z2 : wb.cell? ⟨w.heap.size, 2, none⟩ = some (.int .i64 0) := (blk_cell HP3.out.1.2.2.2.1 2).trans rfl; have y2 := blk_frozen HP3.out.1.2.2.2.1 2; have z3 : wb.cell? ⟨w.heap.size, 3, none⟩ = some (.int .i64 0) := (blk_cell HP3.out.1.2.2.2.1 3).trans rfl; have y3 := blk_frozen HP3.out.1.2.2.2.1 3; have z4 : wb.cell? ⟨w.heap.size, 4, none⟩ = some (.string ⟨#[]⟩) := (blk_cell HP3.out.1.2.2.2.1 4).trans rfl; have y4 := blk_frozen HP3.out.1.2.2.2.1 4; have z5 : wb.cell? ⟨w.heap.size, 5, none⟩ = some (.float .f64 0) := (blk_cell HP3.out.1.2.2.2.1 5).trans rfl; have y5 := blk_frozen HP3.out.1.2.2.2.1 5)
                refine bodyPost_ret (results_row_tmp (p := 2) (u := 3) rfl _ _ w.heap.size 30 zeroMove (0, 0) _ rfl HZ.out.1 Try.underlying30 rfl size_move) rfl ?_
                exact MoveOf.none HMM.out HZ.out.2
              | true =>
                have HMM := Lib.hid (show m = (some { c := a, r := b, p := c, ch := d, name := tn, rank := xv }, 0, (xs, xe)) by have := HM4.out; rw [hcb, hob, if_pos (show (true && true && true) = true from rfl)] at this; exact this)
                have HO2 := Lib.hid (show moves_One.f a b c d tn y = some true by rw [HO.out y, hob])
                go_wp2_with (go_at_call 64; refine (bits_Canon.calls _ true _ HC2.out).mono ?_; rintro e wa ⟨rfl, hd⟩; have HP2 := Lib.hid (HP.out.below hd.below); clear hd; have x0 : wa.cell? ⟨X, 0, none⟩ = some (.int .i64 a) := (blk_cell HP2.out.2.1 0).trans rfl; have x1 : wa.cell? ⟨X, 1, none⟩ = some (.int .i64 b) := (blk_cell HP2.out.2.1 1).trans rfl; have x2 : wa.cell? ⟨X, 2, none⟩ = some (.int .i64 c) := (blk_cell HP2.out.2.1 2).trans rfl; have x3 : wa.cell? ⟨X, 3, none⟩ = some (.int .i64 d) := (blk_cell HP2.out.2.1 3).trans rfl; have x4 : wa.cell? ⟨X, 4, none⟩ = some (.string tn) := (blk_cell HP2.out.2.1 4).trans rfl; have x5 : wa.cell? ⟨X, 5, none⟩ = some (.float .f64 y) := (blk_cell HP2.out.2.1 5).trans rfl)
                go_wp2_with (go_at_call 54; refine (moves_One.calls a b c d tn y true _ HO2.out).mono ?_; rintro e wb ⟨rfl, hd⟩; have HP3 := Lib.hid (HP2.out.below hd); clear hd; have HZ := Lib.hid (HP3.out.1.ret (.int .i64 a) (.int .i64 b) (.int .i64 c) (.int .i64 d) (.string tn) (.float .f64 y)); have z0 : wb.cell? ⟨w.heap.size, 0, none⟩ = some (.int .i64 0) := (blk_cell HP3.out.1.2.2.2.1 0).trans rfl; have y0 := blk_frozen HP3.out.1.2.2.2.1 0; have z1 : wb.cell? ⟨w.heap.size, 1, none⟩ = some (.int .i64 0) := (blk_cell HP3.out.1.2.2.2.1 1).trans rfl; have y1 := blk_frozen HP3.out.1.2.2.2.1 1; have z2 : wb.cell? ⟨w.heap.size, 2, none⟩ = some (.int .i64 0) := (blk_cell HP3.out.1.2.2.2.1 2).trans rfl; have y2 := blk_frozen HP3.out.1.2.2.2.1 2; have z3 : wb.cell? ⟨w.heap.size, 3, none⟩ = some (.int .i64 0) := (blk_cell HP3.out.1.2.2.2.1 3).trans rfl; have y3 := blk_frozen HP3.out.1.2.2.2.1 3; have z4 : wb.cell? ⟨w.heap.size, 4, none⟩ = some (.string ⟨#[]⟩) := (blk_cell HP3.out.1.2.2.2.1 4).trans rfl; have y4 := blk_frozen HP3.out.1.2.2.2.1 4; have z5 : wb.cell? ⟨w.heap.size, 5, none⟩ = some (.float .f64 0) := (blk_cell HP3.out.1.2.2.2.1 5).trans rfl; have y5 := blk_frozen HP3.out.1.2.2.2.1 5; have x0 : wb.cell? ⟨X, 0, none⟩ = some (.int .i64 a) := (blk_cell HP3.out.2.1 0).trans rfl; have x1 : wb.cell? ⟨X, 1, none⟩ = some (.int .i64 b) := (blk_cell HP3.out.2.1 1).trans rfl; have x2 : wb.cell? ⟨X, 2, none⟩ = some (.int .i64 c) := (blk_cell HP3.out.2.1 2).trans rfl; have x3 : wb.cell? ⟨X, 3, none⟩ = some (.int .i64 d) := (blk_cell HP3.out.2.1 3).trans rfl; have x4 : wb.cell? ⟨X, 4, none⟩ = some (.string tn) := (blk_cell HP3.out.2.1 4).trans rfl; have x5 : wb.cell? ⟨X, 5, none⟩ = some (.float .f64 y) := (blk_cell HP3.out.2.1 5).trans rfl)
                refine bodyPost_ret (results_row_tmp (p := 2) (u := 3) rfl _ _ w.heap.size 30 #[.int .i64 a, .int .i64 b, .int .i64 c, .int .i64 d, .string tn, .float .f64 y] (0, 0) _ rfl HZ.out.1 Try.underlying30 rfl size_move) rfl ?_
                exact MoveOf.some HMM.out (show Hid (FloatOf xv y) by assumption).out HZ.out.2
      · have HMM := Lib.hid (show m = (none, xe, (xs, xe)) by have := HM3.out; rw [if_pos c3] at this; exact this)
        go_wp2_with (go_at_call 31; refine (pack_Reader_Err.calls g xs xe _ _ _ w0 _ S6.out.1.2.2.2 S6.out.2.1 (err_f xs xe)).mono ?_; rintro e wS7 ⟨rfl, h1, h2, h3⟩; have S7 := Lib.hid (S6.out.call h1 h2 h3); have c0S7 := S7.out.1.c0; have c1S7 := S7.out.1.c1; have V7 := Lib.hid (h3.blk V6.out hgv (by simp)); clear h1 h2 h3; have HZ := Lib.hid (S7.out.ret (.int .i64 0) (.int .i64 0) (.int .i64 0) (.int .i64 0) (.string ⟨#[]⟩) (.float .f64 0)); have z0 : wS7.cell? ⟨w.heap.size, 0, none⟩ = some (.int .i64 0) := (blk_cell S7.out.2.2.2.1 0).trans rfl; have y0 := blk_frozen S7.out.2.2.2.1 0; have z1 : wS7.cell? ⟨w.heap.size, 1, none⟩ = some (.int .i64 0) := (blk_cell S7.out.2.2.2.1 1).trans rfl; have y1 := blk_frozen S7.out.2.2.2.1 1; have z2 : wS7.cell? ⟨w.heap.size, 2, none⟩ = some (.int .i64 0) := (blk_cell S7.out.2.2.2.1 2).trans rfl; have y2 := blk_frozen S7.out.2.2.2.1 2; have z3 : wS7.cell? ⟨w.heap.size, 3, none⟩ = some (.int .i64 0) := (blk_cell S7.out.2.2.2.1 3).trans rfl; have y3 := blk_frozen S7.out.2.2.2.1 3; have z4 : wS7.cell? ⟨w.heap.size, 4, none⟩ = some (.string ⟨#[]⟩) := (blk_cell S7.out.2.2.2.1 4).trans rfl; have y4 := blk_frozen S7.out.2.2.2.1 4; have z5 : wS7.cell? ⟨w.heap.size, 5, none⟩ = some (.float .f64 0) := (blk_cell S7.out.2.2.2.1 5).trans rfl; have y5 := blk_frozen S7.out.2.2.2.1 5)
        refine bodyPost_ret (results_row_tmp (p := 2) (u := 3) rfl _ _ w.heap.size 30 zeroMove (0, 0) _ rfl HZ.out.1 Try.underlying30 rfl size_move) rfl ?_
        exact MoveOf.none HMM.out HZ.out.2
    · have HMM := Lib.hid (show m = (none, tr, (s1, e1)) by have := HM2.out; rw [if_pos c2] at this; exact this)
      go_wp2_with (go_at_call 60; refine (word_Take.calls 2 S at_ 64 _ _ _ _ HT.out).mono ?_; rintro e wS4 ⟨rfl, h1⟩; have S4 := Lib.hid (S3.out.below h1); have V4 := Lib.hid ((h1.block _ (blk_lt V3.out)).trans V3.out); have c0S4 := S4.out.1.c0; have c1S4 := S4.out.1.c1; clear h1; have HZ := Lib.hid (S4.out.ret (.int .i64 0) (.int .i64 0) (.int .i64 0) (.int .i64 0) (.string ⟨#[]⟩) (.float .f64 0)); have z0 : wS4.cell? ⟨w.heap.size, 0, none⟩ = some (.int .i64 0) := (blk_cell S4.out.2.2.2.1 0).trans rfl; have y0 := blk_frozen S4.out.2.2.2.1 0; have z1 : wS4.cell? ⟨w.heap.size, 1, none⟩ = some (.int .i64 0) := (blk_cell S4.out.2.2.2.1 1).trans rfl; have y1 := blk_frozen S4.out.2.2.2.1 1; have z2 : wS4.cell? ⟨w.heap.size, 2, none⟩ = some (.int .i64 0) := (blk_cell S4.out.2.2.2.1 2).trans rfl; have y2 := blk_frozen S4.out.2.2.2.1 2; have z3 : wS4.cell? ⟨w.heap.size, 3, none⟩ = some (.int .i64 0) := (blk_cell S4.out.2.2.2.1 3).trans rfl; have y3 := blk_frozen S4.out.2.2.2.1 3; have z4 : wS4.cell? ⟨w.heap.size, 4, none⟩ = some (.string ⟨#[]⟩) := (blk_cell S4.out.2.2.2.1 4).trans rfl; have y4 := blk_frozen S4.out.2.2.2.1 4; have z5 : wS4.cell? ⟨w.heap.size, 5, none⟩ = some (.float .f64 0) := (blk_cell S4.out.2.2.2.1 5).trans rfl; have y5 := blk_frozen S4.out.2.2.2.1 5)
      refine bodyPost_ret (results_row_tmp (p := 2) (u := 3) rfl _ _ w.heap.size 30 zeroMove (0, 0) _ rfl HZ.out.1 Try.underlying30 rfl size_move) rfl ?_
      exact MoveOf.none HMM.out HZ.out.2
  · have HMM := Lib.hid (show m = (none, e1, (s1, e1)) by have := HM.out; rw [if_pos c1] at this; exact this)
    go_wp2_with (go_at_call 31; refine (pack_Reader_Err.calls g s1 e1 _ _ _ w0 _ S1.out.1.2.2.2 S1.out.2.1 (err_f s1 e1)).mono ?_; rintro e wS2 ⟨rfl, h1, h2, h3⟩; have S2 := Lib.hid (S1.out.call h1 h2 h3); have c0S2 := S2.out.1.c0; have c1S2 := S2.out.1.c1; have V2 := Lib.hid (h3.blk V1.out hgv (by simp)); clear h1 h2 h3; have HZ := Lib.hid (S2.out.ret (.int .i64 0) (.int .i64 0) (.int .i64 0) (.int .i64 0) (.string ⟨#[]⟩) (.float .f64 0)); have z0 : wS2.cell? ⟨w.heap.size, 0, none⟩ = some (.int .i64 0) := (blk_cell S2.out.2.2.2.1 0).trans rfl; have y0 := blk_frozen S2.out.2.2.2.1 0; have z1 : wS2.cell? ⟨w.heap.size, 1, none⟩ = some (.int .i64 0) := (blk_cell S2.out.2.2.2.1 1).trans rfl; have y1 := blk_frozen S2.out.2.2.2.1 1; have z2 : wS2.cell? ⟨w.heap.size, 2, none⟩ = some (.int .i64 0) := (blk_cell S2.out.2.2.2.1 2).trans rfl; have y2 := blk_frozen S2.out.2.2.2.1 2; have z3 : wS2.cell? ⟨w.heap.size, 3, none⟩ = some (.int .i64 0) := (blk_cell S2.out.2.2.2.1 3).trans rfl; have y3 := blk_frozen S2.out.2.2.2.1 3; have z4 : wS2.cell? ⟨w.heap.size, 4, none⟩ = some (.string ⟨#[]⟩) := (blk_cell S2.out.2.2.2.1 4).trans rfl; have y4 := blk_frozen S2.out.2.2.2.1 4; have z5 : wS2.cell? ⟨w.heap.size, 5, none⟩ = some (.float .f64 0) := (blk_cell S2.out.2.2.2.1 5).trans rfl; have y5 := blk_frozen S2.out.2.2.2.1 5)
    refine bodyPost_ret (results_row_tmp (p := 2) (u := 3) rfl _ _ w.heap.size 30 zeroMove (0, 0) _ rfl HZ.out.1 Try.underlying30 rfl size_move) rfl ?_
    exact MoveOf.none HMM.out HZ.out.2
end Go.Proofs.Ytfcndhajcikgiaa.B
namespace Go.Proofs.Ytfcndhajcikgiaa.B
open Go.RowKit Go.Proofs.YtfcndhajcikgiaaW.PrintWords
def doneR (s : ByteArray) (er : Int) : Int := if er = 0 then (if s.size = 0 then 0 else 5) else er
set_option maxRecDepth 100000 in
theorem pack_Done.calls (g : Nat) (s : ByteArray) (er : Int) (w0 w : World) (hI : IsS85 w0 w g s er) (hB : Below w0.heap.size w0 w) :
    Calls Try.prog 34 #[.pointer (some ⟨g, 0, none⟩)] w fun e w' => e = .returned (.int .i64 (doneR s er)) ∧ IsS85 w0 w' g s er ∧ Below w0.heap.size w0 w' ∧ KeepBut w w' g none := by
  have S0 := Lib.hid (And.intro hI hB)
  have HL : pack_Reader_Left.f s er = some ((s.size : Int), s, er) := rfl
  clear hI hB
  go_enter Try.func34, Try.ntmps34
  by_cases he : er = 0
  · by_cases hs : (s.size : Int) = 0
    · have HD := Lib.hid (show doneR s er = 0 by unfold doneR; rw [if_pos he, if_pos (by omega)])
      go_wp2_with (first
        | (go_at_call 31; refine (pack_Reader_Err.calls g s er _ _ _ w0 _ S0.out.1 S0.out.2 (err_f s er)).mono ?_; rintro e w2 ⟨rfl, h1, h2, h3⟩; have S1 := Lib.hid (And.intro h1 (And.intro h2 h3)); clear h1 h2 h3)
        | (go_at_call 69; refine (pack_Reader_Left.calls g s er _ _ _ w0 _ S1.out.1 S1.out.2.1 HL).mono ?_; rintro e w3 ⟨rfl, h1, h2, h3⟩; have S2 := Lib.hid (And.intro h1 (And.intro h2 (S1.out.2.2.trans h3 (.inl rfl)))); clear h1 h2 h3))
      go_ret
      exact ⟨congrArg (fun x => Ending.returned (.int .i64 x)) HD.out.symm, S2.out⟩
    · have HD := Lib.hid (show doneR s er = 5 by unfold doneR; rw [if_pos he, if_neg (by omega)])
      go_wp2_with (first
        | (go_at_call 31; refine (pack_Reader_Err.calls g s er _ _ _ w0 _ S0.out.1 S0.out.2 (err_f s er)).mono ?_; rintro e w2 ⟨rfl, h1, h2, h3⟩; have S1 := Lib.hid (And.intro h1 (And.intro h2 h3)); clear h1 h2 h3)
        | (go_at_call 69; refine (pack_Reader_Left.calls g s er _ _ _ w0 _ S1.out.1 S1.out.2.1 HL).mono ?_; rintro e w3 ⟨rfl, h1, h2, h3⟩; have S2 := Lib.hid (And.intro h1 (And.intro h2 (S1.out.2.2.trans h3 (.inl rfl)))); clear h1 h2 h3))
      go_ret
      exact ⟨congrArg (fun x => Ending.returned (.int .i64 x)) HD.out.symm, S2.out⟩
  · have HD := Lib.hid (show doneR s er = er by unfold doneR; rw [if_neg he])
    go_wp2_with (go_at_call 31; refine (pack_Reader_Err.calls g s er _ _ _ w0 _ S0.out.1 S0.out.2 (err_f s er)).mono ?_; rintro e w2 ⟨rfl, h1, h2, h3⟩; have S1 := Lib.hid (And.intro h1 (And.intro h2 h3)); clear h1 h2 h3)
    go_ret
    exact ⟨congrArg (fun x => Ending.returned (.int .i64 x)) HD.out.symm, S1.out⟩
end Go.Proofs.Ytfcndhajcikgiaa.B
namespace Go.Proofs.Ytfcndhajcikgiaa.B
open Go.RowKit
def cmpI (a b : Int) : Int := if a < b then -1 else if b < a then 1 else 0
def firstI (x y : Int) : Int := if x = 0 then y else x
def beforeB (a b c d : Int) : Bool := decide (a < c) || (decide (a = c) && decide (b < d))
theorem Compare_at (a b : Int) (w : World) : Calls Try.prog 67 #[.int .i64 a, .int .i64 b] w fun e w' => e = .returned (.int .i64 (cmpI a b)) ∧ w = w' := by
  unfold cmpI
  by_cases h1 : a < b
  · rw [if_pos h1]
    go_enter Try.func67, Try.ntmps67
    go_wp2
    go_ret
    exact ⟨rfl, rfl⟩
  · rw [if_neg h1]
    by_cases h2 : b < a
    · rw [if_pos h2]
      go_enter Try.func67, Try.ntmps67
      go_wp2
      go_ret
      exact ⟨rfl, rfl⟩
    · rw [if_neg h2]
      go_enter Try.func67, Try.ntmps67
      go_wp2
      go_ret
      exact ⟨rfl, rfl⟩
theorem before1_at (p q : Nat) (a b : Int) (w : World) (h1 : w.cell? ⟨p, 0, none⟩ = some (.int .i64 a)) (h2 : w.cell? ⟨q, 0, none⟩ = some (.int .i64 b)) :
    Calls Try.prog 66 #[.pointer (some ⟨p, 0, none⟩), .pointer (some ⟨q, 0, none⟩)] w fun e w' => e = .returned (.int .i64 (cmpI a b)) ∧ w = w' := by
  go_enter Try.func66, Try.ntmps66
  go_wp2_with (go_at_call 67; refine (Compare_at _ _ _).mono ?_; rintro e w' ⟨rfl, rfl⟩)
  go_ret
  exact ⟨rfl, rfl⟩
theorem before2_at (p q : Nat) (a b : Int) (w : World) (h1 : w.cell? ⟨p, 1, none⟩ = some (.int .i64 a)) (h2 : w.cell? ⟨q, 1, none⟩ = some (.int .i64 b)) :
    Calls Try.prog 68 #[.pointer (some ⟨p, 0, none⟩), .pointer (some ⟨q, 0, none⟩)] w fun e w' => e = .returned (.int .i64 (cmpI a b)) ∧ w = w' := by
  go_enter Try.func68, Try.ntmps68
  go_wp2_with (go_at_call 67; refine (Compare_at _ _ _).mono ?_; rintro e w' ⟨rfl, rfl⟩)
  go_ret
  exact ⟨rfl, rfl⟩
/-- A number is handed back, the world is as it was. -/
def RetI (n : Int) (w : World) (e : Ending) (w' : World) : Prop := e = .returned (.int .i64 n) ∧ w = w'
theorem RetI.mk {n m : Int} {w w' : World} (h : m = n) (hw : w = w') : RetI n w (.returned (.int .i64 m)) w' := ⟨by rw [h], hw⟩
/-- Two ways, each of which tells a number and leaves the world alone. -/
theorem first_at (g f1 f2 : Nat) (c1 c2 : Array Value) (x y : Int) (w : World) (h1 : w.cell? ⟨g, 0, none⟩ = some (.func (.func f1) #[] c1)) (h2 : w.cell? ⟨g, 1, none⟩ = some (.func (.func f2) #[] c2))
    (hf1 : f1 = 66) (hf2 : f2 = 68)
    (k1 : Calls Try.prog f1 c1 w fun e w' => e = .returned (.int .i64 x) ∧ w = w') (k2 : Calls Try.prog f2 c2 w fun e w' => e = .returned (.int .i64 y) ∧ w = w') :
    Calls Try.prog 65 #[.slice (some ⟨g, 0, none⟩) 2 2] w (RetI (firstI x y) w) := by
  subst hf1 hf2
  have K1 := Lib.hid k1
  have K2 := Lib.hid k2
  clear k1 k2
  go_enter Try.func65, Try.ntmps65
  go_wp2
  go_loop [8] (fun i => ∃ k : Nat, i = .int .i64 k ∧ k ≤ 2 ∧ (1 ≤ k → x = 0) ∧ (2 ≤ k → y = 0)) (fun i => (2 - intOf i).toNat)
  case atStart => exact ⟨0, rfl, by omega, by omega, by omega⟩
  case round =>
    obtain ⟨k, rfl, hk, hx, hy⟩ := hrel
    have HX := Lib.hid hx
    have HY := Lib.hid hy
    clear hx hy
    rcases k with _ | _ | _ | k
    · by_cases h0 : x = 0
      · have H0 := Lib.hid h0
        have hb : (x == 0) = true := by simpa using h0
        have hb2 : (x != 0) = false := by simpa using h0
        clear h0
        go_wp2_with (go_at_call 66; refine K1.out.mono ?_; rintro e w' ⟨rfl, rfl⟩)
        go_round
        case rel => exact ⟨1, rfl, by omega, fun _ => H0.out, by omega⟩
        case measure => simp [intOf]
      · have hb : (x == 0) = false := by simpa using h0
        have hb2 : (x != 0) = true := by simpa using h0
        go_wp2_with (go_at_call 66; refine K1.out.mono ?_; rintro e w' ⟨rfl, rfl⟩)
        go_ret
        exact RetI.mk (if_neg h0).symm rfl
    · have HX0 := Lib.hid (HX.out (by omega))
      clear HX HY K1
      by_cases h0 : y = 0
      · have H0 := Lib.hid h0
        have hb : (y == 0) = true := by simpa using h0
        have hb2 : (y != 0) = false := by simpa using h0
        clear h0
        go_wp2_with (go_at_call 68; refine K2.out.mono ?_; rintro e w' ⟨rfl, rfl⟩)
        go_round
        case rel => exact ⟨2, rfl, by omega, fun _ => HX0.out, fun _ => H0.out⟩
        case measure => simp [intOf]
      · have hb : (y == 0) = false := by simpa using h0
        have hb2 : (y != 0) = true := by simpa using h0
        go_wp2_with (go_at_call 68; refine K2.out.mono ?_; rintro e w' ⟨rfl, rfl⟩)
        go_ret
        exact RetI.mk (if_pos HX0.out).symm rfl
    · have hx0 := HX.out (by omega)
      have hy0 := HY.out (by omega)
      have HX0 := Lib.hid hx0
      have HY0 := Lib.hid hy0
      clear HX HY K1 K2 hx0 hy0
      go_wp2
      go_ret
      exact RetI.mk (by rw [firstI, if_pos HX0.out, HY0.out]) rfl
    · omega
theorem before_cmp (a b c d : Int) : decide (firstI (cmpI a c) (cmpI b d) < 0) = beforeB a b c d := by
  unfold firstI cmpI beforeB
  rcases Int.lt_trichotomy a c with h | h | h
  · rw [if_pos h]; simp [h]
  · subst h
    simp only [Int.lt_irrefl, if_false, if_true, decide_false, Bool.false_or, decide_true, Bool.true_and]
    by_cases h2 : b < d
    · simp [h2]
    · rw [if_neg h2]
      by_cases h3 : d < b <;> simp [h2, h3]
  · rw [if_neg (by omega), if_pos h]
    have : ¬ a < c := by omega
    have : ¬ a = c := by omega
    simp [*]
set_option maxHeartbeats 400000 in
theorem rank_Before.calls0 (a b c d : Int) (w : World) :
    Calls Try.prog 33 #[.agg #[.int .i64 a, .int .i64 b], .agg #[.int .i64 c, .int .i64 d]] w fun e w' => e = .returned (.bool (beforeB a b c d)) ∧ Below w.heap.size w w' := by
  have hmf : ∀ (fn : Fn) (first cap : Array Value) (w : World), (Instr.makeFunc fn first cap).run Try.prog w = .ok (.func fn first cap) w := fun _ _ _ _ => rfl
  go_enter Try.func33, Try.ntmps33
  go_wp2_with (fail)
  refine (first_at _ 66 68 #[.pointer (some ⟨w.heap.size, 0, none⟩), .pointer (some ⟨w.heap.size + 1, 0, none⟩)] #[.pointer (some ⟨w.heap.size, 0, none⟩), .pointer (some ⟨w.heap.size + 1, 0, none⟩)] (cmpI a c) (cmpI b d) _ (by go_simp) (by go_simp) rfl rfl (before1_at w.heap.size (w.heap.size + 1) a c _ (by go_simp) (by go_simp)) (before2_at w.heap.size (w.heap.size + 1) b d _ (by go_simp) (by go_simp))).mono ?_
  rintro e w' ⟨rfl, rfl⟩
  go_wp2_with (fail)
  go_ret
  refine ⟨?_, ?_⟩
  · exact congrArg (fun x => Ending.returned (.bool x)) (before_cmp a b c d)
  · exact (((Below.refl _ _).alloc (Nat.le_refl _) _).alloc (by simp) _).alloc (by simp; omega) _
def rank_Before.f (a0_0 a0_1 a1_0 a1_1 : Int) : Option Bool := some (beforeB a0_0 a0_1 a1_0 a1_1)
theorem rank_Before.calls (a0_0 : Int) (a0_1 : Int) (a1_0 : Int) (a1_1 : Int) (r : Bool) (w : World) (h : rank_Before.f a0_0 a0_1 a1_0 a1_1 = some r) :
    Calls Try.prog 33 #[.agg #[.int .i64 a0_0, .int .i64 a0_1], .agg #[.int .i64 a1_0, .int .i64 a1_1]] w fun e w' => e = .returned (.bool r) ∧ Below w.heap.size w w' := by
  obtain rfl := Option.some.inj h
  exact rank_Before.calls0 a0_0 a0_1 a1_0 a1_1 w
end Go.Proofs.Ytfcndhajcikgiaa.B
namespace Go.Proofs.Ytfcndhajcikgiaa.B
open Go.RowKit Go.Proofs.Sp Go.Proofs.Fl Go.Proofs.YtfcndhajcikgiaaW.PrintWords Go.Proofs.YtfcndhajcikgiaaW.PrintLast Go.Proofs.YtfcndhajcikgiaaW.PrintMore
def oneM (x : S30) : Bool := oneB x.f0.f0 x.f0.f1 x.f1 x.f2 x.f3
def ordM : List S30 → Bool
  | a :: b :: r => beforeB a.f0.f0 a.f0.f1 b.f0.f0 b.f0.f1 && ordM (b :: r)
  | _ => true
def mayM (l : List S30) : Bool := ordM l && decide (l.length ≤ 2000) && l.all oneM
abbrev moveV (x : S30) : Value := .agg #[.int .i64 x.f0.f0, .int .i64 x.f0.f1, .int .i64 x.f1, .int .i64 x.f2, .string x.f3, .float .f64 x.f4]
set_option maxRecDepth 100000 in
theorem may_closure (x : S30) (w : World) : Calls Try.prog 53 #[moveV x] w fun e w' => e = .returned (.bool (!oneM x)) ∧ Below w.heap.size w w' := by
  go_enter Try.func53, Try.ntmps53
  go_wp2_with (go_at_call 54; refine (moves_One.calls x.f0.f0 x.f0.f1 x.f1 x.f2 x.f3 x.f4 _ _ (one_f _ _ _ _ _ _)).mono ?_; rintro e w2 ⟨rfl, hb⟩; have HB := Lib.hid hb; clear hb)
  go_ret
  exact ⟨rfl, below_alloc (Below.refl _ _) _ |>.trans (HB.out.mono (by simp))⟩
theorem rd_get (l : List S30) (i : Nat) (h : i < l.length) : rd_T30 l (i : Int) = l[i] := by
  unfold rd_T30
  rw [Int.toNat_natCast, List.getD_eq_getElem?_getD, List.getElem?_eq_getElem h]; rfl
set_option maxRecDepth 100000 in
set_option maxHeartbeats 1000000 in
theorem index_bad (A : Option Addr) (c : Nat) (l : List S30) (w : World) (hr : Kd.C k30 w A l.length l) :
    Calls Try.prog 79 #[.slice A l.length c, .func (Fn.func 53) #[] #[]] w fun e w' => ∃ x : Int, e = .returned (.int .i64 x) ∧ decide (0 ≤ x) = !l.all oneM ∧ Below w.heap.size w w' := by
  have HR := Lib.hid hr
  have hlen : l.length ≤ 9223372036854775807 := hr.2.1
  clear hr
  go_enter Try.func79, Try.ntmps79
  go_wp2
  go_loopw [8] (fun v wr => ∃ i : Nat, v = .int .i64 i ∧ i ≤ l.length ∧ (l.take i).all oneM = true ∧ Below w.heap.size w wr) (fun v _ => l.length - (intOf v).toNat)
  case atStart => exact ⟨0, rfl, by omega, by simp, Below.refl _ _⟩
  case round =>
    obtain ⟨i, rfl, hi, ha, hb⟩ := hrel
    have HA := Lib.hid ha
    have HB := Lib.hid hb
    clear ha hb
    by_cases hlt : i < l.length
    · obtain ⟨ad, rfl, x0, x1, x2, x3, x4, x5⟩ := at_T30 HR.out i (by omega) (by omega)
      replace x0 := (HB.out.cell (World.block_lt_of_cell? w _ x0)).trans x0
      replace x1 := (HB.out.cell (World.block_lt_of_cell? w _ x1)).trans x1
      replace x2 := (HB.out.cell (World.block_lt_of_cell? w _ x2)).trans x2
      replace x3 := (HB.out.cell (World.block_lt_of_cell? w _ x3)).trans x3
      replace x4 := (HB.out.cell (World.block_lt_of_cell? w _ x4)).trans x4
      replace x5 := (HB.out.cell (World.block_lt_of_cell? w _ x5)).trans x5
      rw [rd_get l i hlt] at x0 x1 x2 x3 x4 x5
      simp only [Int.toNat_natCast] at x0 x1 x2 x3 x4 x5
      obtain ⟨m, hm⟩ : ∃ m, m = l[i] := ⟨_, rfl⟩
      rw [← hm] at x0 x1 x2 x3 x4 x5
      have HM := Lib.hid hm
      clear hm
      cases ho : oneM m with
      | false =>
        have HO := Lib.hid ho
        clear ho
        go_wp2_with (go_at_call 53; refine (may_closure m _).mono ?_; rintro e w2 ⟨rfl, hb⟩; rw [HO.out]; have HB2 := Lib.hid (HB.out.trans (hb.mono HB.out.size)); clear hb)
        go_ret
        refine ⟨i, rfl, ?_, HB2.out⟩
        have hall : l.all oneM = false := by
          rw [List.all_eq_false]
          exact ⟨l[i], List.getElem_mem hlt, by rw [← HM.out, HO.out]; decide⟩
        rw [hall, decide_eq_true (by omega)]; rfl
      | true =>
        have HO := Lib.hid ho
        clear ho
        go_wp2_with (go_at_call 53; refine (may_closure m _).mono ?_; rintro e w2 ⟨rfl, hb⟩; rw [HO.out]; have HB2 := Lib.hid (HB.out.trans (hb.mono HB.out.size)); clear hb)
        go_roundw
        case rel => exact ⟨i + 1, by go_num, by omega, by rw [List.take_succ_eq_append_getElem hlt, List.all_append, HA.out, ← HM.out, List.all_cons, HO.out]; rfl, HB2.out⟩
        case measure => simp [intOf]; omega
    · obtain rfl : i = l.length := by omega
      go_wp2
      go_ret
      exact ⟨-1, rfl, by have := HA.out; rw [List.take_length] at this; rw [this]; rfl, HB.out⟩
set_option maxRecDepth 100000 in
theorem contains_bad (A : Option Addr) (c : Nat) (l : List S30) (w : World) (hr : Kd.C k30 w A l.length l) :
    Calls Try.prog 52 #[.slice A l.length c, .func (Fn.func 53) #[] #[]] w fun e w' => e = .returned (.bool (!l.all oneM)) ∧ Below w.heap.size w w' := by
  have HR := Lib.hid hr
  clear hr
  go_enter Try.func52, Try.ntmps52
  go_wp2_with (go_at_call 79; refine (index_bad A c l _ HR.out).mono ?_; rintro e w2 ⟨x, rfl, hx, hb⟩; have HX := Lib.hid hx; have HB := Lib.hid hb; clear hx hb)
  go_ret
  exact ⟨congrArg (fun b => Ending.returned (.bool b)) HX.out, HB.out⟩
set_option maxRecDepth 100000 in
set_option maxHeartbeats 1000000 in
theorem moves_May.calls0 (A : Option Addr) (c : Nat) (l : List S30) (w : World) (hr : Kd.C k30 w A l.length l) :
    Calls Try.prog 28 #[.slice A l.length c] w fun e w' => e = .returned (.bool (mayM l)) ∧ Below w.heap.size w w' := by
  have HR := Lib.hid hr
  have hlen : l.length ≤ 9223372036854775807 := hr.2.1
  clear hr
  go_enter Try.func28, Try.ntmps28
  go_wp2
  go_loopw [3] (fun v wr => ∃ i : Nat, v = .int .i64 i ∧ 1 ≤ i ∧ ordM l = ordM (l.drop (i - 1)) ∧ Below w.heap.size w wr) (fun v _ => l.length - (intOf v).toNat)
  case atStart => exact ⟨1, rfl, by omega, rfl, Below.refl _ _⟩
  case round =>
    obtain ⟨i, rfl, hi1, ha, hb⟩ := hrel
    have HA := Lib.hid ha
    have HB := Lib.hid hb
    clear ha hb
    by_cases hlt : i < l.length
    · obtain ⟨j, rfl⟩ : ∃ j, i = j + 1 := ⟨i - 1, by omega⟩
      obtain ⟨ad, hA, x0, x1, -, -, -, -⟩ := at_T30 HR.out (j : Int) (by omega) (by omega)
      subst hA
      obtain ⟨ad', hA, y0, y1, -, -, -, -⟩ := at_T30 HR.out ((j + 1 : Nat) : Int) (by omega) (by omega)
      injection hA with hA
      subst hA
      rw [rd_get l j (by omega)] at x0 x1
      rw [rd_get l (j + 1) hlt] at y0 y1
      have HC := Lib.hid (fun (W : World) (h : Below w.heap.size w W) (p : Addr) (v : Value) (hp : w.cell? p = some v) => (h.cell (World.block_lt_of_cell? w _ hp)).trans hp)
      have w0 := HC.out wr HB.out _ _ x0
      have w1 := HC.out wr HB.out _ _ x1
      have w2 := HC.out wr HB.out _ _ y0
      have w3 := HC.out wr HB.out _ _ y1
      have hdr : l.drop (j + 1 - 1) = l[j] :: l[j + 1] :: l.drop (j + 2) := by
        rw [show j + 1 - 1 = j by omega, List.drop_eq_getElem_cons (by omega), List.drop_eq_getElem_cons hlt]
      have hor : ordM l = (beforeB l[j].f0.f0 l[j].f0.f1 l[j + 1].f0.f0 l[j + 1].f0.f1 && ordM (l.drop (j + 1))) := by
        rw [HA.out, hdr, ordM, List.drop_eq_getElem_cons hlt]
      have HOR := Lib.hid hor
      clear hdr hor
      obtain ⟨ma, hma⟩ : ∃ m, m = l[j] := ⟨_, rfl⟩
      obtain ⟨mb, hmb⟩ : ∃ m, m = l[j + 1] := ⟨_, rfl⟩
      rw [← hma] at x0 x1 w0 w1 HOR
      rw [← hmb] at y0 y1 w2 w3 HOR
      clear hma hmb
      have HJ := Lib.hid (show (0 : Int) ≤ (j : Int) ∧ (j : Int) < (l.length : Int) ∧ (0 : Int) ≤ ((j + 1 : Nat) : Int) ∧ ((j + 1 : Nat) : Int) < (l.length : Int) ∧ IntKind.i64.wrap (((j + 1 : Nat) : Int) - 1) = (j : Int) by
        refine ⟨by omega, by omega, by omega, by omega, ?_⟩
        rw [i64_w, w64 (by omega) (by omega)]; omega)
      obtain ⟨I, hI⟩ : ∃ I, I = ((j + 1 : Nat) : Int) := ⟨_, rfl⟩
      obtain ⟨J, hJ⟩ : ∃ J, J = (j : Int) := ⟨_, rfl⟩
      rw [← hI] at HJ y0 y1 w2 w3
      rw [← hJ] at HJ x0 x1 w0 w1
      rw [← hI]
      obtain ⟨hj2, hj3, hj5, hj4, hj1⟩ := HJ.out
      have hj6 : I ≤ 9223372036854775806 := by omega
      have HI := Lib.hid hI
      clear hI hJ HJ
      have X0 := Lib.hid x0
      have X1 := Lib.hid x1
      have Y0 := Lib.hid y0
      have Y1 := Lib.hid y1
      clear x0 x1 y0 y1
      cases hbf : beforeB ma.f0.f0 ma.f0.f1 mb.f0.f0 mb.f0.f1 with
      | false =>
        have HBF := Lib.hid (show rank_Before.f ma.f0.f0 ma.f0.f1 mb.f0.f0 mb.f0.f1 = some false by unfold rank_Before.f; rw [hbf])
        have HF := Lib.hid (show mayM l = false by unfold mayM; rw [HOR.out, hbf]; rfl)
        clear hbf
        go_wp2
        go_region_held3 (fun w' => w'.cell? (ad.add (J.toNat * 6)) = some (.int .i64 ma.f0.f0) ∧ w'.cell? ⟨(ad.add (J.toNat * 6)).block, (ad.add (J.toNat * 6)).off + 1, none⟩ = some (.int .i64 ma.f0.f1) ∧ w'.cell? (ad.add (I.toNat * 6)) = some (.int .i64 mb.f0.f0) ∧ w'.cell? ⟨(ad.add (I.toNat * 6)).block, (ad.add (I.toNat * 6)).off + 1, none⟩ = some (.int .i64 mb.f0.f1)) (go_keep) (first | (go_at_call 33; refine (rank_Before.calls ma.f0.f0 ma.f0.f1 mb.f0.f0 mb.f0.f1 false _ HBF.out).mono ?_; rintro e wb ⟨rfl, hb⟩; have hB2 : Below w.heap.size w wb := HB.out.trans ((show Below wr.heap.size wr wb from ⟨hb.os, hb.tape, hb.output, hb.size, hb.block⟩).mono HB.out.size); have u0 := HC.out wb hB2 _ _ X0.out; have u1 := HC.out wb hB2 _ _ X1.out; have u2 := HC.out wb hB2 _ _ Y0.out; have u3 := HC.out wb hB2 _ _ Y1.out; have HB2 := Lib.hid hB2; clear hb hB2))
        all_goals go_wp2
        all_goals go_ret
        all_goals exact ⟨by rw [HF.out]; rfl, HB2.out⟩
      | true =>
        have HBF := Lib.hid (show rank_Before.f ma.f0.f0 ma.f0.f1 mb.f0.f0 mb.f0.f1 = some true by unfold rank_Before.f; rw [hbf])
        have HF := Lib.hid (show ordM l = ordM (l.drop (j + 1)) by rw [HOR.out, hbf]; rfl)
        clear hbf
        go_wp2
        go_region_held3 (fun w' => w'.cell? (ad.add (J.toNat * 6)) = some (.int .i64 ma.f0.f0) ∧ w'.cell? ⟨(ad.add (J.toNat * 6)).block, (ad.add (J.toNat * 6)).off + 1, none⟩ = some (.int .i64 ma.f0.f1) ∧ w'.cell? (ad.add (I.toNat * 6)) = some (.int .i64 mb.f0.f0) ∧ w'.cell? ⟨(ad.add (I.toNat * 6)).block, (ad.add (I.toNat * 6)).off + 1, none⟩ = some (.int .i64 mb.f0.f1)) (go_keep) (first | (go_at_call 33; refine (rank_Before.calls ma.f0.f0 ma.f0.f1 mb.f0.f0 mb.f0.f1 true _ HBF.out).mono ?_; rintro e wb ⟨rfl, hb⟩; have hB2 : Below w.heap.size w wb := HB.out.trans ((show Below wr.heap.size wr wb from ⟨hb.os, hb.tape, hb.output, hb.size, hb.block⟩).mono HB.out.size); have u0 := HC.out wb hB2 _ _ X0.out; have u1 := HC.out wb hB2 _ _ X1.out; have u2 := HC.out wb hB2 _ _ Y0.out; have u3 := HC.out wb hB2 _ _ Y1.out; have HB2 := Lib.hid hB2; clear hb hB2))
        all_goals go_wp2
        all_goals refine ⟨⟨j + 2, by have := HI.out; exact congrArg (Value.int .i64) (by omega), by omega, by rw [show j + 2 - 1 = j + 1 by omega]; exact HF.out, HB2.out⟩, ?_⟩
        all_goals (have := HI.out; simp [intOf]; omega)
    · have hord : ordM l = true := by
        rw [HA.out]
        rcases Nat.lt_or_ge (i - 1) l.length with h | h
        · rw [List.drop_eq_getElem_cons h, List.drop_eq_nil_of_le (by omega)]; rfl
        · rw [List.drop_eq_nil_of_le h]; rfl
      have HO := Lib.hid hord
      clear hord
      by_cases h2 : l.length ≤ 2000
      · go_wp2_with (go_at_call 52; refine (contains_bad A c l wr (Kd.C_below HR.out HB.out)).mono ?_; rintro e wb ⟨rfl, hb⟩; have HB2 := Lib.hid (HB.out.trans (hb.mono HB.out.size)); clear hb)
        go_ret
        exact ⟨by unfold mayM; rw [HO.out, decide_eq_true h2]; simp, HB2.out⟩
      · go_wp2
        go_ret
        exact ⟨by unfold mayM; rw [HO.out, decide_eq_false h2]; simp, HB.out⟩
/-- moves.May, in the printed form. -/
def moves_May.f (l0 : List S30) : Option Bool := some (mayM l0)
theorem moves_May.calls (A0 : Option Addr) (c0 : Nat) (l0 : List S30) (r : Bool) (w : World) (hr0 : Kd.C k30 w A0 l0.length l0) (hc0 : l0.length ≤ c0) (h : moves_May.f l0 = some r) :
    Calls Try.prog 28 #[.slice A0 l0.length c0] w fun e w' => e = .returned (.bool r) ∧ Below w.heap.size w w' := by
  obtain rfl := Option.some.inj h
  exact moves_May.calls0 A0 c0 l0 w hr0
end Go.Proofs.Ytfcndhajcikgiaa.B
namespace Go.Proofs.Ytfcndhajcikgiaa.B
open Go.RowKit Go.Proofs.YtfcndhajcikgiaaW.PrintWords Go.Proofs.YtfcndhajcikgiaaW.PrintLast Go.Proofs.YtfcndhajcikgiaaW.PrintMore
def stringslite_HasPrefix.f (a0 : ByteArray) (a1 : ByteArray) : Option (Bool) := if (a0.size : Int) ≥ (a1.size : Int) then (if 0 ≤ (a1.size : Int) then (if (a1.size : Int) ≤ (a0.size : Int) then (some ((a0.extract 0 ((a1.size : Int) : Int).toNat).toList == a1.toList)) else (none)) else (none)) else (some false)
set_option maxHeartbeats 8000000 in
set_option maxRecDepth 100000 in
theorem stringslite_HasPrefix.calls (a0 : ByteArray) (a1 : ByteArray) (r : Bool) (w : World) (h : stringslite_HasPrefix.f a0 a1 = some r) :
    Calls Try.prog 90 #[.string a0, .string a1] w fun e w' => e = .returned (.bool r) ∧ Drawn0 w w' := by
  have H : (if (a0.size : Int) ≥ (a1.size : Int) then (if 0 ≤ (a1.size : Int) then (if (a1.size : Int) ≤ (a0.size : Int) then (some ((a0.extract 0 ((a1.size : Int) : Int).toNat).toList == a1.toList)) else (none)) else (none)) else (some false)) = some r := h
  clear h
  by_cases c3 : (a0.size : Int) ≥ (a1.size : Int)
  · rw [if_pos c3] at H
    have c3b0 : decide ((a1.size : Int) ≤ (a0.size : Int)) = true := decide_eq_true c3
    have c3b1 : decide (a1.size ≤ a0.size) = true := decide_eq_true (Int.ofNat_le.mp c3)
    clear c3
    by_cases c4 : 0 ≤ (a1.size : Int)
    · rw [if_pos c4] at H
      have c4b0 := eq_true c4
      have c4b1 : decide (0 ≤ (a1.size : Int)) = true := decide_eq_true c4
      clear c4
      by_cases c5 : (a1.size : Int) ≤ (a0.size : Int)
      · rw [if_pos c5] at H
        have c5b0 := eq_true c5
        have c5b1 : decide ((a1.size : Int) ≤ (a0.size : Int)) = true := decide_eq_true c5
        clear c5
        obtain rfl := Option.some.inj H
        go_enter Try.func90, Try.ntmps90
        go_wp2
        go_ret
        exact ⟨by first | rfl | (simp; done) | (simp [*]; done), by repeat (first | exact Drawn0.refl _ | apply Drawn0.step)⟩
      · rw [if_neg c5] at H
        exact absurd H (by simp)
    · rw [if_neg c4] at H
      exact absurd H (by simp)
  · rw [if_neg c3] at H
    have c3b0 : decide ((a1.size : Int) ≤ (a0.size : Int)) = false := decide_eq_false c3
    have c3b1 : decide (a1.size ≤ a0.size) = false := decide_eq_false (fun h => c3 (Int.ofNat_le.mpr h))
    clear c3
    obtain rfl := Option.some.inj H
    go_enter Try.func90, Try.ntmps90
    go_wp2
    go_ret
    exact ⟨by first | rfl | (simp; done) | (simp [*]; done), by repeat (first | exact Drawn0.refl _ | apply Drawn0.step)⟩
end Go.Proofs.Ytfcndhajcikgiaa.B
namespace Go.Proofs.Ytfcndhajcikgiaa.B
open Go.RowKit Go.Proofs.YtfcndhajcikgiaaW.PrintWords Go.Proofs.YtfcndhajcikgiaaW.PrintLast Go.Proofs.YtfcndhajcikgiaaW.PrintMore
def stringslite_CutPrefix.f (a0 : ByteArray) (a1 : ByteArray) : Option (ByteArray × Bool) := (stringslite_HasPrefix.f a0 a1).bind fun t211 => (if t211 = true then (if 0 ≤ (a1.size : Int) then (if (a1.size : Int) ≤ (a0.size : Int) then (some (a0.extract ((a1.size : Int) : Int).toNat a0.size, true)) else (none)) else (none)) else (some (a0, false)))
set_option maxHeartbeats 8000000 in
set_option maxRecDepth 100000 in
theorem stringslite_CutPrefix.calls (a0 : ByteArray) (a1 : ByteArray) (r1 : ByteArray) (r2 : Bool) (w : World) (h : stringslite_CutPrefix.f a0 a1 = some (r1, r2)) :
    Calls Try.prog 76 #[.string a0, .string a1] w fun e w' => e = .returned (.tuple #[.string r1, .bool r2]) ∧ Drawn0 w w' := by
  have H : ((stringslite_HasPrefix.f a0 a1).bind fun t211 => (if t211 = true then (if 0 ≤ (a1.size : Int) then (if (a1.size : Int) ≤ (a0.size : Int) then (some (a0.extract ((a1.size : Int) : Int).toNat a0.size, true)) else (none)) else (none)) else (some (a0, false)))) = some (r1, r2) := h
  clear h
  replace H := Option.bind_eq_some_iff.mp H
  obtain ⟨t211, A30, H⟩ := H
  replace H : (if t211 = true then (if 0 ≤ (a1.size : Int) then (if (a1.size : Int) ≤ (a0.size : Int) then (some (a0.extract ((a1.size : Int) : Int).toNat a0.size, true)) else (none)) else (none)) else (some (a0, false))) = some (r1, r2) := H
  have A3 := Aside0.mk A30
  clear A30
  by_cases c4 : t211 = true
  · subst c4
    have H1 : (if 0 ≤ (a1.size : Int) then (if (a1.size : Int) ≤ (a0.size : Int) then (some (a0.extract ((a1.size : Int) : Int).toNat a0.size, true)) else (none)) else (none)) = some (r1, r2) := by rw [if_pos rfl] at H; exact H
    clear H
    have H := H1
    clear H1
    by_cases c5 : 0 ≤ (a1.size : Int)
    · rw [if_pos c5] at H
      have c5b0 := eq_true c5
      have c5b1 : decide (0 ≤ (a1.size : Int)) = true := decide_eq_true c5
      clear c5
      by_cases c6 : (a1.size : Int) ≤ (a0.size : Int)
      · rw [if_pos c6] at H
        have c6b0 := eq_true c6
        have c6b1 : decide ((a1.size : Int) ≤ (a0.size : Int)) = true := decide_eq_true c6
        clear c6
        simp only [Option.some.injEq, Prod.mk.injEq] at H
        obtain ⟨rfl, rfl⟩ := H
        go_enter Try.func76, Try.ntmps76
        go_wp2_with (first | ((with_reducible refine gate_callee (f := 90) rfl ?_); refine goesL_ (some 8) rfl rfl Try.func90 (by kernel_rfl) rfl #[.string a0, .string a1] rfl (by (try simp only [List.map_toArray, List.map_cons, List.map_nil]); first | done | rfl | (simp only [List.length_drop, List.length_take]; rfl)) ?_; (with_reducible refine (stringslite_HasPrefix.calls a0 a1 true _ A3.out).mono ?_); rintro e w' ⟨rfl, ⟨nd, rfl⟩⟩; refine ⟨_, rfl, ?_⟩))
        go_ret2
        exact ⟨by first | rfl | (simp; done) | (simp [*]; done), by repeat (first | exact Drawn0.refl _ | apply Drawn0.step)⟩
      · rw [if_neg c6] at H
        exact absurd H (by simp)
    · rw [if_neg c5] at H
      exact absurd H (by simp)
  · replace c4 := Bool.eq_false_iff.mpr c4
    subst c4
    have H1 : (some (a0, false)) = some (r1, r2) := by rw [if_neg (show ¬ (false = true) by decide)] at H; exact H
    clear H
    have H := H1
    clear H1
    simp only [Option.some.injEq, Prod.mk.injEq] at H
    obtain ⟨rfl, rfl⟩ := H
    go_enter Try.func76, Try.ntmps76
    go_wp2_with (first | ((with_reducible refine gate_callee (f := 90) rfl ?_); refine goesL_ (some 8) rfl rfl Try.func90 (by kernel_rfl) rfl #[.string a0, .string a1] rfl (by (try simp only [List.map_toArray, List.map_cons, List.map_nil]); first | done | rfl | (simp only [List.length_drop, List.length_take]; rfl)) ?_; (with_reducible refine (stringslite_HasPrefix.calls a0 a1 false _ A3.out).mono ?_); rintro e w' ⟨rfl, ⟨nd, rfl⟩⟩; refine ⟨_, rfl, ?_⟩))
    go_ret2
    exact ⟨by first | rfl | (simp; done) | (simp [*]; done), by repeat (first | exact Drawn0.refl _ | apply Drawn0.step)⟩
end Go.Proofs.Ytfcndhajcikgiaa.B
namespace Go.Proofs.Ytfcndhajcikgiaa.B
open Go.RowKit Go.Proofs.YtfcndhajcikgiaaW.PrintWords Go.Proofs.YtfcndhajcikgiaaW.PrintLast Go.Proofs.YtfcndhajcikgiaaW.PrintMore
def strings_CutPrefix.f (a0 : ByteArray) (a1 : ByteArray) : Option (ByteArray × Bool) := (stringslite_CutPrefix.f a0 a1).bind fun bt212 => (some (bt212.1, bt212.2))
set_option maxHeartbeats 8000000 in
set_option maxRecDepth 100000 in
theorem strings_CutPrefix.calls (a0 : ByteArray) (a1 : ByteArray) (r1 : ByteArray) (r2 : Bool) (w : World) (h : strings_CutPrefix.f a0 a1 = some (r1, r2)) :
    Calls Try.prog 45 #[.string a0, .string a1] w fun e w' => e = .returned (.tuple #[.string r1, .bool r2]) ∧ Drawn0 w w' := by
  have H : ((stringslite_CutPrefix.f a0 a1).bind fun bt212 => (some (bt212.1, bt212.2))) = some (r1, r2) := h
  clear h
  replace H := Option.bind_eq_some_iff.mp H
  obtain ⟨⟨t212, t213⟩, A30, H⟩ := H
  replace H : (some (t212, t213)) = some (r1, r2) := H
  have A3 := Aside0.mk A30
  clear A30
  simp only [Option.some.injEq, Prod.mk.injEq] at H
  obtain ⟨rfl, rfl⟩ := H
  go_enter Try.func45, Try.ntmps45
  go_wp2_with (first | ((with_reducible refine gate_callee (f := 76) rfl ?_); refine goesL_ (some 8) rfl rfl Try.func76 (by kernel_rfl) rfl #[.string a0, .string a1] rfl (by (try simp only [List.map_toArray, List.map_cons, List.map_nil]); first | done | rfl | (simp only [List.length_drop, List.length_take]; rfl)) ?_; (with_reducible refine (stringslite_CutPrefix.calls a0 a1 t212 t213 _ A3.out).mono ?_); rintro e w' ⟨rfl, ⟨nd, rfl⟩⟩; refine ⟨_, rfl, ?_⟩))
  go_ret2
  exact ⟨by first | rfl | (simp; done) | (simp [*]; done), by repeat (first | exact Drawn0.refl _ | apply Drawn0.step)⟩
end Go.Proofs.Ytfcndhajcikgiaa.B
namespace Go.Proofs.Ytfcndhajcikgiaa.B
open Go.RowKit Go.Proofs.YtfcndhajcikgiaaW.PrintWords Go.Proofs.YtfcndhajcikgiaaW.PrintLast Go.Proofs.YtfcndhajcikgiaaW.PrintMore
def chunk_Version.f (a0 : ByteArray) : Option (Int × Int) := (strings_CutPrefix.f a0 (⟨#[66, 78, 83, 73]⟩ : ByteArray)).bind fun bt214 => (if bt214.2 = true then (if bt214.1.toList = ([] : List UInt8) then (some (0, 2)) else (if 0 < (bt214.1.size : Int) then (some (wrap64 (bt bt214.1 0), 0)) else (none))) else (some (0, 7)))
set_option maxHeartbeats 8000000 in
set_option maxRecDepth 100000 in
theorem chunk_Version.calls (a0 : ByteArray) (r1 : Int) (r2 : Int) (w : World) (h : chunk_Version.f a0 = some (r1, r2)) :
    Calls Try.prog 17 #[.string a0] w fun e w' => e = .returned (.tuple #[.int .i64 r1, .int .i64 r2]) ∧ Drawn0 w w' := by
  have H : ((strings_CutPrefix.f a0 (⟨#[66, 78, 83, 73]⟩ : ByteArray)).bind fun bt214 => (if bt214.2 = true then (if bt214.1.toList = ([] : List UInt8) then (some (0, 2)) else (if 0 < (bt214.1.size : Int) then (some (wrap64 (bt bt214.1 0), 0)) else (none))) else (some (0, 7)))) = some (r1, r2) := h
  clear h
  replace H := Option.bind_eq_some_iff.mp H
  obtain ⟨⟨t214, t215⟩, A20, H⟩ := H
  replace H : (if t215 = true then (if t214.toList = ([] : List UInt8) then (some (0, 2)) else (if 0 < (t214.size : Int) then (some (wrap64 (bt t214 0), 0)) else (none))) else (some (0, 7))) = some (r1, r2) := H
  have A2 := Aside0.mk A20
  clear A20
  by_cases c3 : t215 = true
  · subst c3
    have H1 : (if t214.toList = ([] : List UInt8) then (some (0, 2)) else (if 0 < (t214.size : Int) then (some (wrap64 (bt t214 0), 0)) else (none))) = some (r1, r2) := by rw [if_pos rfl] at H; exact H
    clear H
    have H := H1
    clear H1
    by_cases c4 : t214.toList = ([] : List UInt8)
    · rw [if_pos c4] at H
      have c4b0 : (t214.toList == ([] : List UInt8)) = true := beq_iff_eq.mpr c4
      have c4b1 : (t214.toList != ([] : List UInt8)) = false := bne_eq_false_iff_eq.mpr c4
      clear c4
      simp only [Option.some.injEq, Prod.mk.injEq] at H
      obtain ⟨rfl, rfl⟩ := H
      go_enter Try.func17, Try.ntmps17
      go_wp2_with (first | ((with_reducible refine gate_callee (f := 45) rfl ?_); refine goesL_ (some 8) rfl rfl Try.func45 (by kernel_rfl) rfl #[.string a0, .string (⟨#[66, 78, 83, 73]⟩ : ByteArray)] rfl (by (try simp only [List.map_toArray, List.map_cons, List.map_nil]); first | done | rfl | (simp only [List.length_drop, List.length_take]; rfl)) ?_; (with_reducible refine (strings_CutPrefix.calls a0 (⟨#[66, 78, 83, 73]⟩ : ByteArray) t214 true _ A2.out).mono ?_); rintro e w' ⟨rfl, ⟨nd, rfl⟩⟩; refine ⟨_, rfl, ?_⟩))
      go_ret2
      exact ⟨by first | rfl | (simp; done) | (simp [*]; done), by repeat (first | exact Drawn0.refl _ | apply Drawn0.step)⟩
    · rw [if_neg c4] at H
      have c4b0 : (t214.toList == ([] : List UInt8)) = false := beq_eq_false_iff_ne.mpr c4
      have c4b1 : (t214.toList != ([] : List UInt8)) = true := bne_iff_ne.mpr c4
      by_cases c5 : 0 < (t214.size : Int)
      · rw [if_pos c5] at H
        have c5b0 : decide (0 < (t214.size : Int)) = true := decide_eq_true c5
        have c5b1 : decide (0 < t214.size) = true := decide_eq_true (by omega)
        clear c5
        simp only [Option.some.injEq, Prod.mk.injEq] at H
        obtain ⟨rfl, rfl⟩ := H
        go_enter Try.func17, Try.ntmps17
        go_wp2_with (first | ((with_reducible refine gate_callee (f := 45) rfl ?_); refine goesL_ (some 8) rfl rfl Try.func45 (by kernel_rfl) rfl #[.string a0, .string (⟨#[66, 78, 83, 73]⟩ : ByteArray)] rfl (by (try simp only [List.map_toArray, List.map_cons, List.map_nil]); first | done | rfl | (simp only [List.length_drop, List.length_take]; rfl)) ?_; (with_reducible refine (strings_CutPrefix.calls a0 (⟨#[66, 78, 83, 73]⟩ : ByteArray) t214 true _ A2.out).mono ?_); rintro e w' ⟨rfl, ⟨nd, rfl⟩⟩; refine ⟨_, rfl, ?_⟩; have p6 : 0 ≤ (0 : Int) := (by omega); have q6 : 0 < t214.size := (by have : (0 : Int) < (t214.size : Int) := of_decide_eq_true (by first | (with_reducible assumption) | assumption); omega); have hx6 : ∀ h : 0 < t214.size, ((t214[0]'h).toNat : Int) = bt t214 0 := bt_at t214 0; clear p6; have qi6 : (0 < (t214.size : Int)) = True := eq_true (of_decide_eq_true (by first | (with_reducible assumption) | assumption)); replace q6 := eq_true q6))
        go_ret2
        exact ⟨by first | rfl | (simp; done) | (simp [*]; done), by repeat (first | exact Drawn0.refl _ | apply Drawn0.step)⟩
      · rw [if_neg c5] at H
        exact absurd H (by simp)
  · replace c3 := Bool.eq_false_iff.mpr c3
    subst c3
    have H1 : (some (0, 7)) = some (r1, r2) := by rw [if_neg (show ¬ (false = true) by decide)] at H; exact H
    clear H
    have H := H1
    clear H1
    simp only [Option.some.injEq, Prod.mk.injEq] at H
    obtain ⟨rfl, rfl⟩ := H
    go_enter Try.func17, Try.ntmps17
    go_wp2_with (first | ((with_reducible refine gate_callee (f := 45) rfl ?_); refine goesL_ (some 8) rfl rfl Try.func45 (by kernel_rfl) rfl #[.string a0, .string (⟨#[66, 78, 83, 73]⟩ : ByteArray)] rfl (by (try simp only [List.map_toArray, List.map_cons, List.map_nil]); first | done | rfl | (simp only [List.length_drop, List.length_take]; rfl)) ?_; (with_reducible refine (strings_CutPrefix.calls a0 (⟨#[66, 78, 83, 73]⟩ : ByteArray) t214 false _ A2.out).mono ?_); rintro e w' ⟨rfl, ⟨nd, rfl⟩⟩; refine ⟨_, rfl, ?_⟩))
    go_ret2
    exact ⟨by first | rfl | (simp; done) | (simp [*]; done), by repeat (first | exact Drawn0.refl _ | apply Drawn0.step)⟩
end Go.Proofs.Ytfcndhajcikgiaa.B
namespace Go.Proofs.Ytfcndhajcikgiaa.B
open Go.RowKit Go.Proofs.Sp Go.Proofs.Fl Go.Proofs.YtfcndhajcikgiaaW.PrintWords Go.Proofs.YtfcndhajcikgiaaW.PrintLast Go.Proofs.YtfcndhajcikgiaaW.PrintMore
/-- So many moves off a reader, behind those that came. -/
def movesR (S : ByteArray) : Nat → List MoveS → ByteArray × Int → Except Int (List MoveS × (ByteArray × Int))
  | 0, acc, q => .ok (acc, q)
  | k + 1, acc, q =>
    match (moveR S q).1 with
    | none => .error (moveR S q).2.1
    | some x =>
      match acc.getLast? with
      | none => movesR S k (acc ++ [x]) (moveR S q).2.2
      | some y => if beforeB y.c y.r x.c x.r then movesR S k (acc ++ [x]) (moveR S q).2.2 else .error 12
/-- The moves of a file whose version was told. -/
def decodeR (S : ByteArray) (v ve : Int) : Except Int (List MoveS) :=
  if ve ≠ 0 then .error ve else if v ≠ 1 then .error 8 else
  let n := numR (S.extract 5 S.size, 0)
  if n.2.2 ≠ 0 then .error n.2.2 else if 2000 < n.1 then .error 10 else
  match movesR S n.1.toNat [] n.2 with
  | .error e => .error e
  | .ok (ms, q) => if doneR q.1 q.2 ≠ 0 then .error (doneR q.1 q.2) else .ok ms
/-- A move as it lies in memory: its rank by its bits, or some word that is no number. -/
def LikeM (m : MoveS) (x : S30) : Prop := x.f0.f0 = m.c ∧ x.f0.f1 = m.r ∧ x.f1 = m.p ∧ x.f2 = m.ch ∧ x.f3 = m.name ∧ FloatOf m.rank x.f4
def LikeL : List MoveS → List S30 → Prop
  | [], [] => True
  | a :: r, x :: t => LikeM a x ∧ LikeL r t
  | _, _ => False
theorem LikeL.snoc : ∀ {ms : List MoveS} {xs : List S30} {m : MoveS} {x : S30}, LikeL ms xs → LikeM m x → LikeL (ms ++ [m]) (xs ++ [x])
  | [], [], _, _, _, h => ⟨h, trivial⟩
  | _ :: _, _ :: _, _, _, h, h2 => ⟨h.1, LikeL.snoc h.2 h2⟩
  | [], _ :: _, _, _, h, _ => h.elim
  | _ :: _, [], _, _, h, _ => h.elim
theorem LikeL.length : ∀ {ms : List MoveS} {xs : List S30}, LikeL ms xs → ms.length = xs.length
  | [], [], _ => rfl
  | _ :: _, _ :: _, h => congrArg (· + 1) (LikeL.length h.2)
  | [], _ :: _, h => h.elim
  | _ :: _, [], h => h.elim
/-- What Decode answers. -/
def DecodeOf (w : World) (d : Except Int (List MoveS)) (e : Ending) (w' : World) : Prop :=
  (match d with
    | .error er => e = .returned (.tuple #[.slice none 0 0, .int .i64 er])
    | .ok ms => ∃ v xs, e = .returned (.tuple #[v, .int .i64 0]) ∧ Kd.R k30 30 w' w.heap.size (fun _ => True) v xs ∧ LikeL ms xs) ∧ Below w.heap.size w w'
theorem moveR_cases (S : ByteArray) (q : ByteArray × Int) : (∃ x q2, moveR S q = (some x, 0, q2)) ∨ (∃ e q2, e ≠ 0 ∧ moveR S q = (none, e, q2)) := by
  unfold moveR
  dsimp only
  by_cases c1 : (fourAt q 4).q.2 ≠ 0
  · rw [if_pos c1]; exact .inr ⟨_, _, c1, rfl⟩
  · rw [if_neg c1]
    generalize wrap64 ((S.size : Int) - (fourAt q 4).q.1.size) = a
    by_cases c2 : (takeS S a).2.2 ≠ 0
    · rw [if_pos c2]; exact .inr ⟨_, _, c2, rfl⟩
    · rw [if_neg c2]
      generalize fixR (takeR (fourAt q 4).q (wrap64 ((takeS S a).2.1 - a))).2 = x
      by_cases c3 : x.2.2 ≠ 0
      · rw [if_pos c3]; exact .inr ⟨_, _, c3, rfl⟩
      · rw [if_neg c3]
        split
        · exact .inl ⟨_, _, rfl⟩
        · exact .inr ⟨5, _, by decide, rfl⟩
end Go.Proofs.Ytfcndhajcikgiaa.B
namespace Go.Proofs.Ytfcndhajcikgiaa.B
open Go.RowKit Go.Proofs.Sp Go.Proofs.Fl Go.Proofs.YtfcndhajcikgiaaW.PrintWords Go.Proofs.YtfcndhajcikgiaaW.PrintLast Go.Proofs.YtfcndhajcikgiaaW.PrintMore
theorem len_size (s : ByteArray) : s.data.toList.length = s.size := by simp
/-- A move's bytes. -/
def encM (m : MoveS) : List UInt8 := putL m.c.toNat ++ (putL m.r.toNat ++ (putL m.p.toNat ++ (putL m.ch.toNat ++ (putL m.name.size ++ (m.name.data.toList ++ fixL m.rank)))))
/-- A move that may be, its rank one of the words that stand for themselves. -/
def OkM (m : MoveS) : Prop := oneB m.c m.r m.p m.ch m.name = true ∧ canonB m.rank = true ∧ m.rank < 2 ^ 64
theorem OkM.nums {m : MoveS} (h : OkM m) : 1 ≤ m.c ∧ m.c ≤ 4611686018427387903 ∧ 1 ≤ m.r ∧ m.r ≤ 255 ∧ 1 ≤ m.ch ∧ m.ch ≤ 2147483647 ∧ 0 ≤ m.p ∧ m.p ≤ 2147483647 ∧ m.name.size ≤ 64 ∧ validS m.name.data.toList = true := by
  have := h.1
  unfold oneB at this
  simp only [Bool.and_eq_true, decide_eq_true_eq] at this
  obtain ⟨⟨⟨⟨⟨⟨⟨⟨⟨a, b⟩, c⟩, d⟩, e⟩, f⟩, g⟩, h⟩, i⟩, j⟩ := this
  exact ⟨a, b, c, d, e, f, g, h, i, j⟩
theorem numR_fwd {s : ByteArray} {v : Nat} {r : List UInt8} (hv : v < 2 ^ 64) (h : s.data.toList = putL v ++ r) : ∃ s', numR (s, 0) = ((v : Int), s', 0) ∧ s'.data.toList = r := by
  unfold numR
  rw [if_pos rfl]
  dsimp only
  rw [h, numS_put hv]
  refine ⟨s.extract (putL v).length s.size, rfl, ?_⟩
  rw [extract_list, h, List.drop_left, List.take_of_length_le]
  rw [← len_size, h]; simp
theorem numR_bwd {s s' : ByteArray} {e v : Int} (h : numR (s, e) = (v, s', 0)) : e = 0 ∧ ∃ n : Nat, v = n ∧ n < 2 ^ 64 ∧ s.data.toList = putL n ++ s'.data.toList := by
  unfold numR at h
  by_cases he : e = 0
  · rw [if_pos he] at h
    dsimp only at h
    cases hn : numS s.data.toList with
    | error f =>
      rw [hn] at h
      simp only [Prod.mk.injEq] at h
      exact absurd h.2.2 (numL_err _ _ _ _ hn)
    | ok q =>
      obtain ⟨w, n⟩ := q
      rw [hn] at h
      simp only [Prod.mk.injEq] at h
      obtain ⟨h1, h2, -⟩ := h
      obtain ⟨p1, p2, p3⟩ := put_numS hn
      refine ⟨he, w, h1.symm, p1, ?_⟩
      rw [← h2, extract_list, List.take_of_length_le (by rw [List.length_drop, len_size]; omega)]
      exact p3
  · rw [if_neg he] at h
    simp only [Prod.mk.injEq] at h
    exact absurd h.2.2 he
theorem upto_back (l : List UInt8) : ∀ k, k ≤ l.length → backV (upto (backF (fun j => l.getD j 0) l.length) k) = leV (l.drop (l.length - k))
  | 0, _ => by rw [Nat.sub_zero, List.drop_length]; rfl
  | k + 1, hk => by
    rw [upto_succ, backV_snoc, upto_back l k (by omega)]
    have hi : l.length - (k + 1) < l.length := by omega
    rw [List.drop_eq_getElem_cons hi, leV, show l.length - (k + 1) + 1 = l.length - k by omega]
    show _ + (l.getD (l.length - 1 - k) 0).toNat = _
    rw [List.getD_eq_getElem?_getD, show l.length - 1 - k = l.length - (k + 1) by omega, List.getElem?_eq_getElem hi]
    simp only [Option.getD_some]
    omega
theorem fixR_fwd {s : ByteArray} {b : Nat} {r : List UInt8} (hb : b < 2 ^ 64) (h : s.data.toList = fixL b ++ r) : ∃ s', fixR (s, 0) = (b, s', 0) ∧ s'.data.toList = r := by
  have hl : (fixL b).length = 8 := fixF_length 8 b
  have hz : s.size = 8 + r.length := by rw [← len_size, h, List.length_append, hl]
  have ht : takeR (s, 0) 8 = (s.extract 0 8, s.extract 8 s.size, 0) := by
    unfold takeR
    rw [if_pos rfl, if_pos ⟨by decide, show (8 : Int) ≤ ((s.size : Nat) : Int) by omega⟩]; rfl
  have hx : (s.extract 0 8).data.toList = fixL b := by rw [extract_list, h, List.drop_zero, Nat.sub_zero, List.take_left' hl]
  have hxl : (s.extract 0 8).size = 8 := by rw [← len_size, hx, hl]
  refine ⟨s.extract 8 s.size, ?_, ?_⟩
  · unfold fixR
    rw [ht]
    dsimp only
    have := upto_back (s.extract 0 8).data.toList 8 (by rw [hx, hl]; omega)
    rw [len_size, hxl] at this
    rw [hxl, this, Nat.sub_self, List.drop_zero, hx, fixL, leV_fix, Nat.mod_eq_of_lt (by omega)]
  · rw [extract_list, h, List.drop_left' hl, List.take_of_length_le (by omega)]
theorem fixR_bwd {s s' : ByteArray} {b : Nat} (h : fixR (s, 0) = (b, s', 0)) : b < 2 ^ 64 ∧ s.data.toList = fixL b ++ s'.data.toList := by
  have hlt := fixR_lt (s, 0)
  rw [h] at hlt
  refine ⟨hlt, ?_⟩
  unfold fixR at h
  by_cases h8 : 8 ≤ s.size
  · have ht : takeR (s, 0) 8 = (s.extract 0 8, s.extract 8 s.size, 0) := by
      unfold takeR
      rw [if_pos rfl, if_pos ⟨by decide, show (8 : Int) ≤ ((s.size : Nat) : Int) by omega⟩]; rfl
    rw [ht] at h
    simp only [Prod.mk.injEq] at h
    obtain ⟨h1, h2, -⟩ := h
    have hx : (s.extract 0 8).data.toList = s.data.toList.take 8 := by rw [extract_list, List.drop_zero, Nat.sub_zero]
    have hxl : (s.extract 0 8).size = 8 := by rw [ByteArray.size_extract]; omega
    have hl8 : (s.data.toList.take 8).length = 8 := by rw [List.length_take, len_size]; omega
    have hb := upto_back (s.extract 0 8).data.toList 8 (by rw [len_size, hxl]; omega)
    rw [len_size, hxl] at hb
    rw [hxl, hb, Nat.sub_self, List.drop_zero, hx] at h1
    have := fix_leV (s.data.toList.take 8)
    rw [hl8, h1] at this
    rw [← h2, extract_list, List.take_of_length_le (by rw [List.length_drop, len_size]; omega), show fixL b = s.data.toList.take 8 from this, List.take_append_drop]
  · have ht : (takeR (s, 0) 8).2 = (s, 2) := by
      unfold takeR
      rw [if_pos rfl, if_neg (fun hc => h8 (by have hc2 : (8 : Int) ≤ ((s.size : Nat) : Int) := hc.2; omega))]
    rw [ht] at h
    simp only [Prod.mk.injEq] at h
    exact absurd h.2.2 (by decide)
theorem takeS_fwd {S s : ByteArray} {name : ByteArray} {r : List UInt8} (hS : S.size ≤ 140737488355328) (hs : Suf S s) (hn : name.size ≤ 64) (hv : validS name.data.toList = true) (h : s.data.toList = putL name.size ++ (name.data.toList ++ r)) :
    takeS S ((S.size : Int) - s.size) = (name, (S.size : Int) - r.length, 0) := by
  have hsz := hs.1
  have e0 : S.extract ((S.size : Int) - s.size).toNat S.size = s := by rw [show ((S.size : Int) - s.size).toNat = S.size - s.size by omega]; exact hs.2
  obtain ⟨s1, h1, h2⟩ := numR_fwd (v := name.size) (by omega) h
  have hz1 : s1.size = name.size + r.length := by rw [← len_size, h2, List.length_append, len_size]
  have hzs : s1.size ≤ s.size := by have := numR_size (s, 0); rw [h1] at this; exact this
  unfold takeS
  rw [e0, h1, if_neg (by omega), if_neg (fun hc => hc rfl), if_neg (by show ¬ (64 : Int) < (name.size : Int); omega), if_neg (by show ¬ ((s1.size : Nat) : Int) < (name.size : Int); omega)]
  dsimp only
  have hx : s1.extract 0 (name.size : Int).toNat = name := by
    apply ba_ext
    rw [extract_list, h2, List.drop_zero, Int.toNat_natCast, Nat.sub_zero, List.take_left' (len_size _)]
  have hy : (s1.extract (name.size : Int).toNat s1.size).size = r.length := by rw [ByteArray.size_extract, Int.toNat_natCast]; omega
  rw [hx, if_pos hv, hy, w64 (by omega) (by omega)]
theorem takeS_bwd {S s s5 name : ByteArray} {tt : Int} (hS : S.size ≤ 140737488355328) (hs : Suf S s) (h5 : Suf S s5) (ht : tt = (S.size : Int) - s5.size) (h : takeS S ((S.size : Int) - s.size) = (name, tt, 0)) :
    name.size ≤ 64 ∧ validS name.data.toList = true ∧ s.data.toList = putL name.size ++ (name.data.toList ++ s5.data.toList) := by
  have hsz := hs.1
  have hsz5 := h5.1
  have e0 : S.extract ((S.size : Int) - s.size).toNat S.size = s := by rw [show ((S.size : Int) - s.size).toNat = S.size - s.size by omega]; exact hs.2
  unfold takeS at h
  rw [e0, if_neg (by omega)] at h
  obtain ⟨n, s1, e1, hq⟩ : ∃ n s1 e1, numR (s, 0) = (n, s1, e1) := ⟨_, _, _, rfl⟩
  have hz1 := numR_size (s, 0)
  have hsuf := numR_suf (q := (s, 0)) hs
  rw [hq] at h hz1 hsuf
  dsimp only at h hz1 hsuf
  by_cases c1 : e1 = 0
  · subst c1
    obtain ⟨-, v, rfl, hv, hl⟩ := numR_bwd hq
    rw [if_neg (fun hc => hc rfl)] at h
    split at h
    · simp at h
    · rename_i c2
      split at h
      · simp at h
      · rename_i c3
        split at h
        · rename_i c4
          simp only [Prod.mk.injEq, Int.toNat_natCast] at h c4
          obtain ⟨h1, h2, -⟩ := h
          have hx : name.size = v := by rw [← h1, ByteArray.size_extract]; omega
          have hy : (s1.extract v s1.size).size = s1.size - v := by rw [ByteArray.size_extract]; omega
          rw [hy, w64 (by omega) (by omega)] at h2
          refine ⟨by omega, by rw [← h1]; exact c4, ?_⟩
          have e5 : s5.data.toList = s1.data.toList.drop v := by
            rw [h5.list, hsuf.list, List.drop_drop]; congr 1; omega
          rw [hl, hx, e5, ← h1, extract_list, List.drop_zero, Nat.sub_zero, List.take_append_drop]
        · simp at h
  · rw [if_pos c1] at h
    simp only [Prod.mk.injEq] at h
    exact absurd h.2.2 c1
theorem toNat_wrap {n : Int} (h0 : 0 ≤ n) (h1 : n ≤ 9223372036854775807) : wrap64 ((n.toNat : Nat) : Int) = n := by rw [w64 (by omega) (by omega)]; omega
theorem moveR_fwd {S s : ByteArray} {m : MoveS} {r : List UInt8} (hS : S.size ≤ 140737488355328) (hs : Suf S s) (hm : OkM m) (h : s.data.toList = encM m ++ r) :
    ∃ s', moveR S (s, 0) = (some m, 0, (s', 0)) ∧ s'.data.toList = r ∧ Suf S s' := by
  obtain ⟨b1, b2, b3, b4, b5, b6, b7, b8, b9, b10⟩ := hm.nums
  have hE : s.data.toList = putL m.c.toNat ++ (putL m.r.toNat ++ (putL m.p.toNat ++ (putL m.ch.toNat ++ (putL m.name.size ++ (m.name.data.toList ++ (fixL m.rank ++ r)))))) := by rw [h, encM]; simp only [List.append_assoc]
  obtain ⟨s1, h1, l1⟩ := numR_fwd (by omega) hE
  obtain ⟨s2, h2, l2⟩ := numR_fwd (by omega) l1
  obtain ⟨s3, h3, l3⟩ := numR_fwd (by omega) l2
  obtain ⟨s4, h4, l4⟩ := numR_fwd (by omega) l3
  have f1 := numR_suf (q := (s, 0)) hs
  rw [h1] at f1
  have f2 := numR_suf (q := (s1, 0)) f1
  rw [h2] at f2
  have f3 := numR_suf (q := (s2, 0)) f2
  rw [h3] at f3
  have f4 := numR_suf (q := (s3, 0)) f3
  rw [h4] at f4
  dsimp only at f1 f2 f3 f4
  have ht := takeS_fwd hS f4 b9 b10 l4
  obtain ⟨s5, f5, e5, q5⟩ := text_at hS f4 ht
  have l5 : s5.data.toList = fixL m.rank ++ r := by
    have hz4 := f4.1
    have hz5 := f5.1
    have hl : (fixL m.rank ++ r).length = s5.size := by omega
    have hlen := len_size s4
    rw [l4] at hlen
    simp only [List.length_append] at hlen hl
    rw [f5.list, show S.size - s5.size = (S.size - s4.size) + (s4.size - s5.size) by omega, ← List.drop_drop, ← f4.list, l4, ← List.append_assoc, List.drop_left' (by simp only [List.length_append]; omega)]
  obtain ⟨s6, h6, l6⟩ := fixR_fwd hm.2.2 l5
  have f6 := fixR_suf (q := (s5, 0)) f5
  rw [h6] at f6
  have hz4 := f4.1
  refine ⟨s6, ?_, l6, f6⟩
  rw [moveR_at h1 h2 h3 h4]
  unfold moveT
  rw [if_neg (fun hc => hc rfl)]
  dsimp only
  rw [w64 (n := (S.size : Int) - s4.size) (by omega) (by omega), ht]
  dsimp only
  rw [if_neg (fun hc => hc rfl), q5, h6]
  dsimp only
  rw [if_neg (fun hc => hc rfl), toNat_wrap (by omega) (by omega), toNat_wrap (by omega) (by omega), toNat_wrap (by omega) (by omega), toNat_wrap (by omega) (by omega),
    decide_eq_true (show ((m.c.toNat : Nat) : Int) ≤ 9223372036854775807 by omega), decide_eq_true (show ((m.r.toNat : Nat) : Int) ≤ 9223372036854775807 by omega), decide_eq_true (show ((m.p.toNat : Nat) : Int) ≤ 9223372036854775807 by omega), decide_eq_true (show ((m.ch.toNat : Nat) : Int) ≤ 9223372036854775807 by omega), hm.2.1, hm.1]
  rfl
theorem moveR_bwd {S s s' : ByteArray} {m : MoveS} {er e' : Int} (hS : S.size ≤ 140737488355328) (hs : Suf S s) (h : moveR S (s, 0) = (some m, er, (s', e'))) :
    e' = 0 ∧ OkM m ∧ s.data.toList = encM m ++ s'.data.toList ∧ Suf S s' := by
  obtain ⟨v0, s1, e1, h0, f1, p0⟩ := num_pl S s 0 hs
  obtain ⟨v1, s2, e2, h1, f2, p1⟩ := num_pl S s1 e1 f1
  obtain ⟨v2, s3, e3, h2, f3, p2⟩ := num_pl S s2 e2 f2
  obtain ⟨v3, s4, e4, h3, f4, p3⟩ := num_pl S s3 e3 f3
  rw [moveR_at h0 h1 h2 h3] at h
  have hz4 := f4.1
  unfold moveT at h
  by_cases c4 : e4 = 0
  · subst c4
    obtain ⟨rfl, n3, rfl, k3, l3⟩ := numR_bwd h3
    obtain ⟨rfl, n2, rfl, k2, l2⟩ := numR_bwd h2
    obtain ⟨rfl, n1, rfl, k1, l1⟩ := numR_bwd h1
    obtain ⟨-, n0, rfl, k0, l0⟩ := numR_bwd h0
    rw [if_neg (fun hc => hc rfl)] at h
    dsimp only at h
    rw [w64 (n := (S.size : Int) - s4.size) (by omega) (by omega)] at h
    obtain ⟨name, tt, te, ht⟩ : ∃ name tt te, takeS S ((S.size : Int) - s4.size) = (name, tt, te) := ⟨_, _, _, rfl⟩
    rw [ht] at h
    dsimp only at h
    by_cases c5 : te = 0
    · subst c5
      obtain ⟨s5, f5, e5, q5⟩ := text_at hS f4 ht
      obtain ⟨t1, t2, t3⟩ := takeS_bwd hS f4 f5 e5 ht
      rw [if_neg (fun hc => hc rfl), q5] at h
      obtain ⟨u, s6, e6, hx⟩ : ∃ u s6 e6, fixR (s5, 0) = (u, s6, e6) := ⟨_, _, _, rfl⟩
      rw [hx] at h
      dsimp only at h
      by_cases c6 : e6 = 0
      · subst c6
        obtain ⟨x1, x2⟩ := fixR_bwd hx
        have f6 := fixR_suf (q := (s5, 0)) f5
        rw [hx] at f6
        rw [if_neg (fun hc => hc rfl)] at h
        split at h
        · rename_i c7
          simp only [Bool.true_and, Bool.and_eq_true, decide_eq_true_eq] at c7
          obtain ⟨⟨⟨⟨⟨d0, d1⟩, d2⟩, d3⟩, cb⟩, ob⟩ := c7
          rw [w64 (by omega) d0, w64 (by omega) d1, w64 (by omega) d2, w64 (by omega) d3] at h ob
          simp only [Prod.mk.injEq, Option.some.injEq] at h
          obtain ⟨rfl, -, rfl, rfl⟩ := h
          refine ⟨rfl, ⟨ob, cb, x1⟩, ?_, f6⟩
          rw [l0, l1, l2, l3, t3, x2]
          unfold encM
          simp only [Int.toNat_natCast, List.append_assoc]
        · simp at h
      · rw [if_pos c6] at h; simp at h
    · rw [if_pos c5] at h; simp at h
  · rw [if_pos c4] at h; simp at h
/-- Moves stand by their times. -/
def ordS : List MoveS → Bool
  | a :: b :: r => beforeB a.c a.r b.c b.r && ordS (b :: r)
  | _ => true
theorem ordS_snoc : ∀ (l : List MoveS) (x : MoveS), ordS (l ++ [x]) = (ordS l && (match l.getLast? with | none => true | some y => beforeB y.c y.r x.c x.r))
  | [], x => rfl
  | [a], x => by simp [ordS]
  | a :: b :: r, x => by
    have ih := ordS_snoc (b :: r) x
    rw [List.cons_append, List.cons_append, ordS, ← List.cons_append, ih, ordS, Bool.and_assoc, List.getLast?_cons_cons]
theorem ordS_head : ∀ (l m : List MoveS), ordS (l ++ m) = true → ordS l = true
  | [], m, _ => rfl
  | [a], m, _ => rfl
  | a :: b :: r, m, h => by
    rw [List.cons_append, List.cons_append, ordS, ← List.cons_append, Bool.and_eq_true] at h
    rw [ordS, h.1, ordS_head (b :: r) m h.2]; rfl
theorem movesR_fwd {S : ByteArray} (hS : S.size ≤ 140737488355328) : ∀ (ms acc : List MoveS) (s : ByteArray) (r : List UInt8), Suf S s → (∀ m ∈ ms, OkM m) → ordS (acc ++ ms) = true → s.data.toList = ms.flatMap encM ++ r →
    ∃ s', movesR S ms.length acc (s, 0) = .ok (acc ++ ms, (s', 0)) ∧ s'.data.toList = r
  | [], acc, s, r, hs, hok, ho, h => ⟨s, by rw [List.append_nil]; rfl, h⟩
  | m :: ms, acc, s, r, hs, hok, ho, h => by
    rw [List.flatMap_cons, List.append_assoc] at h
    obtain ⟨s1, h1, l1, f1⟩ := moveR_fwd hS hs (hok m (by simp)) h
    have ho2 : ordS ((acc ++ [m]) ++ ms) = true := by rw [List.append_assoc]; exact ho
    obtain ⟨s', h2, l2⟩ := movesR_fwd hS ms (acc ++ [m]) s1 r f1 (fun x hx => hok x (by simp [hx])) ho2 l1
    refine ⟨s', ?_, l2⟩
    rw [List.length_cons, movesR, h1]
    have ho3 := ordS_head _ _ ho2
    rw [ordS_snoc, Bool.and_eq_true] at ho3
    have h2' : movesR S ms.length (acc ++ [m]) (s1, 0) = .ok (acc ++ m :: ms, (s', 0)) := by rw [h2, List.append_assoc]; rfl
    dsimp only
    cases hl : acc.getLast? with
    | none => exact h2'
    | some y =>
      rw [hl] at ho3
      dsimp only
      rw [if_pos ho3.2]; exact h2'
theorem movesR_bwd {S : ByteArray} (hS : S.size ≤ 140737488355328) : ∀ (k : Nat) (acc : List MoveS) (s : ByteArray) (res : List MoveS) (s' : ByteArray) (e' : Int), Suf S s → ordS acc = true → movesR S k acc (s, 0) = .ok (res, (s', e')) →
    e' = 0 ∧ ordS res = true ∧ ∃ ms, res = acc ++ ms ∧ ms.length = k ∧ (∀ m ∈ ms, OkM m) ∧ s.data.toList = ms.flatMap encM ++ s'.data.toList
  | 0, acc, s, res, s', e', hs, ho, h => by
    simp only [movesR, Except.ok.injEq, Prod.mk.injEq] at h
    obtain ⟨rfl, rfl, rfl⟩ := h
    exact ⟨rfl, ho, [], by simp, rfl, by simp, by simp⟩
  | k + 1, acc, s, res, s', e', hs, ho, h => by
    rw [movesR] at h
    obtain ⟨x, er, s1, e1, hm⟩ : ∃ x er s1 e1, moveR S (s, 0) = (x, er, (s1, e1)) := ⟨_, _, _, _, rfl⟩
    rw [hm] at h
    cases x with
    | none => simp at h
    | some x =>
      obtain ⟨rfl, ok1, l1, f1⟩ := moveR_bwd hS hs hm
      dsimp only at h
      have key : ∀ hh : movesR S k (acc ++ [x]) (s1, 0) = .ok (res, (s', e')), ordS (acc ++ [x]) = true → e' = 0 ∧ ordS res = true ∧ ∃ ms, res = acc ++ ms ∧ ms.length = k + 1 ∧ (∀ m ∈ ms, OkM m) ∧ s.data.toList = ms.flatMap encM ++ s'.data.toList := by
        intro hh ho2
        obtain ⟨r1, r2, ms, r3, r4, r5, r6⟩ := movesR_bwd hS k (acc ++ [x]) s1 res s' e' f1 ho2 hh
        refine ⟨r1, r2, x :: ms, by rw [r3, List.append_assoc]; rfl, by rw [List.length_cons, r4], ?_, by rw [l1, r6, List.flatMap_cons, List.append_assoc]⟩
        intro m hmm
        rcases List.mem_cons.1 hmm with rfl | hmm
        · exact ok1
        · exact r5 m hmm
      cases hl : acc.getLast? with
      | none =>
        rw [hl] at h
        exact key h (by rw [ordS_snoc, ho, hl]; rfl)
      | some y =>
        rw [hl] at h
        dsimp only at h
        split at h
        · rename_i hb
          exact key h (by rw [ordS_snoc, ho, hl]; exact hb)
        · cases h
/-- Moves that may be. -/
def MayS (ms : List MoveS) : Prop := ordS ms = true ∧ ms.length ≤ 2000 ∧ ∀ m ∈ ms, OkM m
/-- A file's bytes behind its begin. -/
def bodyS (ms : List MoveS) : List UInt8 := putL ms.length ++ ms.flatMap encM
theorem decodeR_fwd {S : ByteArray} {ms : List MoveS} {r : List UInt8} (hS : S.size ≤ 140737488355328) (h5 : 5 ≤ S.size) (hm : MayS ms) (h : S.data.toList.drop 5 = bodyS ms ++ r) :
    decodeR S 1 0 = if r = [] then .ok ms else .error 5 := by
  have hx : (S.extract 5 S.size).data.toList = putL ms.length ++ (ms.flatMap encM ++ r) := by
    rw [extract_list, List.take_of_length_le (by rw [List.length_drop, len_size]; omega), h, bodyS, List.append_assoc]
  have hsuf := Suf.from S 5 h5
  have hlen := hm.2.1
  obtain ⟨s1, h1, l1⟩ := numR_fwd (v := ms.length) (by omega) hx
  have f1 := numR_suf (q := (S.extract 5 S.size, 0)) hsuf
  rw [h1] at f1
  obtain ⟨s2, h2, l2⟩ := movesR_fwd hS ms [] s1 r f1 hm.2.2 hm.1 l1
  unfold decodeR
  rw [if_neg (fun hc => hc rfl), if_neg (fun hc => hc rfl), h1]
  dsimp only
  rw [if_neg (fun hc => hc rfl), if_neg (by omega), Int.toNat_natCast, h2]
  dsimp only
  unfold doneR
  have hz : s2.size = r.length := by rw [← len_size, l2]
  rw [if_pos rfl, hz, List.nil_append]
  by_cases hr : r = []
  · subst hr; rfl
  · have : r.length ≠ 0 := fun hc => hr (List.length_eq_zero_iff.1 hc)
    rw [if_neg this, if_neg hr]; rfl
theorem decodeR_bwd {S : ByteArray} {ms : List MoveS} (hS : S.size ≤ 140737488355328) (h5 : 5 ≤ S.size) (h : decodeR S 1 0 = .ok ms) : MayS ms ∧ S.data.toList.drop 5 = bodyS ms := by
  have hsuf := Suf.from S 5 h5
  unfold decodeR at h
  rw [if_neg (fun hc => hc rfl), if_neg (fun hc => hc rfl)] at h
  obtain ⟨n, s1, e1, h0, f1, p1⟩ := num_pl S (S.extract 5 S.size) 0 hsuf
  rw [h0] at h
  dsimp only at h
  by_cases c1 : e1 = 0
  · subst c1
    obtain ⟨-, v, rfl, hv, l1⟩ := numR_bwd h0
    rw [if_neg (fun hc => hc rfl)] at h
    split at h
    · cases h
    · rename_i c2
      rw [Int.toNat_natCast] at h
      split at h
      · cases h
      · rename_i ms' q hq
        obtain ⟨s2, e2⟩ := q
        obtain ⟨r1, r2, ms2, r3, r4, r5, r6⟩ := movesR_bwd hS v [] s1 ms' s2 e2 f1 rfl hq
        subst r1
        rw [List.nil_append] at r3
        subst r3
        split at h
        · cases h
        · rename_i hd
          injection h with h
          subst h
          unfold doneR at hd
          rw [if_pos rfl] at hd
          have hz : s2.size = 0 := by
            by_cases hc : s2.size = 0
            · exact hc
            · rw [if_neg hc] at hd; exact absurd (by decide : (5 : Int) ≠ 0) hd
          have hn : s2.data.toList = [] := List.length_eq_zero_iff.1 (by rw [len_size]; exact hz)
          refine ⟨⟨r2, by omega, r5⟩, ?_⟩
          rw [extract_list, List.take_of_length_le (by rw [List.length_drop, len_size]; omega)] at l1
          rw [l1, r6, hn, List.append_nil, bodyS, r4]
  · rw [if_pos c1] at h; cases h
end Go.Proofs.Ytfcndhajcikgiaa.B
namespace Go.Proofs.Ytfcndhajcikgiaa.B
open Go.RowKit
theorem bld_size : (Try.prog.info? 45).map (·.size) = some 2 := by kernel_rfl
theorem bld_lies : liesAt Try.prog Try.prog.depth 45 (2 / Try.prog.cellsOf 45) 0 45 1 = true := by kernel_rfl
theorem byte_info : (Try.prog.info? 5).map (fun i => (i.zero, i.size, i.bytes)) = some (some (.int .u8 0), 1, 1) := by kernel_rfl
set_option maxRecDepth 100000 in
theorem copyCheck_used (b : Nat) (w : World) (h0 : w.cell? ⟨b, 0, none⟩ = some (.pointer (some ⟨b, 0, none⟩))) :
    Calls Try.prog 46 #[.pointer (some ⟨b, 0, none⟩)] w fun e w' => e = .returned (.tuple #[]) ∧ w' = w := by
  obtain ⟨j, hj, _⟩ := Option.map_eq_some_iff.1 bld_size
  go_enter Try.func46, Try.ntmps46
  go_wp2
  rw [Lib.run_neq_ptr_same w _ Try.underlying43 hj]
  go_wp2
  go_end0
  exact ⟨rfl, rfl⟩
set_option maxRecDepth 100000 in
theorem copyCheck_fresh (b : Nat) (w : World) (h0 : w.cell? ⟨b, 0, none⟩ = some (.pointer none)) (hsh : w.shape? b = some (45, 2)) (hfz : w.frozen? ⟨b, 0, none⟩ = false) :
    Calls Try.prog 46 #[.pointer (some ⟨b, 0, none⟩)] w fun e w' => e = .returned (.tuple #[]) ∧ w' = w.setCell ⟨b, 0, none⟩ (.pointer (some ⟨b, 0, none⟩)) := by
  obtain ⟨j, hj, hjs⟩ := Option.map_eq_some_iff.1 bld_size
  go_enter Try.func46, Try.ntmps46
  go_wp2
  rw [Lib.run_to_unsafe w ⟨b, 0, none⟩ Try.underlying43 Try.underlying99 hj (by rw [hjs]; decide) hsh (Nat.zero_lt_succ 1)]
  simp only [Result.andThen]
  rw [Oper.upon_value]
  go_wp2
  rw [run_callFunc_extern Try.func77 (by kernel_rfl) (by kernel_rfl) (by kernel_rfl) (e := Extern.AbiNoEscape.same) (by kernel_rfl)]
  rw [Lib.run_noEscape]
  simp only [Result.andThen]
  rw [Oper.upon_value]
  go_wp2
  rw [Lib.run_from_unsafe w ⟨b, 0, none⟩ Try.underlying99 Try.underlying43 hj hsh bld_lies]
  simp only [Result.andThen]
  rw [Oper.upon_value]
  go_wp2
  go_end0
  exact ⟨rfl, rfl⟩
theorem copyCheck_k (B b : Nat) (bs : List Value) (w : World) (h : Lib.IsBuilderF 45 5 B b bs w) :
    Calls Try.prog 46 #[.pointer (some ⟨b, 0, none⟩)] w fun e w' => e = .returned (.tuple #[]) ∧ (Lib.BuilderAtF 45 5 B b (.pointer (some ⟨b, 0, none⟩)) bs w' ∧ Below B w w' ∧ Lib.OthersKept 5 (some b) w w') := by
  rcases h with h | h
  · refine (copyCheck_fresh b w h.cell0 h.shape h.frozen0).mono ?_
    rintro e w' ⟨rfl, rfl⟩
    exact ⟨rfl, h.used _, (Below.refl B w).setCell (p := ⟨b, 0, none⟩) h.1 _, (Lib.OthersKept.refl _ _ w).setCell ⟨b, 0, none⟩ rfl _⟩
  · refine (copyCheck_used b w h.cell0).mono ?_
    rintro e w' ⟨rfl, rfl⟩
    exact ⟨rfl, h, Below.refl B _, Lib.OthersKept.refl _ _ _⟩
set_option maxHeartbeats 400000 in
theorem WriteString_k (B b : Nat) (bs : List Value) (s : ByteArray) (w : World) (h : Lib.IsBuilderF 45 5 B b bs w) (hlen : bs.length + s.size ≤ 140737488355328) (hBw : B ≤ w.heap.size) :
    Calls Try.prog 18 #[.pointer (some ⟨b, 0, none⟩), .string s] w fun e w' => e = .returned (.tuple #[.int .i64 s.size, .nilIface]) ∧ (Lib.IsBuilderF 45 5 B b (bs ++ Lib.strCells s) w' ∧ Below B w w' ∧ Lib.OthersKept 5 (some b) w w') := by
  obtain ⟨i0, hi, hz0, hz1, hz2⟩ := info_parts byte_info
  have hM := fun w' => copyCheck_k B b bs w'
  go_enter Try.func18, Try.ntmps18
  go_wp2_with (go_at_call 46; refine (copyCheck_k B b bs _ h).mono ?_)
  rintro e w1 ⟨rfl, h1, hb1, hk1⟩
  obtain ⟨hB, v, hbk, hown, hne⟩ := h1
  have c0 : w1.cell? ⟨b, 0, none⟩ = some (.pointer (some ⟨b, 0, none⟩)) := by rw [Lib.cell_of_heap hbk]; rfl
  have c1 : w1.cell? ⟨b, 1, none⟩ = some v := by rw [Lib.cell_of_heap hbk]; rfl
  go_wp2_with (at_builtin; refine Lib.wpList_append_own_stringF _ rfl _ _ 42 9 rfl B 5 i0 Try.underlying42 Try.underlying9 hi hz0 hz1 hz2 _ _ _ rfl hown s rfl ?c3 ?c4 ?c5 ?_)
  case c3 => unfold maxLen; omega
  case c4 => omega
  case c5 => have := hb1.size; omega
  intro v' w2 hown' hgrow _
  have hlt : b < w1.heap.size := by
    rcases Nat.lt_or_ge b w1.heap.size with h' | h'
    · exact h'
    · simp [Array.getElem?_eq_none h'] at hbk
  have hb2 : w2.heap[b]? = some (.cells #[.pointer (some ⟨b, 0, none⟩), v] 45 (0, 0)) := by
    rw [hgrow.block b hlt (fun e => hne e.symm)]
    exact hbk
  have d0 : w2.cell? ⟨b, 0, none⟩ = some (.pointer (some ⟨b, 0, none⟩)) := by rw [Lib.cell_of_heap hb2]; rfl
  have d1 : w2.cell? ⟨b, 1, none⟩ = some v := by rw [Lib.cell_of_heap hb2]; rfl
  have f1 : w2.frozen? ⟨b, 1, none⟩ = false := Lib.frozen_of_heap hb2 1
  obtain ⟨ao, n', cap, rfl⟩ : ∃ ao n' cap, v' = .slice ao n' cap := by
    rcases hown'.2 with ⟨hv, _⟩ | ⟨g, cap, cur, fz, hv, _⟩
    · exact ⟨_, _, _, hv⟩
    · exact ⟨_, _, _, hv⟩
  clear hM
  go_wp2
  go_ret2
  refine ⟨rfl, .inr ?_, ?_, (hk1.grown hgrow (Lib.ownsRowF_kind hown)).setCell ⟨b, 1, none⟩ rfl _⟩
  · exact Lib.BuilderAtF.put (T := 45) (e := 5) hB hb2 (bs' := bs ++ Lib.strCells s) (by simpa [Lib.strCells_length] using hown') (by decide)
  · exact (hb1.grown hgrow (by have := hb1.size; omega) (fun k hk => (hown.lt k hk).1)).setCell (p := ⟨b, 1, none⟩) hB _
end Go.Proofs.Ytfcndhajcikgiaa.B
namespace Go.Proofs.Ytfcndhajcikgiaa.B
open Go.RowKit Go.Proofs.YtfcndhajcikgiaaW.PrintWords Go.Proofs.YtfcndhajcikgiaaW.PrintLast Go.Proofs.YtfcndhajcikgiaaW.PrintMore
def pack_Put.l0 : Nat → Int → List Int → Option (ByteArray)
  | 0, _, _ => none
  | k + 1, x0, x3 => if x0 ≥ 128 then (if x3.length < 140737488355328 then (pack_Put.l0 k (x0 / 128) (x3 ++ [Go.bits .or .u8 ((x0) % 256) 128])) else (none)) else (if x3.length < 140737488355328 then (some (strOfNums (x3 ++ [(x0) % 256]))) else (none))
def pack_Put.f (k : Nat) (a0 : Int) : Option (ByteArray) := pack_Put.l0 k a0 ([] : List Int)
theorem pack_Put.mono_l : ∀ k, (∀ y0 y1, LeO (pack_Put.l0 k y0 y1) (pack_Put.l0 (k + 1) y0 y1))
  | 0 => fun _ _ r h => by simp [pack_Put.l0] at h
  | k + 1 => by
    have ih0 := pack_Put.mono_l k
    · intro y0 y1
      unfold pack_Put.l0
      repeat' first
      | (with_reducible exact ih0 _ _)
      | (with_reducible exact LeO.refl _)
      | (with_reducible exact LeO.none _)
      | (with_reducible refine LeO.ite ?_ ?_)
      | (with_reducible refine LeO.bind ?_ (fun _ => ?_))
      | exact ih0 _ _
      | exact LeO.none _
      | refine LeO.ite ?_ ?_
      | refine LeO.bind ?_ (fun _ => ?_)
theorem pack_Put.mono : ∀ a0 k, LeO (pack_Put.f k a0) (pack_Put.f (k + 1) a0) := by
  intro a0 k
  have ih0 := pack_Put.mono_l k
  unfold pack_Put.f
  repeat' first
      | (with_reducible exact ih0 _ _)
      | (with_reducible exact LeO.refl _)
      | (with_reducible exact LeO.none _)
      | (with_reducible refine LeO.ite ?_ ?_)
      | (with_reducible refine LeO.bind ?_ (fun _ => ?_))
      | exact ih0 _ _
      | exact LeO.none _
      | refine LeO.ite ?_ ?_
      | refine LeO.bind ?_ (fun _ => ?_)
set_option maxHeartbeats 8000000 in
set_option maxRecDepth 100000 in
theorem pack_Put.calls (k : Nat) (a0 : Int) (r : ByteArray) (w : World) (h : pack_Put.f k a0 = some r) :
    Calls Try.prog 19 #[.int .u64 a0] w fun e w' => e = .returned (.string r) ∧ Below w.heap.size w w' := by
  have HB := Aside0.mk (Below.refl w.heap.size w)
  have H : (pack_Put.l0 k a0 ([] : List Int)) = some r := h
  clear h
  have H' := Aside0.mk H
  clear H
  go_enter Try.func19, Try.ntmps19
  go_wp2
  go_loopg [0, 3] k (fun kq v0 v3 w' => ∃ (x0_1 : Int) (x3_1 : List Int), v0 = .int .u64 x0_1 ∧ Aside0 (pack_Put.l0 kq x0_1 x3_1 = some r) ∧ Aside0 (kq ≤ k) ∧ Aside0 (Kd.R (Kd.int .u8) 5 w' w.heap.size (fun _ => True) v3 x3_1) ∧ Aside0 (Below w.heap.size w w'))
  case atStart => exact ⟨(a0), (([] : List Int)), (by first | rfl | (simp; done) | (simp [*]; done)), H', ⟨Nat.le_refl _⟩, ⟨by first | exact Kd.R_nil _ _ _ _ _ | exact Kd.Q_nil _ _ _ _ _⟩, ⟨by repeat (first | (with_reducible first | exact HB.out | apply below_alloc | apply pw_below_drewN | apply below_drew1) | exact HB.out)⟩⟩
  case round =>
    clear H'
    try clear c1
    obtain ⟨x0_1, x3_1, rfl, HA, HK1, HO_3, HB⟩ := hrel
    cases gk with
    | zero => exact absurd HA.out (by simp [pack_Put.l0])
    | succ k1 =>
      have H := HA.out
      clear HA
      simp only [pack_Put.l0] at H
      by_cases c2 : x0_1 ≥ 128
      · rw [if_pos c2] at H
        have c2b0 : decide (128 ≤ x0_1) = true := decide_eq_true c2
        clear c2
        by_cases c3 : x3_1.length < 140737488355328
        · rw [if_pos c3] at H
          have LMc3 := Aside0.mk c3
          clear c3
          obtain ⟨y343, hy343⟩ : ∃ y_ : List Int, y_ = (x3_1 ++ [Go.bits .or .u8 ((x0_1) % 256) 128]) := ⟨_, rfl⟩
          replace H : (pack_Put.l0 k1 (x0_1 / 128) y343) = some r := by first | (rw [hy343]; with_reducible exact H) | (have H2_ := (Option.bind_some _ _).symm.trans H; rw [hy343]; with_reducible exact H2_) | (have H2_ := (Option.bind_some _ _).symm.trans H; with_reducible exact H2_) | with_reducible exact H | (rw [hy343]; exact H) | exact H
          have Ny343 := Aside0.mk hy343
          clear hy343
          have H' := Aside0.mk H
          clear H
          go_wp2_with (first | ((with_reducible refine gate_builtin (b := .append) (xs := #[.tmp 6, .tmp 10]) rfl ?_); at_builtin; refine Kd.R_append (Kd.int .u8) (w0 := w) w.heap.size rfl (.tmp 6) (.tmp 10) 42 5 (.int .u8 0) 1 rfl Try.underlying42 info5 rfl (by decide) (by omega) u3 x3_1 (Go.bits .or .u8 ((x0_1) % 256) 128) [.int .u8 (Go.bits .or .u8 ((x0_1) % 256) 128)] (fun _ => True) (fun _ => False) rfl rfl ?aP (fun _ hk => hk.elim) ?aF ?aO ?aB ?aS ?aL ?_; (case aP => exact rfl); (case aB => exact (by repeat (first | (with_reducible first | exact HB.out | apply below_alloc | apply pw_below_drewN | apply below_drew1) | exact HB.out))); (case aF => exact (fun _ _ => trivial)); (case aO => exact (by (with_reducible repeat (first | apply Kd.R_alloc | apply Kd.R_drewN | apply Kd.R_drew)); exact HO_3.out)); (case aS => exact (below_size (by repeat (first | (with_reducible first | exact HB.out | apply below_alloc | apply pw_below_drewN | apply below_drew1) | exact HB.out)))); (case aL => have := LMc3.out; omega); intro v344 w4 ho hb hg hat; rw [← Ny343.out] at ho; have n0_ := Aside0.mk (hb); have n1_ := Aside0.mk (ho); clear HB; clear HO_3; have HB := n0_; have HO345 := n1_; clear n0_ n1_; clear ho hb hg hat))
          go_roundg k1
          case measure => have := HK1.out; omega
          case rel => exact ⟨(x0_1 / 128), (y343), (by first | rfl | (simp; done) | (simp [*]; done)), H', ⟨by have := HK1.out; omega⟩, ⟨by (with_reducible repeat (first | apply Kd.R_alloc | apply Kd.R_drewN | apply Kd.R_drew)); exact HO345.out⟩, ⟨by repeat (first | (with_reducible first | exact HB.out | apply below_alloc | apply pw_below_drewN | apply below_drew1) | exact HB.out)⟩⟩
        · rw [if_neg c3] at H
          exact absurd H (by simp)
      · rw [if_neg c2] at H
        have c2b0 : decide (128 ≤ x0_1) = false := decide_eq_false c2
        clear c2
        by_cases c5 : x3_1.length < 140737488355328
        · rw [if_pos c5] at H
          have LMc5 := Aside0.mk c5
          clear c5
          obtain ⟨y346, hy346⟩ : ∃ y_ : List Int, y_ = (x3_1 ++ [(x0_1) % 256]) := ⟨_, rfl⟩
          replace H : (some (strOfNums y346)) = some r := by first | (rw [hy346]; with_reducible exact H) | (have H2_ := (Option.bind_some _ _).symm.trans H; rw [hy346]; with_reducible exact H2_) | (have H2_ := (Option.bind_some _ _).symm.trans H; with_reducible exact H2_) | with_reducible exact H | (rw [hy346]; exact H) | exact H
          have Ny346 := Aside0.mk hy346
          clear hy346
          obtain rfl := Option.some.inj H
          go_wp2_with (first | ((with_reducible refine gate_builtin (b := .append) (xs := #[.tmp 14, .tmp 17]) rfl ?_); at_builtin; refine Kd.R_append (Kd.int .u8) (w0 := w) w.heap.size rfl (.tmp 14) (.tmp 17) 42 5 (.int .u8 0) 1 rfl Try.underlying42 info5 rfl (by decide) (by omega) u3 x3_1 ((x0_1) % 256) [.int .u8 ((x0_1) % 256)] (fun _ => True) (fun _ => False) rfl rfl ?aP (fun _ hk => hk.elim) ?aF ?aO ?aB ?aS ?aL ?_; (case aP => exact rfl); (case aB => exact (by repeat (first | (with_reducible first | exact HB.out | apply below_alloc | apply pw_below_drewN | apply below_drew1) | exact HB.out))); (case aF => exact (fun _ _ => trivial)); (case aO => exact (by (with_reducible repeat (first | apply Kd.R_alloc | apply Kd.R_drewN | apply Kd.R_drew)); exact HO_3.out)); (case aS => exact (below_size (by repeat (first | (with_reducible first | exact HB.out | apply below_alloc | apply pw_below_drewN | apply below_drew1) | exact HB.out)))); (case aL => have := LMc5.out; omega); intro v347 w6 ho hb hg hat; rw [← Ny346.out] at ho; have n0_ := Aside0.mk (hb); have n1_ := Aside0.mk (ho); clear HB; clear HO_3; have HB := n0_; have HO348 := n1_; clear n0_ n1_; clear ho hb hg hat; have hcv7 := own_string (P := Try.prog) Try.underlying42 Try.underlying5 Try.underlying9 (Kd.own_of_R HO348.out)))
          go_ret
          exact ⟨by first | rfl | (simp [errW_none, errW_some] <;> rfl) | (simp [*, errW_none, errW_some] <;> rfl), by repeat (first | (with_reducible first | exact HB.out | apply below_alloc | apply pw_below_drewN | apply below_drew1) | exact HB.out)⟩
        · rw [if_neg c5] at H
          exact absurd H (by simp)
end Go.Proofs.Ytfcndhajcikgiaa.B
namespace Go.Proofs.Ytfcndhajcikgiaa.B
open Go.RowKit Go.Proofs.YtfcndhajcikgiaaW.PrintWords Go.Proofs.YtfcndhajcikgiaaW.PrintLast Go.Proofs.YtfcndhajcikgiaaW.PrintMore
def word_Put.f (k : Nat) (a0 : ByteArray) : Option (ByteArray) := (pack_Put.f k (a0.size : Int)).bind fun t349 => (if t349.size + a0.size ≤ 9223372036854775807 then (some (t349 ++ a0)) else (none))
theorem word_Put.mono : ∀ a0 k, LeO (word_Put.f k a0) (word_Put.f (k + 1) a0) := by
  intro a0 k
  unfold word_Put.f
  repeat' first
      | (with_reducible exact pack_Put.mono _ _)
      | (with_reducible exact LeO.refl _)
      | (with_reducible exact LeO.none _)
      | (with_reducible refine LeO.ite ?_ ?_)
      | (with_reducible refine LeO.bind ?_ (fun _ => ?_))
      | exact pack_Put.mono _ _
      | exact LeO.none _
      | refine LeO.ite ?_ ?_
      | refine LeO.bind ?_ (fun _ => ?_)
set_option maxHeartbeats 8000000 in
set_option maxRecDepth 100000 in
theorem word_Put.calls (k : Nat) (a0 : ByteArray) (r : ByteArray) (w : World) (h : word_Put.f k a0 = some r) :
    Calls Try.prog 20 #[.string a0] w fun e w' => e = .returned (.string r) ∧ Below w.heap.size w w' := by
  have HB := Aside0.mk (Below.refl w.heap.size w)
  have H : ((pack_Put.f k (a0.size : Int)).bind fun t349 => (if t349.size + a0.size ≤ 9223372036854775807 then (some (t349 ++ a0)) else (none))) = some r := h
  clear h
  replace H := Option.bind_eq_some_iff.mp H
  obtain ⟨t349, A20, H⟩ := H
  replace H : (if t349.size + a0.size ≤ 9223372036854775807 then (some (t349 ++ a0)) else (none)) = some r := H
  have A2 := Aside0.mk A20
  clear A20
  by_cases c3 : t349.size + a0.size ≤ 9223372036854775807
  · rw [if_pos c3] at H
    have c3b0 := eq_true c3
    have c3b1 : decide (t349.size + a0.size ≤ 9223372036854775807) = true := decide_eq_true c3
    try have c3b2 : (9223372036854775807 < t349.size + a0.size) = False := eq_false (Nat.not_lt.2 c3)
    obtain rfl := Option.some.inj H
    go_enter Try.func20, Try.ntmps20
    go_wp2_with (first | ((with_reducible refine gate_callee (f := 19) rfl ?_); refine goesL_ (some 6) rfl rfl Try.func19 (by kernel_rfl) rfl #[.int .u64 (a0.size : Int)] rfl (by (try simp only [List.map_toArray, List.map_cons, List.map_nil]); first | done | rfl | (simp only [List.length_drop, List.length_take]; rfl)) ?_; (with_reducible refine (pack_Put.calls k (a0.size : Int) t349 _ A2.out).mono ?_); rintro e w4 ⟨rfl, hb⟩; refine ⟨_, rfl, ?_⟩; have n0_ := Aside0.mk (below_step (by repeat (first | (with_reducible first | exact HB.out | apply below_alloc | apply pw_below_drewN | apply below_drew1) | exact HB.out)) hb); clear HB; have HB := n0_; clear n0_; (try clear hb); (try clear hb2); (try clear hk); (try clear hi)))
    go_ret
    exact ⟨by first | rfl | (simp [errW_none, errW_some] <;> rfl) | (simp [*, errW_none, errW_some] <;> rfl), by repeat (first | (with_reducible first | exact HB.out | apply below_alloc | apply pw_below_drewN | apply below_drew1) | exact HB.out)⟩
  · rw [if_neg c3] at H
    exact absurd H (by simp)
end Go.Proofs.Ytfcndhajcikgiaa.B
