/- RowsReads: for every input the law returns true, and the input reads behind the call as it read before. (Part 10 of 10.) -/
import Derived.Test.YtfcndhajcikgiaaKReads9
import Derived.Test.YtfcndhajcikgiaaRows
set_option linter.unusedVariables false
set_option linter.unusedSimpArgs false
namespace Go.Proofs.Ytfcndhajcikgiaa.B
open Go.RowKit Go.Proofs.Sp Go.Proofs.Fl Go.Proofs.YtfcndhajcikgiaaW.PrintWords Go.Proofs.YtfcndhajcikgiaaW.PrintLast Go.Proofs.YtfcndhajcikgiaaW.PrintMore
/-- Between two moves. -/
def RecAt (w W : World) (g : Nat) (S : ByteArray) (nn : Int) (ns : ByteArray) (i : Nat) (acc : List MoveS) (xs : List S30) (s : ByteArray) (lv : Value) : Prop :=
  movesR S nn.toNat [] (ns, 0) = movesR S (nn.toNat - i) acc (s, 0) ∧ LikeL acc xs ∧ acc.length = i ∧ Kd.R k30 30 W w.heap.size (fun k => k ≠ g) lv xs ∧ IsS68 w W g S ((S.size : Int) - s.size) 0 ∧ Suf S s ∧ Below w.heap.size w W
theorem IsS68.grown2 {w0 W w1 : World} {g : Nat} {f0 : ByteArray} {f1 f2 : Int} {row : Option Nat} (h : IsS68 w0 W g f0 f1 f2) (hg : W.grownBy w1 row) (h2 : some g ≠ row) : IsS68 w0 w1 g f0 f1 f2 :=
  ⟨(hg.block g h.lt h2).trans h.1, h.2⟩
theorem IsS68.below2 {w0 W w1 : World} {g : Nat} {f0 : ByteArray} {f1 f2 : Int} (h : IsS68 w0 W g f0 f1 f2) (hb : Below W.heap.size W w1) : IsS68 w0 w1 g f0 f1 f2 :=
  ⟨(hb.block g h.lt).trans h.1, h.2⟩
/-- One move more. -/
theorem RecAt.next {w W w1 : World} {g : Nat} {S : ByteArray} {nn : Int} {ns : ByteArray} {i : Nat} {acc : List MoveS} {xs : List S30} {lv v1 : Value} {x : MoveS} {y : S30} {s2 : ByteArray} {k : Nat}
    (hd : LikeL acc xs) (hl : acc.length = i) (hk : nn.toNat - i = k + 1) (hst : movesR S nn.toNat [] (ns, 0) = movesR S k (acc ++ [x]) (s2, 0)) (hxy : LikeM x y) (hI : IsS68 w W g S ((S.size : Int) - s2.size) 0) (hs : Suf S s2)
    (hL : Kd.R k30 30 W w.heap.size (fun k => k ≠ g) lv xs)
    (ho : Kd.R k30 30 w1 w.heap.size (fun k => k ≠ g) v1 (xs ++ [y])) (hb : Below w.heap.size w w1) (hg : W.grownBy w1 lv.ownBlock) :
    RecAt w w1 g S nn ns (i + 1) (acc ++ [x]) (xs ++ [y]) s2 v1 :=
  ⟨by rw [hst, show nn.toNat - (i + 1) = k by omega], hd.snoc hxy, by simp [hl], ho, hI.grown2 hg (fun e => hL.1 g e.symm rfl), hs, hb⟩
theorem num_at (S : ByteArray) (s : ByteArray) (e : Int) (hs : Suf S s) (hS : S.size ≤ 140737488355328) : ∃ v s1 e1, numR (s, e) = (v, s1, e1) ∧ bonsairef03_Reader_Num.f 30 S ((S.size : Int) - s.size) e = some (v, S, (S.size : Int) - s1.size, e1) ∧ Suf S s1 ∧ 0 ≤ v :=
  ⟨(numR (s, e)).1, (numR (s, e)).2.1, (numR (s, e)).2.2, rfl, rnum_f S (s, e) hs hS 30 (by omega), numR_suf (q := (s, e)) hs, numR_nonneg _⟩
theorem fix_at (S : ByteArray) (s : ByteArray) (hs : Suf S s) (hS : S.size ≤ 140737488355328) : ∃ (u : Nat) (s1 : ByteArray) (e1 : Int), fixR (s, 0) = (u, s1, e1) ∧ bonsairef03_Reader_Fix.f 10 S ((S.size : Int) - s.size) 0 = some ((u : Int), S, (S.size : Int) - s1.size, e1) ∧ Suf S s1 ∧ u < 2 ^ 64 :=
  ⟨(fixR (s, 0)).1, (fixR (s, 0)).2.1, (fixR (s, 0)).2.2, rfl, rfix_f S (s, 0) hs hS 10 (by omega), fixR_suf (q := (s, 0)) hs, fixR_lt _⟩
set_option maxRecDepth 100000 in
set_option maxHeartbeats 4000000 in
theorem bonsairef21_Decode.calls (S : ByteArray) (v ve : Int) (w : World) (hS : S.size ≤ 140737488355328) (hv : bonsairef11_Version.f 1 S = some (v, ve)) (h5 : ve = 0 → v = 1 → 5 ≤ S.size) :
    Calls Try.prog 14 #[.string S] w fun e w' => DecodeOf w (decodeR S v ve) e w' := by
  have HV := Lib.hid hv
  clear hv
  obtain ⟨m, hm⟩ : ∃ m, m = decodeR S v ve := ⟨_, rfl⟩
  rw [← hm]
  have HM := Lib.hid hm
  clear hm
  go_enter Try.func14, Try.ntmps14
  by_cases c1 : ve = 0
  · by_cases c2 : v = 1
    · have h5' := h5 c1 c2
      have hat := takeS_at (S := S) (a := 5) (by omega) (by omega)
      have hsuf := Suf.from S 5 h5'
      have hnum := rnum_f S (S.extract 5 S.size, 0) hsuf hS 30 (by omega)
      have hsuf1 := numR_suf (q := (S.extract 5 S.size, 0)) hsuf
      have h0n := numR_nonneg (S.extract 5 S.size, 0)
      dsimp only at hnum
      rw [show ((5 : Int).toNat) = 5 from rfl] at hat
      rw [← hat] at hnum
      have hm : m = if (numR (S.extract 5 S.size, 0)).2.2 ≠ 0 then .error (numR (S.extract 5 S.size, 0)).2.2 else if 2000 < (numR (S.extract 5 S.size, 0)).1 then .error 10 else match movesR S (numR (S.extract 5 S.size, 0)).1.toNat [] (numR (S.extract 5 S.size, 0)).2 with
          | .error e => .error e
          | .ok (ms, q) => if doneR q.1 q.2 ≠ 0 then .error (doneR q.1 q.2) else .ok ms := by
        rw [HM.out]; unfold decodeR; rw [if_neg (by simpa using c1), if_neg (by simpa using c2)]; rfl
      obtain ⟨q, hq⟩ : ∃ q, q = numR (S.extract 5 S.size, 0) := ⟨_, rfl⟩
      rw [← hq] at hnum hsuf1 hm h0n
      clear hq hat hsuf HM
      obtain ⟨nn, ns, ne⟩ := q
      dsimp only at hnum hsuf1 hm h0n
      have HN := Lib.hid hnum
      have HSF := Lib.hid hsuf1
      have HMM := Lib.hid hm
      clear hnum hsuf1 hm
      by_cases c3 : ne = 0
      · subst c3
        by_cases c4 : 2000 < nn
        · have HE := Lib.hid (show m = .error 10 by have := HMM.out; rw [if_neg (by decide), if_pos c4] at this; exact this)
          go_wp2_with (first
            | (go_at_call 35; refine (bonsairef11_Version.calls 1 S _ _ _ HV.out).mono ?_; rintro e w1 ⟨rfl, hb⟩; have B1 := Lib.hid hb.below; clear hb)
            | (go_at_call 36; refine (bonsairef03_Reader_Num.calls 30 _ S 5 0 _ _ _ _ w _ (IsS68.new w w1 S 5 0 B1.out) (below_alloc B1.out _) HN.out).mono ?_; rintro e w2 ⟨rfl, hq1, hq2, -⟩; have I2 := Lib.hid hq1; have B2 := Lib.hid hq2; have k2 := cellS68_2 I2.out.1; clear hq1 hq2))
          go_ret2
          exact DecodeOf.err HE.out B2.out
        · have hE := HMM.out
          rw [if_neg (by decide), if_neg c4] at hE
          have HE := Lib.hid hE
          clear hE HMM
          have hn2 : nn ≤ 2000 := by omega
          go_wp2_with (first
            | (go_at_call 35; refine (bonsairef11_Version.calls 1 S _ _ _ HV.out).mono ?_; rintro e w1 ⟨rfl, hb⟩; have B1 := Lib.hid hb.below; clear hb)
            | (go_at_call 36; refine (bonsairef03_Reader_Num.calls 30 _ S 5 0 _ _ _ _ w _ (IsS68.new w w1 S 5 0 B1.out) (below_alloc B1.out _) HN.out).mono ?_; rintro e w2 ⟨rfl, hq1, hq2, -⟩; have I2 := Lib.hid hq1; have B2 := Lib.hid hq2; have k2 := cellS68_2 I2.out.1; clear hq1 hq2))
          obtain ⟨g, hg⟩ : ∃ g, g = w1.heap.size := ⟨_, rfl⟩
          rw [← hg] at I2 k2 ⊢
          clear HN HV B1 hg k2
          go_loopw [8, 9] (fun lv iv wr => ∃ (i : Nat) (acc : List MoveS) (xs : List S30) (s : ByteArray), iv = .int .i64 i ∧ (i : Int) ≤ nn ∧ RecAt w wr g S nn ns i acc xs s lv) (fun _ iv _ => (nn - intOf iv).toNat)
          case atStart => exact ⟨0, [], [], ns, rfl, h0n, rfl, trivial, rfl, Kd.R_nil _ _ _ _ _, I2.out, HSF.out, B2.out⟩
          case round =>
            obtain ⟨i, acc, xs, s, rfl, hin, hd⟩ := hrel
            have HD := Lib.hid hd
            clear hd
            by_cases hlt : (i : Int) < nn
            · obtain ⟨k, hk⟩ : ∃ k, nn.toNat - i = k + 1 := ⟨nn.toNat - i - 1, by omega⟩
              have hstep := HD.out.1
              rw [hk, movesR] at hstep
              obtain ⟨v0, s1, e1, h0, f0, sf1, p0⟩ := num_at S s 0 HD.out.2.2.2.2.2.1 hS
              obtain ⟨v1, s2, e2, h1, f1, sf2, p1⟩ := num_at S s1 e1 sf1 hS
              obtain ⟨v2, s3, e3, h2, f2, sf3, p2⟩ := num_at S s2 e2 sf2 hS
              obtain ⟨v3, s4, e4, h3, f3, sf4, p3⟩ := num_at S s3 e3 sf3 hS
              rw [moveR_at h0 h1 h2 h3] at hstep
              have I0 := Lib.hid HD.out.2.2.2.2.1
              have B0 := Lib.hid HD.out.2.2.2.2.2.2
              have L0 := Lib.hid HD.out.2.2.2.1
              have F0 := Lib.hid f0
              have F1 := Lib.hid f1
              have F2 := Lib.hid f2
              have F3 := Lib.hid f3
              have SF4 := Lib.hid sf4
              have HST := Lib.hid hstep
              clear h0 h1 h2 h3 f0 f1 f2 f3 sf1 sf2 sf3 sf4 hstep
              by_cases ce4 : e4 = 0
              · subst ce4
                obtain ⟨ta, hta⟩ : ∃ x, x = takeS S ((S.size : Int) - s4.size) := ⟨_, rfl⟩
                obtain ⟨name, tt, te⟩ := ta
                have hz4 := SF4.out.1
                have hst := HST.out
                unfold moveT at hst
                rw [if_neg (fun h => h rfl), w64 (n := (S.size : Int) - s4.size) (by omega) (by omega), ← hta] at hst
                have TT := Lib.hid hta.symm
                have HS1 := Lib.hid hst
                clear hst hta HST hz4
                by_cases cte : te = 0
                · subst cte
                  obtain ⟨s5, sf5, htt, htr⟩ := text_at hS SF4.out TT.out
                  obtain ⟨u, s6, e6, fx, fx2, sf6, hu⟩ := fix_at S s5 sf5 hS
                  rw [← htt] at fx2
                  have hst := HS1.out
                  rw [if_neg (fun h => h rfl), htr, fx] at hst
                  have FX := Lib.hid fx2
                  have HU := Lib.hid hu
                  have SF6 := Lib.hid sf6
                  have HS2 := Lib.hid hst
                  clear hst htt htr fx fx2 sf5 sf6 hu HS1
                  go_wp2_with (first | (go_at_call 36; (with_reducible refine (bonsairef03_Reader_Num.calls 30 g S _ _ _ _ _ _ w _ I0.out B0.out F0.out).mono ?_); rintro e5 w11 ⟨rfl, hq1, hq2, hq3⟩; have I1 := Lib.hid hq1; have B1 := Lib.hid hq2; have L1 := Lib.hid (Kd.R_keep L0.out hq3 (fun _ hk => hk)); clear hq1 hq2 hq3) | (go_at_call 36; (with_reducible refine (bonsairef03_Reader_Num.calls 30 g S _ _ _ _ _ _ w _ I1.out B1.out F1.out).mono ?_); rintro e5 w12 ⟨rfl, hq1, hq2, hq3⟩; have I2 := Lib.hid hq1; have B2 := Lib.hid hq2; have L2 := Lib.hid (Kd.R_keep L1.out hq3 (fun _ hk => hk)); clear hq1 hq2 hq3) | (go_at_call 36; (with_reducible refine (bonsairef03_Reader_Num.calls 30 g S _ _ _ _ _ _ w _ I2.out B2.out F2.out).mono ?_); rintro e5 w13 ⟨rfl, hq1, hq2, hq3⟩; have I3 := Lib.hid hq1; have B3 := Lib.hid hq2; have L3 := Lib.hid (Kd.R_keep L2.out hq3 (fun _ hk => hk)); clear hq1 hq2 hq3) | (go_at_call 36; (with_reducible refine (bonsairef03_Reader_Num.calls 30 g S _ _ _ _ _ _ w _ I3.out B3.out F3.out).mono ?_); rintro e5 w14 ⟨rfl, hq1, hq2, hq3⟩; have I4 := Lib.hid hq1; have B4 := Lib.hid hq2; have L4 := Lib.hid (Kd.R_keep L3.out hq3 (fun _ hk => hk)); have k2 := cellS68_2 I4.out.1; have k1 := cellS68_1 I4.out.1; clear hq1 hq2 hq3))
                  go_wp2_with (go_at_call 37; refine (bonsairef04_Take.calls S ((S.size : Int) - s4.size) _ hS).mono ?_; rintro e5 w15 h; rw [TT.out] at h; obtain ⟨rfl, hb⟩ := h; have I5 := Lib.hid (I4.out.below2 hb); have B5 := Lib.hid (B4.out.trans (hb.mono B4.out.size)); have L5 := Lib.hid (Kd.R_below L4.out hb); clear k1 k2 hb; have k1 := cellS68_1 I5.out.1; have z1 := blk_frozen I5.out.1 1)
                  by_cases ce6 : e6 = 0
                  · subst ce6
                    have hst := HS2.out
                    rw [if_neg (fun h => h rfl)] at hst
                    have HS3 := Lib.hid hst
                    clear hst HS2
                    have FC := Lib.hid (rcanon_f HU.out)
                    cases hcb : canonB u with
                    | false =>
                      have HF := Lib.hid (show m = .error 5 by have h1 := HS3.out; have h2 := HE.out; rw [hcb, Bool.and_false, Bool.false_and, if_neg (by decide)] at h1; rw [h1] at h2; exact h2)
                      rw [hcb] at FC
                      clear hcb
                      go_wp2_with (first | (go_at_call 38; refine (bonsairef03_Reader_Fix.calls 10 g S tt 0 _ _ _ _ w _ (I5.out.set_1 tt) (B5.out.setCell (p := ⟨g, 1, none⟩) I5.out.2 _) FX.out).mono ?_; rintro e5 w16 ⟨rfl, hq1, hq2, hq3⟩; have I6 := Lib.hid hq1; have B6 := Lib.hid hq2; have L6 := Lib.hid (Kd.R_keep (Kd.R_keep L5.out ((KeepBut.refl w15 g none).set_ 1 (.int .i64 tt)) (fun _ hk => hk)) hq3 (fun _ hk => hk)); clear hq1 hq2 hq3 k1 z1; have k2 := cellS68_2 I6.out.1) | (go_at_call 39; refine (bonsairef01_Canon.calls _ _ _ FC.out).mono ?_; rintro e5 w17 ⟨rfl, hd⟩; have I7 := Lib.hid (I6.out.drawn hd); have B7 := Lib.hid (below_drawn0 B6.out hd); have L7 := Lib.hid (Kd.R_below L6.out hd.below); clear hd k2))
                      go_ret2
                      exact DecodeOf.err HF.out B7.out
                    | true =>
                      rw [hcb] at FC
                      have hst := HS3.out
                      rw [hcb, Bool.and_true] at hst
                      have HS4 := Lib.hid hst
                      clear hst HS3 hcb
                      go_wp2_with (go_at_call 38; refine (bonsairef03_Reader_Fix.calls 10 g S tt 0 _ _ _ _ w _ (I5.out.set_1 tt) (B5.out.setCell (p := ⟨g, 1, none⟩) I5.out.2 _) FX.out).mono ?_; rintro e5 w16 ⟨rfl, hq1, hq2, hq3⟩; have I6 := Lib.hid hq1; have B6 := Lib.hid hq2; have L6 := Lib.hid (Kd.R_keep (Kd.R_keep L5.out ((KeepBut.refl w15 g none).set_ 1 (.int .i64 tt)) (fun _ hk => hk)) hq3 (fun _ hk => hk)); clear hq1 hq2 hq3 k1 z1; have k2 := cellS68_2 I6.out.1)
                      by_cases cv0 : v0 ≤ 9223372036854775807
                      · by_cases cv1 : v1 ≤ 9223372036854775807
                        · by_cases cv2 : v2 ≤ 9223372036854775807
                          · by_cases cv3 : v3 ≤ 9223372036854775807
                            · have hst := HS4.out
                              rw [decide_eq_true cv0, decide_eq_true cv1, decide_eq_true cv2, decide_eq_true cv3, w64 p0 cv0, w64 p1 cv1, w64 p2 cv2, w64 p3 cv3] at hst
                              have HS5 := Lib.hid hst
                              clear hst HS4
                              cases hob : oneB v0 v1 v2 v3 name with
                              | false =>
                                have HF := Lib.hid (show m = .error 5 by have h1 := HS5.out; have h2 := HE.out; rw [hob, Bool.and_false, if_neg (by decide)] at h1; rw [h1] at h2; exact h2)
                                have OB := Lib.hid hob
                                clear hob
                                go_wp2_with (first | (go_at_call 39; refine (bonsairef01_Canon.calls _ _ _ FC.out).mono ?_; rintro e5 w17 ⟨rfl, hd⟩; have I7 := Lib.hid (I6.out.drawn hd); have B7 := Lib.hid (below_drawn0 B6.out hd); have L7 := Lib.hid (Kd.R_below L6.out hd.below); clear hd k2) | (go_at_call 40; refine (bonsairef01_Float.calls u HU.out _).mono ?_; rintro e5 w18 ⟨y, hy, rfl, hb⟩; have HY := Lib.hid hy; have I8 := Lib.hid (I7.out.below2 hb); have B8 := Lib.hid (B7.out.trans (hb.mono B7.out.size)); have L8 := Lib.hid (Kd.R_below L7.out hb); clear hy hb) | (go_at_call 41; refine (bonsairef13_One.calls 70 v0 v1 v2 v3 name y _ _ ((rone_f v0 v1 v2 v3 name y 70 (by omega)).trans (congrArg some OB.out))).mono ?_; rintro e5 w19 ⟨rfl, hb⟩; have hbb : Below w18.heap.size w18 w19 := ((Below.refl _ _).alloc (Nat.le_refl _) (.cells #[.int .i64 v0, .int .i64 v1, .int .i64 v2, .int .i64 v3, .string name, .float .f64 y] 30)).trans (hb.mono (by simp)); have I9 := Lib.hid (I8.out.below2 hbb); have B9 := Lib.hid (B8.out.trans (hbb.mono B8.out.size)); have L9 := Lib.hid (Kd.R_below L8.out hbb); have M9 := Lib.hid ((hb.block w18.heap.size (by simp)).trans (heap_alloc_new w18 (.cells #[.int .i64 v0, .int .i64 v1, .int .i64 v2, .int .i64 v3, .string name, .float .f64 y] 30))); clear hb hbb; obtain ⟨y0, y1, y2, y3, y4, y5⟩ := six_cells M9.out))
                                go_ret2
                                exact DecodeOf.err HF.out B9.out
                              | true =>
                                have hst := HS5.out
                                rw [hob] at hst
                                replace hst : movesR S nn.toNat [] (ns, 0) = match acc.getLast? with
                                    | none => movesR S k (acc ++ [{ c := v0, r := v1, p := v2, ch := v3, name := name, rank := u }]) (s6, 0)
                                    | some y => if beforeB y.c y.r v0 v1 then movesR S k (acc ++ [{ c := v0, r := v1, p := v2, ch := v3, name := name, rank := u }]) (s6, 0) else .error 12 := hst
                                have HS6 := Lib.hid hst
                                have OB := Lib.hid hob
                                clear hob hst HS5
                                go_wp2_with (first | (go_at_call 39; refine (bonsairef01_Canon.calls _ _ _ FC.out).mono ?_; rintro e5 w17 ⟨rfl, hd⟩; have I7 := Lib.hid (I6.out.drawn hd); have B7 := Lib.hid (below_drawn0 B6.out hd); have L7 := Lib.hid (Kd.R_below L6.out hd.below); clear hd k2) | (go_at_call 40; refine (bonsairef01_Float.calls u HU.out _).mono ?_; rintro e5 w18 ⟨y, hy, rfl, hb⟩; have HY := Lib.hid hy; have I8 := Lib.hid (I7.out.below2 hb); have B8 := Lib.hid (B7.out.trans (hb.mono B7.out.size)); have L8 := Lib.hid (Kd.R_below L7.out hb); clear hy hb) | (go_at_call 41; refine (bonsairef13_One.calls 70 v0 v1 v2 v3 name y _ _ ((rone_f v0 v1 v2 v3 name y 70 (by omega)).trans (congrArg some OB.out))).mono ?_; rintro e5 w19 ⟨rfl, hb⟩; have hbb : Below w18.heap.size w18 w19 := ((Below.refl _ _).alloc (Nat.le_refl _) (.cells #[.int .i64 v0, .int .i64 v1, .int .i64 v2, .int .i64 v3, .string name, .float .f64 y] 30)).trans (hb.mono (by simp)); have I9 := Lib.hid (I8.out.below2 hbb); have B9 := Lib.hid (B8.out.trans (hbb.mono B8.out.size)); have L9 := Lib.hid (Kd.R_below L8.out hbb); have M9 := Lib.hid ((hb.block w18.heap.size (by simp)).trans (heap_alloc_new w18 (.cells #[.int .i64 v0, .int .i64 v1, .int .i64 v2, .int .i64 v3, .string name, .float .f64 y] 30))); clear hb hbb; obtain ⟨y0, y1, y2, y3, y4, y5⟩ := six_cells M9.out))
                                have HAC := Lib.hid HD.out.2.2.1
                                have HLK := Lib.hid HD.out.2.1
                                obtain ⟨B, hB⟩ : ∃ B, B = w18.heap.size := ⟨_, rfl⟩
                                rw [← hB] at y0 y1 y2 y3 y4 y5 ⊢
                                clear hB HD I0 I4 I5 I6 I7 I8 B0 B4 B5 B6 B7 B8 L0 L4 L5 L6 L7 L8 M9 F0 F1 F2 F3 TT FX FC HU OB SF4
                                have HGL := Lib.hid (show g < w19.heap.size from I9.out.lt)
                                by_cases hi0 : i = 0
                                · have HST2 := Lib.hid (show movesR S nn.toNat [] (ns, 0) = movesR S k (acc ++ [{ c := v0, r := v1, p := v2, ch := v3, name := name, rank := u }]) (s6, 0) by
                                    have h1 := HS6.out; rw [show acc = [] from List.length_eq_zero_iff.1 (HAC.out.trans hi0)] at h1 ⊢; exact h1)
                                  have HIL := Lib.hid (show (xs.length + 1) * 56 ≤ 140737488355328 by have h1 := HLK.out.length; have h2 := HAC.out; omega)
                                  have HSZ := Lib.hid (show w19.heap.size ≤ w19.drew.heap.size from Nat.le_refl _)
                                  go_region
                                  go_wp2_with (first | ((with_reducible refine gate_builtin (b := .append) (xs := #[.tmp 145, .tmp 147]) rfl ?_); at_builtin; (rw [show ∀ (W : World) (o : Obj), (W.alloc o).drew = W.drew.alloc o from fun _ _ => rfl]; refine Kd.R_append k30 (w0 := w) w.heap.size rfl (.tmp 145) (.tmp 147) 22 30 _ 56 rfl Try.underlying22 info30 rfl (by decide) (by decide) u8 xs (⟨⟨v0, v1⟩, v2, v3, name, y⟩ : S30) [.int .i64 v0, .int .i64 v1, .int .i64 v2, .int .i64 v3, .string name, .float .f64 y] (fun k => k ≠ g) (fun _ => False) rfl rfl ?aP (fun _ hk => hk.elim) ?aF ?aO ?aB ?aS ?aL ?_; (case aP => exact k30_mkM _ _ _ _); (case aF => exact (fun k hk => by have h1 := HGL.out; have h2 : w19.heap.size ≤ k := hk; omega)); (case aO => exact Kd.R_drew L9.out); (case aB => exact below_drew1 B9.out); (case aS => exact Nat.le_trans B9.out.size HSZ.out); (case aL => exact HIL.out); intro v116 w6 ho hb hg hat)))
                                  have HN := Lib.hid (RecAt.next (W := w19.drew) (v1 := v116) HLK.out HAC.out hk HST2.out (⟨rfl, rfl, rfl, rfl, rfl, HY.out⟩ : LikeM { c := v0, r := v1, p := v2, ch := v3, name := name, rank := u } ⟨⟨v0, v1⟩, v2, v3, name, y⟩) I9.out SF6.out (Kd.R_drew L9.out) ho hb hg)
                                  clear ho hb hg hat
                                  go_wp2
                                  go_roundw
                                  case rel => exact ⟨i + 1, _, _, _, by go_num, by omega, HN.out⟩
                                  case measure => simp [intOf]; omega
                                · obtain ⟨A, cc, hu9, -, -⟩ := Kd.R_reads L9.out
                                  subst hu9
                                  obtain ⟨I, hI⟩ : ∃ I : Int, I = (i : Int) := ⟨_, rfl⟩
                                  obtain ⟨J, hJ⟩ : ∃ J : Int, J = I - 1 := ⟨_, rfl⟩
                                  obtain ⟨a, ha1, ha2, ha3⟩ := HLK.out.last (by rw [HAC.out]; omega) (J := J) (by rw [HAC.out]; omega)
                                  have hst := HS6.out
                                  rw [ha1] at hst
                                  replace hst : movesR S nn.toNat [] (ns, 0) = if beforeB a.c a.r v0 v1 then movesR S k (acc ++ [{ c := v0, r := v1, p := v2, ch := v3, name := name, rank := u }]) (s6, 0) else .error 12 := hst
                                  have hxl : xs.length = i := by rw [← HLK.out.length]; exact HAC.out
                                  rw [← hI] at hin hlt ⊢
                                  have hj1 : IntKind.i64.wrap (I - 1) = J := by rw [i64_w, w64 (by omega) (by omega)]; exact hJ.symm
                                  have hj2 : (0 : Int) ≤ J := by omega
                                  have hj3 : J < (xs.length : Int) := by omega
                                  have hj4 : (0 : Int) < I := by omega
                                  have hj5 : I ≤ 2000 := by omega
                                  have HI := Lib.hid (And.intro hI hxl)
                                  have HA := Lib.hid ha2
                                  have HA2 := Lib.hid ha3
                                  have HS2 := Lib.hid hst
                                  clear hI hJ ha1 ha2 ha3 hst HS6 hxl
                                  obtain ⟨ad, hA, x0, x1, -, -, -, -⟩ := at_T30 (Kd.R_reads' L9.out).2.2 J hj2 hj3
                                  subst hA
                                  rw [HA.out] at x0
                                  rw [HA2.out] at x1
                                  cases hbf : beforeB a.c a.r v0 v1 with
                                  | false =>
                                    have HBF := Lib.hid (show bonsairef02_Before.f a.c a.r v0 v1 = some false by rw [rbefore_f, hbf])
                                    have HF := Lib.hid (show m = .error 12 by have := HE.out; rw [HS2.out, hbf] at this; exact this)
                                    clear hbf
                                    go_region_held3 (fun w' => w'.cell? (ad.add (J.toNat * 6)) = some (.int .i64 a.c) ∧ w'.cell? ⟨(ad.add (J.toNat * 6)).block, (ad.add (J.toNat * 6)).off + 1, none⟩ = some (.int .i64 a.r) ∧ w'.cell? ⟨B, 0, none⟩ = some (.int .i64 v0) ∧ w'.cell? ⟨B, 1, none⟩ = some (.int .i64 v1)) (go_keep) (first | (go_at_call 42; refine (bonsairef02_Before.calls a.c a.r v0 v1 false _ HBF.out).mono ?_; rintro e wb ⟨rfl, hb⟩; have HB2 := Lib.hid (show Below w19.heap.size w19 wb from ⟨hb.os, hb.tape, hb.output, hb.size, hb.block⟩); have HC := Lib.hid (fun (p : Addr) (v : Value) (hp : w19.cell? p = some v) => (HB2.out.cell (World.block_lt_of_cell? w19 _ hp)).trans hp); have u0 := HC.out _ _ x0; have u1 := HC.out _ _ x1; have u2 := HC.out _ _ y0; have u3 := HC.out _ _ y1; clear hb))
                                    all_goals go_wp2
                                    all_goals go_ret2
                                    all_goals exact DecodeOf.err HF.out (B9.out.trans (HB2.out.mono B9.out.size))
                                  | true =>
                                    have HBF := Lib.hid (show bonsairef02_Before.f a.c a.r v0 v1 = some true by rw [rbefore_f, hbf])
                                    have HF := Lib.hid (show movesR S nn.toNat [] (ns, 0) = movesR S k (acc ++ [{ c := v0, r := v1, p := v2, ch := v3, name := name, rank := u }]) (s6, 0) by rw [HS2.out, hbf]; rfl)
                                    clear hbf
                                    go_region_held3 (fun w' => w'.cell? (ad.add (J.toNat * 6)) = some (.int .i64 a.c) ∧ w'.cell? ⟨(ad.add (J.toNat * 6)).block, (ad.add (J.toNat * 6)).off + 1, none⟩ = some (.int .i64 a.r) ∧ w'.cell? ⟨B, 0, none⟩ = some (.int .i64 v0) ∧ w'.cell? ⟨B, 1, none⟩ = some (.int .i64 v1)) (go_keep) (first | (go_at_call 42; refine (bonsairef02_Before.calls a.c a.r v0 v1 true _ HBF.out).mono ?_; rintro e wb ⟨rfl, hb⟩; have HB2 := Lib.hid (show Below w19.heap.size w19 wb from ⟨hb.os, hb.tape, hb.output, hb.size, hb.block⟩); have HC := Lib.hid (fun (p : Addr) (v : Value) (hp : w19.cell? p = some v) => (HB2.out.cell (World.block_lt_of_cell? w19 _ hp)).trans hp); have u0 := HC.out _ _ x0; have u1 := HC.out _ _ x1; have u2 := HC.out _ _ y0; have u3 := HC.out _ _ y1; have u4 := HC.out _ _ y2; have u5 := HC.out _ _ y3; have u6 := HC.out _ _ y4; have u7 := HC.out _ _ y5; clear hb))
                                    all_goals clear x0 x1 y0 y1 y2 y3 y4 y5 u0 u1 hj1 hj2 hj3 HS2 HBF HC HA HA2
                                    have HIL := Lib.hid (show (xs.length + 1) * 56 ≤ 140737488355328 by have := HI.out; omega)
                                    have IB := Lib.hid (I9.out.below2 HB2.out)
                                    have LB := Lib.hid (Kd.R_below L9.out HB2.out)
                                    have BB := Lib.hid (B9.out.trans (HB2.out.mono B9.out.size))
                                    have HSZ := Lib.hid (show w19.heap.size ≤ wb.heap.size from HB2.out.size)
                                    have HGL := Lib.hid (show g < wb.heap.size from IB.out.lt)
                                    clear HB2
                                    go_wp2_with (first | ((with_reducible refine gate_builtin (b := .append) (xs := #[.tmp 145, .tmp 147]) rfl ?_); at_builtin; (refine Kd.R_append k30 (w0 := w) w.heap.size rfl (.tmp 145) (.tmp 147) 22 30 _ 56 rfl Try.underlying22 info30 rfl (by decide) (by decide) (.slice (some ad) xs.length cc) xs (⟨⟨v0, v1⟩, v2, v3, name, y⟩ : S30) [.int .i64 v0, .int .i64 v1, .int .i64 v2, .int .i64 v3, .string name, .float .f64 y] (fun k => k ≠ g) (fun _ => False) rfl rfl ?aP (fun _ hk => hk.elim) ?aF ?aO ?aB ?aS ?aL ?_; (case aP => exact k30_mkM _ _ _ _); (case aF => exact (fun k hk => by have h1 := HGL.out; have h2 : wb.heap.size ≤ k := hk; omega)); (case aO => exact LB.out); (case aB => exact BB.out); (case aS => exact Nat.le_trans B9.out.size HSZ.out); (case aL => exact HIL.out); intro v116 w6 ho hb hg hat)))
                                    have HN := Lib.hid (RecAt.next (v1 := v116) HLK.out HAC.out hk HF.out (⟨rfl, rfl, rfl, rfl, rfl, HY.out⟩ : LikeM { c := v0, r := v1, p := v2, ch := v3, name := name, rank := u } ⟨⟨v0, v1⟩, v2, v3, name, y⟩) IB.out SF6.out LB.out ho hb hg)
                                    clear ho hb hg hat
                                    go_wp2
                                    go_roundw
                                    case rel => exact ⟨i + 1, _, _, _, by rw [HI.out.1]; go_num, by have := HI.out.1; omega, HN.out⟩
                                    case measure => (have hii := HI.out.1; simp [intOf]; omega)
                            · have HF := Lib.hid (show m = .error 5 by have h1 := HS4.out; have h2 := HE.out; rw [decide_eq_false cv3, Bool.and_false, Bool.false_and, if_neg (by decide)] at h1; rw [h1] at h2; exact h2)
                              have cw : (9223372036854775808 : Int) ≤ v3 := by omega
                              clear cv3
                              go_wp2_with (go_at_call 39; refine (bonsairef01_Canon.calls _ _ _ FC.out).mono ?_; rintro e5 w17 ⟨rfl, hd⟩; have I7 := Lib.hid (I6.out.drawn hd); have B7 := Lib.hid (below_drawn0 B6.out hd); have L7 := Lib.hid (Kd.R_below L6.out hd.below); clear hd k2)
                              go_ret2
                              exact DecodeOf.err HF.out B7.out
                          · have HF := Lib.hid (show m = .error 5 by have h1 := HS4.out; have h2 := HE.out; rw [decide_eq_false cv2, Bool.and_false, Bool.false_and, Bool.false_and, if_neg (by decide)] at h1; rw [h1] at h2; exact h2)
                            have cw : (9223372036854775808 : Int) ≤ v2 := by omega
                            clear cv2
                            go_wp2_with (go_at_call 39; refine (bonsairef01_Canon.calls _ _ _ FC.out).mono ?_; rintro e5 w17 ⟨rfl, hd⟩; have I7 := Lib.hid (I6.out.drawn hd); have B7 := Lib.hid (below_drawn0 B6.out hd); have L7 := Lib.hid (Kd.R_below L6.out hd.below); clear hd k2)
                            go_ret2
                            exact DecodeOf.err HF.out B7.out
                        · have HF := Lib.hid (show m = .error 5 by have h1 := HS4.out; have h2 := HE.out; rw [decide_eq_false cv1, Bool.and_false, Bool.false_and, Bool.false_and, Bool.false_and, if_neg (by decide)] at h1; rw [h1] at h2; exact h2)
                          have cw : (9223372036854775808 : Int) ≤ v1 := by omega
                          clear cv1
                          go_wp2_with (go_at_call 39; refine (bonsairef01_Canon.calls _ _ _ FC.out).mono ?_; rintro e5 w17 ⟨rfl, hd⟩; have I7 := Lib.hid (I6.out.drawn hd); have B7 := Lib.hid (below_drawn0 B6.out hd); have L7 := Lib.hid (Kd.R_below L6.out hd.below); clear hd k2)
                          go_ret2
                          exact DecodeOf.err HF.out B7.out
                      · have HF := Lib.hid (show m = .error 5 by have h1 := HS4.out; have h2 := HE.out; rw [decide_eq_false cv0, Bool.and_false, Bool.false_and, Bool.false_and, Bool.false_and, Bool.false_and, if_neg (by decide)] at h1; rw [h1] at h2; exact h2)
                        have cw : (9223372036854775808 : Int) ≤ v0 := by omega
                        clear cv0
                        go_wp2_with (go_at_call 39; refine (bonsairef01_Canon.calls _ _ _ FC.out).mono ?_; rintro e5 w17 ⟨rfl, hd⟩; have I7 := Lib.hid (I6.out.drawn hd); have B7 := Lib.hid (below_drawn0 B6.out hd); have L7 := Lib.hid (Kd.R_below L6.out hd.below); clear hd k2)
                        go_ret2
                        exact DecodeOf.err HF.out B7.out
                  · have HF := Lib.hid (show m = .error e6 by have h1 := HS2.out; have h2 := HE.out; rw [if_pos ce6] at h1; rw [h1] at h2; exact h2)
                    go_wp2_with (go_at_call 38; refine (bonsairef03_Reader_Fix.calls 10 g S tt 0 _ _ _ _ w _ (I5.out.set_1 tt) (B5.out.setCell (p := ⟨g, 1, none⟩) I5.out.2 _) FX.out).mono ?_; rintro e5 w16 ⟨rfl, hq1, hq2, hq3⟩; have I6 := Lib.hid hq1; have B6 := Lib.hid hq2; have L6 := Lib.hid (Kd.R_keep (Kd.R_keep L5.out ((KeepBut.refl w15 g none).set_ 1 (.int .i64 tt)) (fun _ hk => hk)) hq3 (fun _ hk => hk)); clear hq1 hq2 hq3 k1 z1; have k2 := cellS68_2 I6.out.1)
                    go_region
                    all_goals go_wp2
                    all_goals go_ret2
                    all_goals exact DecodeOf.err HF.out (below_drew1 B6.out)
                · have HF := Lib.hid (show m = .error te by have h1 := HS1.out; have h2 := HE.out; rw [if_pos cte] at h1; rw [h1] at h2; exact h2)
                  go_wp2_with (first | (go_at_call 36; (with_reducible refine (bonsairef03_Reader_Num.calls 30 g S _ _ _ _ _ _ w _ I0.out B0.out F0.out).mono ?_); rintro e5 w11 ⟨rfl, hq1, hq2, hq3⟩; have I1 := Lib.hid hq1; have B1 := Lib.hid hq2; have L1 := Lib.hid (Kd.R_keep L0.out hq3 (fun _ hk => hk)); clear hq1 hq2 hq3) | (go_at_call 36; (with_reducible refine (bonsairef03_Reader_Num.calls 30 g S _ _ _ _ _ _ w _ I1.out B1.out F1.out).mono ?_); rintro e5 w12 ⟨rfl, hq1, hq2, hq3⟩; have I2 := Lib.hid hq1; have B2 := Lib.hid hq2; have L2 := Lib.hid (Kd.R_keep L1.out hq3 (fun _ hk => hk)); clear hq1 hq2 hq3) | (go_at_call 36; (with_reducible refine (bonsairef03_Reader_Num.calls 30 g S _ _ _ _ _ _ w _ I2.out B2.out F2.out).mono ?_); rintro e5 w13 ⟨rfl, hq1, hq2, hq3⟩; have I3 := Lib.hid hq1; have B3 := Lib.hid hq2; have L3 := Lib.hid (Kd.R_keep L2.out hq3 (fun _ hk => hk)); clear hq1 hq2 hq3) | (go_at_call 36; (with_reducible refine (bonsairef03_Reader_Num.calls 30 g S _ _ _ _ _ _ w _ I3.out B3.out F3.out).mono ?_); rintro e5 w14 ⟨rfl, hq1, hq2, hq3⟩; have I4 := Lib.hid hq1; have B4 := Lib.hid hq2; have L4 := Lib.hid (Kd.R_keep L3.out hq3 (fun _ hk => hk)); have k2 := cellS68_2 I4.out.1; have k1 := cellS68_1 I4.out.1; clear hq1 hq2 hq3))
                  go_wp2_with (go_at_call 37; refine (bonsairef04_Take.calls S ((S.size : Int) - s4.size) _ hS).mono ?_; rintro e5 w15 h; rw [TT.out] at h; obtain ⟨rfl, hb⟩ := h; have I5 := Lib.hid (I4.out.below2 hb); have B5 := Lib.hid (B4.out.trans (hb.mono B4.out.size)); have L5 := Lib.hid (Kd.R_below L4.out hb); clear k1 k2 hb; have k1 := cellS68_1 I5.out.1; have z1 := blk_frozen I5.out.1 1)
                  go_ret2
                  exact DecodeOf.err HF.out B5.out
              · have HF := Lib.hid (show m = .error e4 by have h1 := HST.out; have h2 := HE.out; unfold moveT at h1; rw [if_pos ce4] at h1; rw [h1] at h2; exact h2)
                go_wp2_with (first | (go_at_call 36; (with_reducible refine (bonsairef03_Reader_Num.calls 30 g S _ _ _ _ _ _ w _ I0.out B0.out F0.out).mono ?_); rintro e5 w11 ⟨rfl, hq1, hq2, hq3⟩; have I1 := Lib.hid hq1; have B1 := Lib.hid hq2; have L1 := Lib.hid (Kd.R_keep L0.out hq3 (fun _ hk => hk)); clear hq1 hq2 hq3) | (go_at_call 36; (with_reducible refine (bonsairef03_Reader_Num.calls 30 g S _ _ _ _ _ _ w _ I1.out B1.out F1.out).mono ?_); rintro e5 w12 ⟨rfl, hq1, hq2, hq3⟩; have I2 := Lib.hid hq1; have B2 := Lib.hid hq2; have L2 := Lib.hid (Kd.R_keep L1.out hq3 (fun _ hk => hk)); clear hq1 hq2 hq3) | (go_at_call 36; (with_reducible refine (bonsairef03_Reader_Num.calls 30 g S _ _ _ _ _ _ w _ I2.out B2.out F2.out).mono ?_); rintro e5 w13 ⟨rfl, hq1, hq2, hq3⟩; have I3 := Lib.hid hq1; have B3 := Lib.hid hq2; have L3 := Lib.hid (Kd.R_keep L2.out hq3 (fun _ hk => hk)); clear hq1 hq2 hq3) | (go_at_call 36; (with_reducible refine (bonsairef03_Reader_Num.calls 30 g S _ _ _ _ _ _ w _ I3.out B3.out F3.out).mono ?_); rintro e5 w14 ⟨rfl, hq1, hq2, hq3⟩; have I4 := Lib.hid hq1; have B4 := Lib.hid hq2; have L4 := Lib.hid (Kd.R_keep L3.out hq3 (fun _ hk => hk)); have k2 := cellS68_2 I4.out.1; have k1 := cellS68_1 I4.out.1; clear hq1 hq2 hq3))
                go_region
                all_goals go_wp2
                all_goals go_ret2
                all_goals exact DecodeOf.err HF.out (below_drew1 B4.out)
            · have hend : movesR S nn.toNat [] (ns, 0) = .ok (acc, (s, 0)) := by
                rw [HD.out.1, show nn.toNat - i = 0 by omega]; rfl
              have hm5 := HE.out
              rw [hend] at hm5
              replace hm5 : m = if doneR s 0 ≠ 0 then .error (doneR s 0) else .ok acc := hm5
              have HM5 := Lib.hid hm5
              have h1 := HD.out.2.2.2.2.2.1.1
              have HL := Lib.hid (show bonsairef03_Reader_Left.f S ((S.size : Int) - s.size) 0 = some ((s.size : Int), S, (S.size : Int) - s.size, 0) by
                unfold bonsairef03_Reader_Left.f; rw [show wrap64 ((S.size : Int) - ((S.size : Int) - s.size)) = s.size by unfold wrap64; omega])
              clear hend hm5
              by_cases c6 : s.size = 0
              · have HF := Lib.hid (show m = .ok acc by have := HM5.out; unfold doneR at this; rw [if_pos rfl, if_pos c6] at this; exact this)
                have hz : (s.size : Int) ≤ 0 := by omega
                clear c6
                go_wp2_with (go_at_call 43; refine (bonsairef03_Reader_Left.calls g S _ 0 _ _ _ _ w _ HD.out.2.2.2.2.1 HD.out.2.2.2.2.2.2 HL.out).mono ?_; rintro e w3 ⟨rfl, h1, h2, h3⟩; have RF := Lib.hid (And.intro h2 h3); clear h1 h2 h3)
                obtain ⟨hq1, hq2⟩ := RF.out
                have RX := Lib.hid (Kd.R_mono (Kd.R_keep HD.out.2.2.2.1 hq2 (fun _ hk => hk)) (fun _ _ => trivial))
                go_ret2
                exact DecodeOf.ok HF.out HD.out.2.1 RX.out RF.out.1
              · have HF := Lib.hid (show m = .error 5 by have := HM5.out; unfold doneR at this; rw [if_pos rfl, if_neg c6] at this; exact this)
                have hz : (0 : Int) < (s.size : Int) := by omega
                clear c6
                go_wp2_with (go_at_call 43; refine (bonsairef03_Reader_Left.calls g S _ 0 _ _ _ _ w _ HD.out.2.2.2.2.1 HD.out.2.2.2.2.2.2 HL.out).mono ?_; rintro e w3 ⟨rfl, h1, h2, h3⟩; have RF := Lib.hid (And.intro h2 h3); clear h1 h2 h3)
                go_ret2
                exact DecodeOf.err HF.out RF.out.1
      · have HE := Lib.hid (show m = .error ne by have := HMM.out; rw [if_pos c3] at this; exact this)
        go_wp2_with (first
          | (go_at_call 35; refine (bonsairef11_Version.calls 1 S _ _ _ HV.out).mono ?_; rintro e w1 ⟨rfl, hb⟩; have B1 := Lib.hid hb.below; clear hb)
          | (go_at_call 36; refine (bonsairef03_Reader_Num.calls 30 _ S 5 0 _ _ _ _ w _ (IsS68.new w w1 S 5 0 B1.out) (below_alloc B1.out _) HN.out).mono ?_; rintro e w2 ⟨rfl, hq1, hq2, -⟩; have I2 := Lib.hid hq1; have B2 := Lib.hid hq2; have k2 := cellS68_2 I2.out.1; clear hq1 hq2))
        go_region
        all_goals go_wp2
        all_goals go_ret2
        all_goals exact DecodeOf.err HE.out (below_drew1 B2.out)
    · have HE := Lib.hid (show m = .error 8 by rw [HM.out]; unfold decodeR; rw [if_neg (by simpa using c1), if_pos c2])
      go_wp2_with (go_at_call 35; refine (bonsairef11_Version.calls 1 S _ _ _ HV.out).mono ?_; rintro e w1 ⟨rfl, hb⟩; have B1 := Lib.hid hb.below; clear hb)
      go_ret2
      exact DecodeOf.err HE.out B1.out
  · have HE := Lib.hid (show m = .error ve by rw [HM.out]; unfold decodeR; rw [if_pos c1])
    go_wp2_with (go_at_call 35; refine (bonsairef11_Version.calls 1 S _ _ _ HV.out).mono ?_; rintro e w1 ⟨rfl, hb⟩; have B1 := Lib.hid hb.below; clear hb)
    go_ret2
    exact DecodeOf.err HE.out B1.out
end Go.Proofs.Ytfcndhajcikgiaa.B
namespace Go.Proofs.Ytfcndhajcikgiaa.B
open Go.RowKit Go.Proofs.Sp Go.Proofs.Fl Go.Proofs.YtfcndhajcikgiaaW.PrintWords Go.Proofs.YtfcndhajcikgiaaW.PrintLast Go.Proofs.YtfcndhajcikgiaaW.PrintMore
theorem ver_ref (S : ByteArray) : bonsairef11_Version.f 1 S = some (verS S) := by
  unfold bonsairef11_Version.f verS
  have hr := bt_range S 4
  have hlen := len_size S
  by_cases h4 : (S.size : Int) < 4
  · rw [if_pos h4, bonsairef11_Version.j0, if_pos rfl, if_neg]
    intro hc
    have := congrArg List.length hc
    rw [List.length_take, hlen] at this
    simp [magicL] at this; omega
  · rw [if_neg h4, if_pos (by decide), if_pos (by omega), bonsairef11_Version.j0]
    have e : (S.extract 0 4).toList = S.data.toList.take 4 := by rw [ba_toList, extract_list, List.drop_zero]
    rw [e]
    by_cases hm : S.data.toList.take 4 = magicL
    · rw [if_pos hm, hm, if_neg (by decide)]
      by_cases h5 : S.size < 5
      · rw [if_pos (by omega), if_pos h5]
      · rw [if_neg (by omega), if_pos (by omega), if_neg h5, show wrap64 (bt S 4) = bt S 4 by unfold wrap64; omega]
    · rw [if_neg hm, if_pos (by simpa [magicL] using hm)]
theorem bonsairef21_Decode.file (S : ByteArray) (w : World) (hS : S.size ≤ 140737488355328) : Calls Try.prog 14 #[.string S] w (DecPost S w) :=
  (bonsairef21_Decode.calls S (verS S).1 (verS S).2 w hS (ver_ref S) verS_five).mono fun _ _ h => DecPost.of hS h
end Go.Proofs.Ytfcndhajcikgiaa.B
namespace Go.Proofs.Ytfcndhajcikgiaa.B
open Go.RowKit Go.Proofs.Sp Go.Proofs.Fl Go.Proofs.YtfcndhajcikgiaaW.PrintWords Go.Proofs.YtfcndhajcikgiaaW.PrintLast Go.Proofs.YtfcndhajcikgiaaW.PrintMore
def m0 : S30 := ⟨⟨5, 2⟩, 0, 300, ⟨#[97]⟩, 4607182418800017408⟩
def liveL : List UInt8 := [66, 78, 83, 73, 1, 1, 5, 2, 0, 172, 2, 1, 97, 0, 0, 0, 0, 0, 0, 240, 63]
def liveO : List UInt8 := [5, 2, 0, 172, 2, 1, 97, 0, 0, 0, 0, 0, 0, 240, 63]
theorem valid_a : validS [97] = true := by
  unfold validS
  rw [stopAt, show headS (97 : UInt8).toNat = some (0, 128, 191) from rfl]
  simp [tailOk, stopAt]
theorem one_m0 : oneM m0 = true := by
  unfold oneM oneB
  rw [show m0.f3.data.toList = [97] from rfl, valid_a]
  decide
theorem may_m0 : mayM [m0] = true := by
  unfold mayM
  rw [List.all_cons, one_m0]
  rfl
theorem ranks_m0 : Ranks [m0] := fun x hx => by
  obtain rfl := List.mem_singleton.1 hx
  decide
theorem enc_m0 : encX m0 = liveO := by decide +kernel
theorem file_m0 : fileX [m0] = liveL := by
  unfold fileX
  rw [List.flatMap_cons, enc_m0]
  decide +kernel
theorem live_encode : rows_Encode.f [m0] = some (ba liveL, 0) := by rw [encode_f ranks_m0, if_pos may_m0, file_m0]
theorem live_zero : rows_Encode.f [z30] = some (⟨#[]⟩, 1) := by
  unfold rows_Encode.f
  rw [if_neg (by decide)]
theorem live_one : rows_One.f 5 2 0 300 ⟨#[97]⟩ 4607182418800017408 = some (ba liveO) := by
  have := one_f_ (x := m0) (by decide) (by decide)
  rw [enc_m0] at this; exact this
theorem mayS_m0 : MayS [toS m0] := may_toS ranks_m0 may_m0
theorem body_m0 : headL ++ bodyS [toS m0] = liveL := by
  rw [← file_m0]
  unfold fileX bodyS
  rw [flat_enc [m0] (fun x hx => by obtain rfl := List.mem_singleton.1 hx; exact one_m0)]
  rfl
theorem live_dec {S : ByteArray} (h : S = ba liveL) : decE S = 0 ∧ decM S = [toS m0] := by
  have := decodeX_fwd (S := S) (ms := [toS m0]) (r := []) (by rw [h]; decide) mayS_m0 (by rw [h, List.append_nil, body_m0]; rfl)
  rw [if_pos rfl] at this
  unfold decE decM
  rw [this]; exact ⟨rfl, rfl⟩
theorem live_x {S : ByteArray} (h : S.data.toList = liveL ++ [120]) : decE S = 5 := by
  have hz : S.size = 22 := by rw [← len_size, h]; rfl
  have := decodeX_fwd (S := S) (ms := [toS m0]) (r := [120]) (by omega) mayS_m0 (by rw [h, ← body_m0, List.append_assoc])
  rw [if_neg (by decide)] at this
  unfold decE
  rw [this]
theorem live_version : decE ⟨#[66, 78, 83, 73, 2, 0]⟩ = 8 := by decide +kernel
theorem live_magic : decE ⟨#[66, 78, 83, 88]⟩ = 7 := by decide +kernel
theorem live_none : decE ⟨#[66, 78, 83, 73, 1, 0]⟩ = 0 ∧ decM ⟨#[66, 78, 83, 73, 1, 0]⟩ = [] := by
  have := decodeX_fwd (S := ⟨#[66, 78, 83, 73, 1, 0]⟩) (ms := []) (r := []) (by decide) ⟨rfl, by decide, fun _ h => by cases h⟩ rfl
  rw [if_pos rfl] at this
  unfold decE decM
  rw [this]; exact ⟨rfl, rfl⟩
theorem live_order {S : ByteArray} (h : S.data.toList = [66, 78, 83, 73, 1, 2] ++ (liveO ++ liveO)) : decE S = 12 := by
  have hz : S.size = 36 := by rw [← len_size, h]; rfl
  obtain ⟨hv, h5⟩ := one_verS (S := S) (by rw [h]; rfl)
  have hok : OkM (toS m0) := ok_one (by decide) one_m0
  have he : encM (toS m0) = liveO := by rw [← encX_enc one_m0, enc_m0]
  have hx : (S.extract 5 S.size).data.toList = putL 2 ++ (encM (toS m0) ++ (encM (toS m0) ++ [])) := by
    rw [extract_list, List.take_of_length_le (by rw [List.length_drop, len_size]; omega), h, he]; rfl
  have hS : S.size ≤ 140737488355328 := by omega
  obtain ⟨s1, h1, l1⟩ := numR_fwd (v := 2) (by omega) hx
  have f1 := numR_suf (q := (S.extract 5 S.size, 0)) (Suf.from S 5 h5)
  rw [h1] at f1
  obtain ⟨s2, h2, l2, f2⟩ := moveR_fwd hS f1 hok l1
  obtain ⟨s3, h3, l3, f3⟩ := moveR_fwd hS f2 hok l2
  have hd : decodeX S = .error 12 := by
    unfold decodeX
    rw [hv]
    unfold decodeR
    rw [if_neg (fun hc => hc rfl), if_neg (fun hc => hc rfl), h1]
    dsimp only
    rw [if_neg (fun hc => hc rfl), if_neg (by decide)]
    have hm : movesR S 2 [] (s1, 0) = .error 12 := by
      rw [movesR, h2]
      dsimp only [List.getLast?_nil]
      rw [movesR, h3]
      rfl
    rw [show (((2 : Nat) : Int)).toNat = 2 from rfl, hm]
  unfold decE
  rw [hd]
end Go.Proofs.Ytfcndhajcikgiaa.B
namespace Go.Proofs.Ytfcndhajcikgiaa.B
open Go.RowKit Go.Proofs.Sp Go.Proofs.Fl Go.Proofs.YtfcndhajcikgiaaW.PrintWords Go.Proofs.YtfcndhajcikgiaaW.PrintLast Go.Proofs.YtfcndhajcikgiaaW.PrintMore
theorem one_C {W : World} {B : Nat} (x : S30) (h : W.heap[B]? = some (.cells #[.int .i64 x.f0.f0, .int .i64 x.f0.f1, .int .i64 x.f1, .int .i64 x.f2, .string x.f3, .float .f64 x.f4] 30 (0, 0))) : Kd.C k30 W (some ⟨B, 0, none⟩) [x].length [x] := by
  refine ⟨rfl, (show 1 ≤ 9223372036854775807 by decide), fun _ => ⟨_, rfl, fun j p hj => ?_⟩⟩
  match j, hj with
  | 0, hj =>
    injection hj with hj
    subst hj
    refine ⟨_, rfl, k30_mk W x, fun i u hi => ?_⟩
    have := blk_cell h i
    rw [show (0 * k30.sz + i) = i by omega]
    refine Eq.trans ?_ (this.trans (by simpa using hi))
    by_cases hi0 : i = 0
    · subst hi0; rfl
    · simp [Addr.add, hi0]
theorem cat_step {w W W1 : World} {B : Nat} {o : Obj} {A : Option Addr} {n : Nat} {xs : List S30} (h1 : Below w.heap.size w W) (h2 : W.heap[B]? = some o) (h3 : Kd.C k30 W A n xs) (hb : Below W.heap.size W W1) :
    Below w.heap.size w W1 ∧ W1.heap[B]? = some o ∧ Kd.C k30 W1 A n xs :=
  ⟨h1.trans (hb.mono h1.size), (hb.block B (blk_lt h2)).trans h2, Kd.C_below h3 hb⟩
theorem DecPost.open_ {S : ByteArray} {w w' : World} {e : Ending} (h : DecPost S w e w') {er : Int} (he : decE S = er) :
    ∃ A c xs, e = .returned (.tuple #[.slice A xs.length c, .int .i64 er]) ∧ Kd.C k30 w' A xs.length xs ∧ xs.length ≤ c ∧ xs.map toS = decM S ∧ Ranks xs ∧ Below w.heap.size w w' := by
  subst he; exact h
set_option maxRecDepth 100000 in
set_option maxHeartbeats 4000000 in
theorem live_calls (w : World) : Calls Try.prog 8 #[] w fun e w' => e = .returned (.bool true) ∧ Below w.heap.size w w' := by
  obtain ⟨s, hs⟩ : ∃ s, s = ba liveL := ⟨_, rfl⟩
  have HE1 := Lib.hid (show rows_Encode.f [m0] = some (s, 0) by rw [hs]; exact live_encode)
  have HS := Lib.hid hs
  have HZ1 := Lib.hid (show s.size ≤ 140737488355328 by rw [hs]; decide)
  have HZ2 := Lib.hid (show (⟨#[66, 78, 83, 73, 2, 0]⟩ : ByteArray).size ≤ 140737488355328 by decide)
  have HZ5 := Lib.hid (show (⟨#[66, 78, 83, 73, 1, 0]⟩ : ByteArray).size ≤ 140737488355328 by decide)
  have HZ6 := Lib.hid (show (⟨#[66, 78, 83, 88]⟩ : ByteArray).size ≤ 140737488355328 by decide)
  have HZ3 := Lib.hid (show (s ++ ⟨#[120]⟩).size ≤ 140737488355328 by rw [ByteArray.size_append, hs]; decide)
  clear hs
  have hcat : (9223372036854775807 < s.size + 1) = False := eq_false (by have := HZ1.out; omega)
  go_enter Try.func8, Try.ntmps8
  have HB0 := Lib.hid (heap_alloc_new w (.cells #[.int .i64 5, .int .i64 2, .int .i64 0, .int .i64 300, .string ⟨#[97]⟩, .float .f64 4607182418800017408] 30))
  go_wp2_with (go_at_call 11; refine (rows_Encode.calls (some ⟨w.heap.size, 0, none⟩) 1 [m0] s 0 _ (one_C m0 HB0.out) (by decide) HE1.out).mono ?_; rintro e w1 ⟨rfl, hb⟩; have B1 := Lib.hid ((below_alloc (Below.refl w.heap.size w) (.cells #[.int .i64 5, .int .i64 2, .int .i64 0, .int .i64 300, .string ⟨#[97]⟩, .float .f64 4607182418800017408] 30)).trans (hb.mono (by simp))); have M1 := Lib.hid ((hb.block w.heap.size (by simp)).trans HB0.out); clear hb HB0 HE1)
  go_wp2_with (go_at_call 13; (with_reducible refine (rows_Decode.file s _ HZ1.out).mono ?_); rintro e w2 hd; obtain ⟨A2, c2, xs2, rfl, hC, hcl, hm, hrk, hb⟩ := hd.open_ (live_dec HS.out).1; have B2 := Lib.hid (B1.out.trans (hb.mono B1.out.size)); have M2 := Lib.hid ((hb.block w.heap.size (blk_lt M1.out)).trans M1.out); have C2 := Lib.hid hC; have K2 := Lib.hid (And.intro hcl (And.intro (hm.trans (live_dec HS.out).2) hrk)); clear hd hC hcl hm hrk hb)
  go_wp2_with (go_at_call 13; (with_reducible refine (rows_Decode.file ⟨#[66, 78, 83, 73, 2, 0]⟩ _ HZ2.out).mono ?_); rintro e w3 hd; obtain ⟨A3, c3, xs3, rfl, hC, hcl, hm, hrk, hb⟩ := hd.open_ live_version; have B3 := Lib.hid (B2.out.trans (hb.mono B2.out.size)); have M3 := Lib.hid ((hb.block w.heap.size (blk_lt M2.out)).trans M2.out); have C3 := Lib.hid (Kd.C_below C2.out hb); clear hd hC hcl hm hrk hb)
  go_wp2_with (go_at_call 13; (with_reducible refine (rows_Decode.file (s ++ ⟨#[120]⟩) _ HZ3.out).mono ?_); rintro e w4 hd; obtain ⟨A4, c4, xs4, rfl, hC, hcl, hm, hrk, hb⟩ := hd.open_ (live_x (by rw [HS.out]; rfl)); have B4 := Lib.hid (B3.out.trans (hb.mono B3.out.size)); have M4 := Lib.hid ((hb.block w.heap.size (blk_lt M3.out)).trans M3.out); have C4 := Lib.hid (Kd.C_below C3.out hb); clear hd hC hcl hm hrk hb)
  go_wp2_with (go_at_call 11; refine (rows_Encode.calls (some ⟨w4.heap.size, 0, none⟩) 1 [z30] ⟨#[]⟩ 1 _ (one_C z30 (heap_alloc_new w4 _)) (by decide) live_zero).mono ?_; rintro e w5 ⟨rfl, hb⟩; have hbb : Below w4.heap.size w4 w5 := ((Below.refl _ _).alloc (Nat.le_refl _) _).trans (hb.mono (by simp)); have B5 := Lib.hid (B4.out.trans (hbb.mono B4.out.size)); have M5 := Lib.hid ((hbb.block w.heap.size (blk_lt M4.out)).trans M4.out); have C5 := Lib.hid (Kd.C_below C4.out hbb); obtain ⟨y0, y1, y2, y3, y4, y5⟩ := six_cells M5.out; clear hb hbb)
  obtain ⟨o, ho⟩ : ∃ o, o = ba liveO := ⟨_, rfl⟩
  have HO1 := Lib.hid (show rows_One.f 5 2 0 300 ⟨#[97]⟩ 4607182418800017408 = some o by rw [ho]; exact live_one)
  have HO2 := Lib.hid (show decE (⟨#[66, 78, 83, 73, 1, 2]⟩ ++ o ++ o) = 12 from live_order (by rw [ho]; rfl))
  have hoz : o.size = 15 := by rw [ho]; rfl
  have HZ4 := Lib.hid (show (⟨#[66, 78, 83, 73, 1, 2]⟩ ++ o ++ o).size ≤ 140737488355328 by rw [ByteArray.size_append, ByteArray.size_append, hoz]; decide)
  have hcat2 : (9223372036854775807 < 6 + o.size) = False := eq_false (by omega)
  have hcat3 : (9223372036854775807 < 6 + o.size + o.size) = False := eq_false (by omega)
  clear ho hoz
  go_region_held3 (fun w' => w'.cell? ⟨w.heap.size, 0, none⟩ = some (.int .i64 5) ∧ w'.cell? ⟨w.heap.size, 1, none⟩ = some (.int .i64 2) ∧ w'.cell? ⟨w.heap.size, 2, none⟩ = some (.int .i64 0) ∧ w'.cell? ⟨w.heap.size, 3, none⟩ = some (.int .i64 300) ∧ w'.cell? ⟨w.heap.size, 4, none⟩ = some (.string ⟨#[97]⟩) ∧ w'.cell? ⟨w.heap.size, 5, none⟩ = some (.float .f64 4607182418800017408)) (go_keep) (first | (go_at_call 9; (with_reducible refine (rows_One.calls 5 2 0 300 ⟨#[97]⟩ 4607182418800017408 o _ HO1.out).mono ?_); rintro e wb ⟨rfl, hb⟩; have hq := cat_step B5.out M5.out C5.out ⟨hb.os, hb.tape, hb.output, hb.size, hb.block⟩; clear B5 M5 C5 hb; have B5 := Lib.hid hq.1; have M5 := Lib.hid hq.2.1; have C5 := Lib.hid hq.2.2; clear hq; obtain ⟨u0, u1, u2, u3, u4, u5⟩ := six_cells M5.out) | (go_at_call 13; (with_reducible refine (rows_Decode.file (⟨#[66, 78, 83, 73, 1, 2]⟩ ++ o ++ o) _ HZ4.out).mono ?_); rintro e wb hd; obtain ⟨A6, c6, xs6, rfl, hC, hcl, hm, hrk, hb⟩ := hd.open_ HO2.out; have hq := cat_step B5.out M5.out C5.out ⟨hb.os, hb.tape, hb.output, hb.size, hb.block⟩; clear B5 M5 C5 hb; have B5 := Lib.hid hq.1; have M5 := Lib.hid hq.2.1; have C5 := Lib.hid hq.2.2; clear hq hd hC hcl hm hrk; obtain ⟨u0, u1, u2, u3, u4, u5⟩ := six_cells M5.out))
  clear hcat hcat2 hcat3 HO1 HO2 HZ1 HZ3 HZ4 B1 B2 B3 B4 C2 C3 C4 M1 M2 M3 M4 y0 y1 y2 y3 y4 y5
  go_wp2_with (go_at_call 13; (with_reducible refine (rows_Decode.file ⟨#[66, 78, 83, 73, 1, 0]⟩ _ HZ5.out).mono ?_); rintro e w7 hd; obtain ⟨A7, c7, xs7, rfl, hC, hcl, hm, hrk, hb⟩ := hd.open_ live_none.1; have h7 := List.map_eq_nil_iff.1 (hm.trans live_none.2); subst h7; have hq := cat_step B5.out M5.out C5.out hb; have B7 := Lib.hid hq.1; have M7 := Lib.hid hq.2.1; have C7 := Lib.hid hq.2.2; clear hq hd hC hcl hm hrk hb B5 M5 C5 u0 u1 u2 u3 u4 u5)
  have hseq : (s.toList == [66, 78, 83, 73, 1, 1, 5, 2, 0, 172, 2, 1, 97, 0, 0, 0, 0, 0, 0, 240, 63]) = true := by rw [ba_toList, HS.out]; rfl
  have HSM := Lib.hid (show bonsairef13_Same.f 10 xs2 [m0] = some true from same_f K2.out.2.2 ranks_m0 K2.out.2.1 (by have := congrArg List.length K2.out.2.1; simp at this; omega) 10 (by have := congrArg List.length K2.out.2.1; simp at this; omega))
  go_wp2_with (go_at_call 13; (with_reducible refine (rows_Decode.file ⟨#[66, 78, 83, 88]⟩ _ HZ6.out).mono ?_); rintro e w8 hd; obtain ⟨A8, c8, xs8, rfl, hC, hcl, hm, hrk, hb⟩ := hd.open_ live_magic; have hq := cat_step B7.out M7.out C7.out hb; have B8 := Lib.hid hq.1; have M8 := Lib.hid hq.2.1; have C8 := Lib.hid hq.2.2; clear hq hd hC hcl hm hrk hb B7 M7 C7)
  go_wp2_with (go_at_call 15; refine (bonsairef13_Same.calls 10 A2 c2 xs2 (some ⟨w.heap.size, 0, none⟩) 1 [m0] true _ C8.out K2.out.1 (one_C m0 M8.out) (by decide) HSM.out).mono ?_; rintro e w9 ⟨rfl, hb⟩; have B9 := Lib.hid (B8.out.trans (hb.mono B8.out.size)); clear hb)
  go_ret
  exact ⟨rfl, B9.out⟩
/-- live, in the printed form. -/
def bonsailaw21_live.f : Option Bool := some true
theorem bonsailaw21_live.calls (r : Bool) (w : World) (h : bonsailaw21_live.f = some r) : Calls Try.prog 8 #[] w fun e w' => e = .returned (.bool r) ∧ Below w.heap.size w w' := by
  obtain rfl := Option.some.inj h
  exact live_calls w
end Go.Proofs.Ytfcndhajcikgiaa.B
namespace Go.Proofs.Ytfcndhajcikgiaa.B
open Go.RowKit Go.Proofs.Sp Go.Proofs.Fl Go.Proofs.YtfcndhajcikgiaaW.PrintWords Go.Proofs.YtfcndhajcikgiaaW.PrintLast Go.Proofs.YtfcndhajcikgiaaW.PrintMore
theorem decM_len (S : ByteArray) (hS : S.size ≤ 140737488355328) : (decM S).length ≤ 2000 := by
  unfold decM
  cases h : decodeX S with
  | error e => exact Nat.zero_le _
  | ok ms => exact (decodeX_bwd hS h).1.2.1
/-- What two readings of one file are, are the same. -/
theorem same_dec {S : ByteArray} (hS : S.size ≤ 140737488355328) {xs ys : List S30} (hx : xs.map toS = decM S ∧ Ranks xs) (hy : ys.map toS = decM S ∧ Ranks ys) : bonsairef13_Same.f 3000 xs ys = some true := by
  have hl := decM_len S hS
  have h1 : xs.length = (decM S).length := by rw [← hx.1, List.length_map]
  exact same_f hx.2 hy.2 (hx.1.trans hy.1.symm) (by omega) 3000 (by omega)
set_option maxRecDepth 100000 in
set_option maxHeartbeats 4000000 in
theorem reads_calls (S : ByteArray) (w : World) (hS : S.size ≤ 140737488351232) : Calls Try.prog 4 #[.string S] w fun e w' => e = .returned (.bool true) ∧ Below w.heap.size w w' := by
  go_enter Try.func4, Try.ntmps4
  by_cases h1 : 1000 < S.size
  · have h1' : (1000 : Int) < (S.size : Int) := by omega
    clear h1
    go_wp2_with (go_at_call 8; refine (live_calls _).mono ?_; rintro e w1 ⟨rfl, hb⟩; have B1 := Lib.hid hb; clear hb)
    go_ret
    exact ⟨rfl, B1.out⟩
  · have h1' : (S.size : Int) ≤ 1000 := by omega
    obtain ⟨R, hR⟩ : ∃ R, R = (⟨#[66, 78, 83, 73, 1]⟩ : ByteArray) ++ S := ⟨_, rfl⟩
    have HZ := Lib.hid (show S.size ≤ 140737488355328 by omega)
    have HZ2 := Lib.hid (show ((⟨#[66, 78, 83, 73, 1]⟩ : ByteArray) ++ S).size ≤ 140737488355328 by rw [ByteArray.size_append]; show 5 + S.size ≤ _; omega)
    have hcat : (9223372036854775807 < 5 + S.size) = False := eq_false (by omega)
    clear h1 hR R
    obtain ⟨E1, hE1⟩ : ∃ x, x = decE S := ⟨_, rfl⟩
    obtain ⟨E2, hE2⟩ : ∃ x, x = decE (⟨#[66, 78, 83, 73, 1]⟩ ++ S) := ⟨_, rfl⟩
    have HE1 := Lib.hid hE1.symm
    have HE2 := Lib.hid hE2.symm
    clear hE1 hE2
    go_wp2_with (go_at_call 13; (with_reducible refine (rows_Decode.file S _ HZ.out).mono ?_); rintro e w1 hd; obtain ⟨A1, c1, xs1, rfl, hC, hcl, hm, hrk, hb⟩ := hd.open_ HE1.out; have B1 := Lib.hid hb; have C1 := Lib.hid hC; have K1 := Lib.hid (And.intro hcl (And.intro hm hrk)); clear hd hC hcl hm hrk hb)
    go_wp2_with (go_at_call 14; (with_reducible refine (bonsairef21_Decode.file S _ HZ.out).mono ?_); rintro e w2 hd; obtain ⟨A2, c2, xs2, rfl, hC, hcl, hm, hrk, hb⟩ := hd.open_ HE1.out; have B2 := Lib.hid (B1.out.trans (hb.mono B1.out.size)); have C12 := Lib.hid (Kd.C_below C1.out hb); have C2 := Lib.hid hC; have K2 := Lib.hid (And.intro hcl (And.intro hm hrk)); clear hd hC hcl hm hrk hb B1 C1)
    go_wp2_with (go_at_call 13; (with_reducible refine (rows_Decode.file (⟨#[66, 78, 83, 73, 1]⟩ ++ S) _ HZ2.out).mono ?_); rintro e w3 hd; obtain ⟨A3, c3, xs3, rfl, hC, hcl, hm, hrk, hb⟩ := hd.open_ HE2.out; have B3 := Lib.hid (B2.out.trans (hb.mono B2.out.size)); have C13 := Lib.hid (Kd.C_below C12.out hb); have C23 := Lib.hid (Kd.C_below C2.out hb); have C3 := Lib.hid hC; have K3 := Lib.hid (And.intro hcl (And.intro hm hrk)); clear hd hC hcl hm hrk hb B2 C12 C2)
    go_wp2_with (go_at_call 14; (with_reducible refine (bonsairef21_Decode.file (⟨#[66, 78, 83, 73, 1]⟩ ++ S) _ HZ2.out).mono ?_); rintro e w4 hd; obtain ⟨A4, c4, xs4, rfl, hC, hcl, hm, hrk, hb⟩ := hd.open_ HE2.out; have B4 := Lib.hid (B3.out.trans (hb.mono B3.out.size)); have C14 := Lib.hid (Kd.C_below C13.out hb); have C24 := Lib.hid (Kd.C_below C23.out hb); have C34 := Lib.hid (Kd.C_below C3.out hb); have C4 := Lib.hid hC; have K4 := Lib.hid (And.intro hcl (And.intro hm hrk)); clear hd hC hcl hm hrk hb B3 C13 C23 C3)
    have S1 := Lib.hid (same_dec HZ.out K1.out.2 K2.out.2)
    have S2 := Lib.hid (same_dec HZ2.out K3.out.2 K4.out.2)
    go_wp2_with (go_at_call 15; (with_reducible refine (bonsairef13_Same.calls 3000 A1 c1 xs1 A2 c2 xs2 true _ C14.out K1.out.1 C24.out K2.out.1 S1.out).mono ?_); rintro e w5 ⟨rfl, hb⟩; have B5 := Lib.hid (B4.out.trans (hb.mono B4.out.size)); have C35 := Lib.hid (Kd.C_below C34.out hb); have C45 := Lib.hid (Kd.C_below C4.out hb); clear hb C34 C4 C14 C24 S1)
    go_wp2_with (go_at_call 15; (with_reducible refine (bonsairef13_Same.calls 3000 A3 c3 xs3 A4 c4 xs4 true _ C35.out K3.out.1 C45.out K4.out.1 S2.out).mono ?_); rintro e w6 ⟨rfl, hb⟩; have B6 := Lib.hid (B5.out.trans (hb.mono B5.out.size)); clear hb)
    go_wp2_with (go_at_call 8; refine (live_calls _).mono ?_; rintro e w7 ⟨rfl, hb⟩; have B7 := Lib.hid (B6.out.trans (hb.mono B6.out.size)); clear hb)
    go_ret
    exact ⟨rfl, B7.out⟩
end Go.Proofs.Ytfcndhajcikgiaa.B
namespace Go.Proofs.Ytfcndhajcikgiaa.rowsReads
open Go.ChangeShapes Go.WideShapes Go.ChangeAt Go.RowKit Go.Proofs.Ytfcndhajcikgiaa.B
open Go.ChangeMaps (open_string shut_string)
theorem own : ownKnob Try.prog.godebug = none := by kernel_rfl
theorem laidOut : laidOutB Try.prog = true := by kernel_rfl
set_option maxRecDepth 100000 in
theorem lifted (os : Os) (started : os.Started) (H : Type) (enc : TypeId × Value → H) :
    ReturnsInHanded {} Try.checked os 4 .any (Rows.rowsReadsSpec.pre6 enc Try.prog Try.f4 Rows.rowsReadsRow.domain false) (Rows.rowsReadsSpec.post enc Try.prog Try.f4 false true false false) := by
  refine returnsInHanded_of_change_sized (C := Try.checked) own started (by kernel_rfl) Try.func4
    (ChangeSpec.witness6 (enc := enc) (C := Try.checked) false ⟨#[], #[.string ByteArray.empty], []⟩ 8 (by kernel_rfl) (by kernel_rfl) (by kernel_rfl) (by kernel_rfl)) ?_
  intro W base args ds gs before hval0 hW hcnd hsz0 _
  have hsz : (DataW.weightsEach Try.prog (Try.f4.params.toList ++ Rows.rowsReadsSpec.plain.varTypes Try.prog) (ds ++ gs)).all (· ≤ reachBytes) = true := hsz0
  have hval : ∀ (j : Nat) t v, Try.f4.params[j]? = some t → args[j]? = some v → Value.okWide Try.prog W .any base t v := hval0
  have hW' := hW
  obtain ⟨p, q, hA0, hV, rfl, hfz, hnd⟩ := hW
  have hA : DataW.TrodAll enc Try.prog W 0 (fun _ => true) true Try.f4.params.toList args.toList ds p := hA0
  rw [Try.params4] at hA hval hsz
  obtain ⟨v0, vs0, d0, ds0, p0, q0, hargs, rfl, rfl, h0, r0⟩ := trodAll_cons hA
  obtain ⟨rfl, rfl, rfl⟩ := trodAll_nil r0
  obtain rfl : args = #[v0] := by cases args; simp_all
  obtain ⟨rfl, rfl⟩ := trodVars_none hV
  obtain ⟨a0, rfl, rfl, rfl, y0⟩ := open_string Try.underlying9 (hval 0 9 v0 rfl rfl) h0
  have w0 : a0.size ≤ 140737488351232 := by
    have z := sized_string hsz (j := 0) (t := 9) rfl rfl
    rw [Array.length_toList] at z
    exact z
  clear hA0 hval0 hsz0 hsz
  refine (reads_calls a0 W w0).mono fun e W' ⟨he, bel⟩ => ?_
  subst he
  exact ⟨_, rfl, _, _, _, [], _, [], hW', trodAll_mk1 (shut_bool Try.underlying4 _), (trodAll_cons_mk (shut_string Try.underlying9 y0) trodAll_mk0), rfl, bel.frame _, fun h => by cases h⟩
theorem over : Rows.rowsReadsRow.holds Try.pinned (OpenSpec.ofChange Rows.rowsReadsSpec) :=
  OpenClaim.holds_of_wide 4 Try.f4 rfl rfl rfl rfl rfl rfl rfl ⟨rfl, rfl, rfl, rfl, rfl⟩ rfl rfl rfl rfl rfl (by kernel_rfl) Try.func4 (by kernel_rfl)
    (of_decide_eq_true (by kernel_rfl)) (by unfold Func.isWrapper; first | (rw [if_pos (by decide +kernel)]; kernel_rfl) | (rw [if_neg (by decide +kernel)]; exact ⟨rfl, rfl⟩))
    (fun os started H enc _ => lifted os started H enc)
end Go.Proofs.Ytfcndhajcikgiaa.rowsReads
namespace Go.Proofs.Ytfcndhajcikgiaa
/-- The row, under a short name, for the claim. -/
theorem rowsReads_holds : Rows.RowsReadsSaid := rowsReads.over
#print axioms rowsReads_holds
end Go.Proofs.Ytfcndhajcikgiaa
