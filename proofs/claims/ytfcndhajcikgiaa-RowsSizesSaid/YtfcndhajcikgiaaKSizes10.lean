/- RowsSizes: for every input the law returns true, and the input reads behind the call as it read before. (Part 10 of 10.) -/
import Derived.Test.YtfcndhajcikgiaaKSizes9
import Derived.Test.YtfcndhajcikgiaaRows
set_option linter.unusedVariables false
set_option linter.unusedSimpArgs false
namespace Go.Proofs.Ytfcndhajcikgiaa.B
open Go.RowKit Go.Proofs.Sp Go.Proofs.Fl Go.Proofs.YtfcndhajcikgiaaW.PrintWords Go.Proofs.YtfcndhajcikgiaaW.PrintLast Go.Proofs.YtfcndhajcikgiaaW.PrintMore
theorem DecodeOf.ok {w w' : World} {m : Except Int (List MoveS)} {ms : List MoveS} {xs : List S30} {v : Value} (h : m = .ok ms) (hl : LikeL ms xs) (hr : Kd.R k30 30 w' w.heap.size (fun _ => True) v xs) (hb : Below w.heap.size w w') : DecodeOf w m (.returned (.tuple #[v, .int .i64 0])) w' := by subst h; exact ⟨⟨v, xs, rfl, hr, hl⟩, hb⟩
/-- Between two moves. -/
def DecAt (w W : World) (h g : Nat) (S : ByteArray) (nn : Int) (ns : ByteArray) (ne : Int) (i : Nat) (acc : List MoveS) (xs : List S30) (s : ByteArray) (e : Int) (lv : Value) : Prop :=
  movesR S nn.toNat [] (ns, ne) = movesR S (nn.toNat - i) acc (s, e) ∧ LikeL acc xs ∧ acc.length = i ∧ Kd.R k30 30 W w.heap.size (fun k => k ≠ g ∧ k ≠ h) lv xs ∧ IsRows w W h g S s e ∧ Below w.heap.size w W
theorem DecodeOf.err {w w' : World} {m : Except Int (List MoveS)} {er : Int} (h : m = .error er) (hb : Below w.heap.size w w') : DecodeOf w m (.returned (.tuple #[.slice none 0 0, .int .i64 er])) w' := by subst h; exact ⟨rfl, hb⟩
theorem IsRows.lt_h {w0 W : World} {h g : Nat} {S s : ByteArray} {er : Int} (hi : IsRows w0 W h g S s er) : h < W.heap.size := blk_lt hi.1
theorem IsRows.lt_g {w0 W : World} {h g : Nat} {S s : ByteArray} {er : Int} (hi : IsRows w0 W h g S s er) : g < W.heap.size := hi.2.2.2.lt
theorem IsRows.grown {w0 W w1 : World} {h g : Nat} {S s : ByteArray} {er : Int} {row : Option Nat} (hi : IsRows w0 W h g S s er) (hg : W.grownBy w1 row) (h1 : some h ≠ row) (h2 : some g ≠ row) : IsRows w0 w1 h g S s er :=
  ⟨(hg.block h (blk_lt hi.1) h1).trans hi.1, hi.2.1, hi.2.2.1, (hg.block g hi.2.2.2.lt h2).trans hi.2.2.2.1, hi.2.2.2.2⟩
theorem IsRows.drew {w0 W : World} {h g : Nat} {S s : ByteArray} {er : Int} (hi : IsRows w0 W h g S s er) : IsRows w0 W.drew h g S s er := hi
theorem IsRows.below {w0 W w1 : World} {h g : Nat} {S s : ByteArray} {er : Int} (hi : IsRows w0 W h g S s er) (hb : Below W.heap.size W w1) : IsRows w0 w1 h g S s er :=
  ⟨(hb.block h (blk_lt hi.1)).trans hi.1, hi.2.1, hi.2.2.1, (hb.block g hi.2.2.2.lt).trans hi.2.2.2.1, hi.2.2.2.2⟩
theorem LikeL.at_ : ∀ {ms : List MoveS} {xs : List S30}, LikeL ms xs → ∀ (j : Nat) (h : j < ms.length), LikeM ms[j] (xs.getD j z30)
  | [], [], _, _, h => absurd h (Nat.not_lt_zero _)
  | a :: r, x :: t, h, 0, _ => h.1
  | a :: r, x :: t, h, j + 1, hj => LikeL.at_ (ms := r) (xs := t) h.2 j (Nat.lt_of_succ_lt_succ hj)
  | [], _ :: _, h, _, _ => h.elim
  | _ :: _, [], h, _, _ => h.elim
theorem LikeL.last {ms : List MoveS} {xs : List S30} (h : LikeL ms xs) (hl : 0 < ms.length) {J : Int} (hJ : J = (ms.length : Int) - 1) : ∃ a, ms.getLast? = some a ∧ (rd_T30 xs J).f0.f0 = a.c ∧ (rd_T30 xs J).f0.f1 = a.r := by
  have hj : ms.length - 1 < ms.length := by omega
  have h2 := h.at_ (ms.length - 1) hj
  refine ⟨ms[ms.length - 1], by rw [List.getLast?_eq_getElem?, List.getElem?_eq_getElem hj], ?_, ?_⟩
  · unfold rd_T30; rw [show J.toNat = ms.length - 1 by omega]; exact h2.1
  · unfold rd_T30; rw [show J.toNat = ms.length - 1 by omega]; exact h2.2.1
theorem six_cells {W : World} {B : Nat} {c0 c1 c2 c3 c4 c5 : Value} {t : TypeId} (h : W.heap[B]? = some (.cells #[c0, c1, c2, c3, c4, c5] t (0, 0))) :
    W.cell? ⟨B, 0, none⟩ = some c0 ∧ W.cell? ⟨B, 1, none⟩ = some c1 ∧ W.cell? ⟨B, 2, none⟩ = some c2 ∧ W.cell? ⟨B, 3, none⟩ = some c3 ∧ W.cell? ⟨B, 4, none⟩ = some c4 ∧ W.cell? ⟨B, 5, none⟩ = some c5 :=
  ⟨(blk_cell h 0).trans rfl, (blk_cell h 1).trans rfl, (blk_cell h 2).trans rfl, (blk_cell h 3).trans rfl, (blk_cell h 4).trans rfl, (blk_cell h 5).trans rfl⟩
/-- One move more. -/
theorem DecAt.next {w W w1 : World} {h g : Nat} {S : ByteArray} {nn : Int} {ns : ByteArray} {ne : Int} {i : Nat} {acc : List MoveS} {xs : List S30} {lv v1 : Value} {x : MoveS} {y : S30} {q2 : ByteArray × Int} {k : Nat}
    (hd : LikeL acc xs) (hl : acc.length = i) (hk : nn.toNat - i = k + 1) (hst : movesR S nn.toNat [] (ns, ne) = movesR S k (acc ++ [x]) q2) (hxy : LikeM x y) (hI : IsRows w W h g S q2.1 q2.2)
    (hL : Kd.R k30 30 W w.heap.size (fun k => k ≠ g ∧ k ≠ h) lv xs)
    (ho : Kd.R k30 30 w1 w.heap.size (fun k => k ≠ g ∧ k ≠ h) v1 (xs ++ [y])) (hb : Below w.heap.size w w1) (hg : W.grownBy w1 lv.ownBlock) :
    DecAt w w1 h g S nn ns ne (i + 1) (acc ++ [x]) (xs ++ [y]) q2.1 q2.2 v1 :=
  ⟨by rw [hst, show nn.toNat - (i + 1) = k by omega], hd.snoc hxy, by simp [hl], ho, hI.grown hg (fun e => (hL.1 h e.symm).2 rfl) (fun e => (hL.1 g e.symm).1 rfl), hb⟩
set_option maxRecDepth 100000 in
set_option maxHeartbeats 4000000 in
theorem rows_Decode.calls (S : ByteArray) (v ve : Int) (w : World) (hS : S.size ≤ 9223372036854775807) (hv : chunk_Version.f S = some (v, ve)) (h5 : ve = 0 → v = 1 → 5 ≤ S.size) :
    Calls Try.prog 13 #[.string S] w fun e w' => DecodeOf w (decodeR S v ve) e w' := by
  have HV := Lib.hid hv
  clear hv
  obtain ⟨m, hm⟩ : ∃ m, m = decodeR S v ve := ⟨_, rfl⟩
  rw [← hm]
  have HM := Lib.hid hm
  clear hm
  go_enter Try.func13, Try.ntmps13
  by_cases c1 : ve = 0
  · by_cases c2 : v = 1
    · have h5' := h5 c1 c2
      have h6 : (5 : Int) ≤ (S.size : Int) := by omega
      go_wp2_with (first
        | (go_at_call 17; refine (chunk_Version.calls S _ _ _ HV.out).mono ?_; rintro e w1 ⟨rfl, hb⟩; have B1 := Lib.hid hb.below; clear hb)
        | (go_at_call 29; refine (pack_New.calls _ _ _ w _ B1.out rfl).mono ?_; rintro e w2 ⟨g, rfl, hq1, hq2, hq3⟩; have I2 := Lib.hid hq1; have B2 := Lib.hid (below_alloc hq2 (.cells #[.pointer (some ⟨g, 0, none⟩), .string S] 60)); have R2 := Lib.hid (show IsRows w (w2.alloc (.cells #[.pointer (some ⟨g, 0, none⟩), .string S] 60)) w2.heap.size g S (S.extract 5 S.size) 0 from ⟨heap_alloc_new w2 _, hq2.size, (by have := hq1.lt; omega), hq1.alloc _⟩); clear hq1 hq2 hq3))
      obtain ⟨nv, hnv⟩ : ∃ n, n = numR (S.extract 5 S.size, 0) := ⟨_, rfl⟩
      have HN := Lib.hid (num_f (S.extract 5 S.size) 0)
      rw [← hnv] at HN
      have HNV := Lib.hid hnv
      clear hnv
      obtain ⟨nn, ns, ne⟩ := nv
      go_wp2_with (go_at_call 30; refine (pack_Reader_Num.calls g _ _ _ _ _ w _ R2.out.2.2.2 B2.out HN.out).mono ?_; rintro e w3 ⟨rfl, h1, h2, h3⟩; have R3 := Lib.hid (R2.out.keep h1 h3); have B3 := Lib.hid h2; have c03 := R3.out.c0; clear h1 h2 h3)
      have hm : m = if ne ≠ 0 then .error ne else if 2000 < nn then .error 10 else match movesR S nn.toNat [] (ns, ne) with
          | .error e => .error e
          | .ok (ms, q) => if doneR q.1 q.2 ≠ 0 then .error (doneR q.1 q.2) else .ok ms := by
        rw [HM.out]; unfold decodeR; rw [if_neg (by simpa using c1), if_neg (by simpa using c2), ← HNV.out]; rfl
      have HMM := Lib.hid hm
      clear hm
      by_cases c3 : ne = 0
      · by_cases c4 : 2000 < nn
        · have HE := Lib.hid (show m = .error 10 by have := HMM.out; rw [if_neg (by simpa using c3), if_pos c4] at this; exact this)
          go_wp2_with (go_at_call 31; refine (pack_Reader_Err.calls g ns ne _ _ _ w _ R3.out.2.2.2 B3.out (err_f ns ne)).mono ?_; rintro e w4 ⟨rfl, h1, h2, h3⟩; have R4 := Lib.hid (R3.out.keep h1 h3); have B4 := Lib.hid h2; have c04 := R4.out.c0; clear h1 h2 h3)
          go_ret2
          exact DecodeOf.err HE.out B4.out
        · have hE := HMM.out
          rw [if_neg (by simpa using c3), if_neg c4] at hE
          have HE := Lib.hid hE
          clear hE
          have h0n : (0 : Int) ≤ nn := by have := numR_nonneg (S.extract 5 S.size, 0); rw [← HNV.out] at this; exact this
          have hn2 : nn ≤ 2000 := by omega
          go_wp2_with (go_at_call 31; refine (pack_Reader_Err.calls g ns ne _ _ _ w _ R3.out.2.2.2 B3.out (err_f ns ne)).mono ?_; rintro e w4 ⟨rfl, h1, h2, h3⟩; have R4 := Lib.hid (R3.out.keep h1 h3); have B4 := Lib.hid h2; have c04 := R4.out.c0; clear h1 h2 h3)
          obtain ⟨H, hH⟩ : ∃ H, H = w2.heap.size := ⟨_, rfl⟩
          rw [← hH] at R4 c04 ⊢
          clear R2 R3 B2 B3 hH HM HMM
          go_loopw [9, 51] (fun lv iv wr => ∃ (i : Nat) (acc : List MoveS) (xs : List S30) (s : ByteArray) (e : Int), iv = .int .i64 i ∧ (i : Int) ≤ nn ∧ DecAt w wr H g S nn ns ne i acc xs s e lv) (fun _ iv _ => (nn - intOf iv).toNat)
          case atStart => exact ⟨0, [], [], ns, ne, rfl, h0n, rfl, trivial, rfl, Kd.R_nil _ _ _ _ _, R4.out, B4.out⟩
          case round =>
            obtain ⟨i, acc, xs, s, e, rfl, hin, hd⟩ := hrel
            have HD := Lib.hid hd
            clear hd
            by_cases hlt : (i : Int) < nn
            · obtain ⟨k, hk⟩ : ∃ k, nn.toNat - i = k + 1 := ⟨nn.toNat - i - 1, by omega⟩
              have hstep := HD.out.1
              rw [hk, movesR] at hstep
              have hcs := moveR_cases S (s, e)
              rcases hcs with ⟨x, q2, hx⟩ | ⟨er, q2, her, hx⟩
              · rw [hx] at hstep
                have HX := Lib.hid hx
                have HST := Lib.hid hstep
                clear hx hstep
                by_cases hi0 : i = 0
                · go_wp2_with (go_at_call 32; refine (rows_move.calls H g S s e w _ hS HD.out.2.2.2.2.1 HD.out.2.2.2.2.2).mono ?_; rintro e5 w5 h; rw [HX.out] at h; obtain ⟨⟨y, hy, rfl⟩, h1, h2, h3⟩ := h; have HY := Lib.hid hy; have R5 := Lib.hid h1; have B5 := Lib.hid h2; have L5 := Lib.hid (Kd.R_keep HD.out.2.2.2.1 h3 (fun _ hk => hk.1)); clear hy h1 h2 h3)
                  go_region
                  have HIL := Lib.hid (show (xs.length + 1) * 56 ≤ 140737488355328 by have h1 := HD.out.2.1.length; have h2 := HD.out.2.2.1; omega)
                  have HGL := Lib.hid (show g < w5.heap.size ∧ H < w5.heap.size from ⟨R5.out.lt_g, R5.out.lt_h⟩)
                  go_wp2_with (first | ((with_reducible refine gate_builtin (b := .append) (xs := #[.tmp 78, .tmp 80]) rfl ?_); at_builtin; (rw [show ∀ (W : World) (o : Obj), (W.alloc o).drew = W.drew.alloc o from fun _ _ => rfl]; refine Kd.R_append k30 (w0 := w) w.heap.size rfl (.tmp 78) (.tmp 80) 22 30 _ 56 rfl Try.underlying22 info30 rfl (by decide) (by decide) u9 xs (⟨⟨x.c, x.r⟩, x.p, x.ch, x.name, y⟩ : S30) [.int .i64 x.c, .int .i64 x.r, .int .i64 x.p, .int .i64 x.ch, .string x.name, .float .f64 y] (fun k => k ≠ g ∧ k ≠ H) (fun _ => False) rfl ?aX ?aP (fun _ hk => hk.elim) ?aF ?aO ?aB ?aS ?aL ?_; (case aX => show Value.slice (some ⟨w5.heap.size + 1, 0, none⟩) 1 1 = _; simp); (case aP => exact k30_mkM _ _ _ _); (case aF => exact (fun k hk => by have h1 := HGL.out; have h2 : w5.heap.size ≤ k := Nat.le_trans (by simp) hk; omega)); (case aO => exact Kd.R_drew (Kd.R_alloc L5.out _)); (case aB => exact below_drew1 (below_alloc B5.out _)); (case aS => exact Nat.le_trans B5.out.size (by simp)); (case aL => exact HIL.out); intro v116 w6 ho hb hg hat)))
                  have HST2 := Lib.hid (show movesR S nn.toNat [] (ns, ne) = movesR S k (acc ++ [x]) q2 by
                    have h1 := HST.out; rw [show acc = [] from List.length_eq_zero_iff.1 (HD.out.2.2.1.trans hi0)] at h1 ⊢; exact h1)
                  have HN := Lib.hid (DecAt.next (v1 := v116) HD.out.2.1 HD.out.2.2.1 hk HST2.out (⟨rfl, rfl, rfl, rfl, rfl, HY.out⟩ : LikeM x ⟨⟨x.c, x.r⟩, x.p, x.ch, x.name, y⟩) (IsRows.drew (R5.out.alloc _)) (Kd.R_drew (Kd.R_alloc L5.out _)) ho hb hg)
                  clear ho hb hg hat
                  go_wp2
                  go_roundw
                  case rel => exact ⟨i + 1, _, _, _, _, by go_num, by omega, HN.out⟩
                  case measure => simp [intOf]; omega
                · obtain ⟨A, cc, hu9, -, -⟩ := Kd.R_reads HD.out.2.2.2.1
                  subst hu9
                  obtain ⟨I, hI⟩ : ∃ I : Int, I = (i : Int) := ⟨_, rfl⟩
                  obtain ⟨J, hJ⟩ : ∃ J : Int, J = I - 1 := ⟨_, rfl⟩
                  obtain ⟨a, ha1, ha2, ha3⟩ := HD.out.2.1.last (by rw [HD.out.2.2.1]; omega) (J := J) (by rw [HD.out.2.2.1]; omega)
                  have hst := HST.out
                  rw [ha1] at hst
                  replace hst : movesR S nn.toNat [] (ns, ne) = if beforeB a.c a.r x.c x.r then movesR S k (acc ++ [x]) q2 else .error 12 := hst
                  have hxl : xs.length = i := by rw [← HD.out.2.1.length]; exact HD.out.2.2.1
                  rw [← hI] at hin hlt ⊢
                  have hj1 : IntKind.i64.wrap (I - 1) = J := by rw [i64_w, w64 (by omega) (by omega)]; exact hJ.symm
                  have hj2 : (0 : Int) ≤ J := by omega
                  have hj3 : J < (xs.length : Int) := by omega
                  have hj4 : (0 : Int) < I := by omega
                  have hj5 : I ≤ 2000 := by omega
                  have HI := Lib.hid (And.intro hI hxl)
                  have HA := Lib.hid ha2
                  have HA2 := Lib.hid ha3
                  have HS2 := Lib.hid hst
                  clear hI hJ ha1 ha2 ha3 hst HST hxl
                  go_wp2_with (go_at_call 32; refine (rows_move.calls H g S s e w _ hS HD.out.2.2.2.2.1 HD.out.2.2.2.2.2).mono ?_; rintro e5 w5 h; rw [HX.out] at h; obtain ⟨⟨y, hy, rfl⟩, h1, h2, h3⟩ := h; have HY := Lib.hid hy; have R5 := Lib.hid h1; have B5 := Lib.hid h2; have L5 := Lib.hid (Kd.R_keep HD.out.2.2.2.1 h3 (fun _ hk => hk.1)); clear hy h1 h2 h3)
                  obtain ⟨X, hX⟩ : ∃ X, X = w5.alloc (.cells #[.int .i64 x.c, .int .i64 x.r, .int .i64 x.p, .int .i64 x.ch, .string x.name, .float .f64 y] 30) := ⟨_, rfl⟩
                  have LX := Lib.hid (Kd.R_alloc L5.out (.cells #[.int .i64 x.c, .int .i64 x.r, .int .i64 x.p, .int .i64 x.ch, .string x.name, .float .f64 y] 30))
                  have RX := Lib.hid (R5.out.alloc (.cells #[.int .i64 x.c, .int .i64 x.r, .int .i64 x.p, .int .i64 x.ch, .string x.name, .float .f64 y] 30))
                  have BX := Lib.hid (below_alloc B5.out (.cells #[.int .i64 x.c, .int .i64 x.r, .int .i64 x.p, .int .i64 x.ch, .string x.name, .float .f64 y] 30))
                  have MX := Lib.hid (heap_alloc_new w5 (.cells #[.int .i64 x.c, .int .i64 x.r, .int .i64 x.p, .int .i64 x.ch, .string x.name, .float .f64 y] 30))
                  rw [← hX] at LX RX BX MX ⊢
                  obtain ⟨B, hB⟩ : ∃ B, B = w5.heap.size := ⟨_, rfl⟩
                  rw [← hB] at MX ⊢
                  clear hX hB L5 R5 B5
                  obtain ⟨ad, hA, x0, x1, -, -, -, -⟩ := at_T30 (Kd.R_reads' LX.out).2.2 J hj2 hj3
                  subst hA
                  rw [HA.out] at x0
                  rw [HA2.out] at x1
                  obtain ⟨y0, y1, y2, y3, y4, y5⟩ := six_cells MX.out
                  cases hbf : beforeB a.c a.r x.c x.r with
                  | false =>
                    have HBF := Lib.hid (show rank_Before.f a.c a.r x.c x.r = some false by unfold rank_Before.f; rw [hbf])
                    have HF := Lib.hid (show m = .error 12 by have := HE.out; rw [HS2.out, hbf] at this; exact this)
                    clear hbf
                    go_region_held3 (fun w' => w'.cell? (ad.add (J.toNat * 6)) = some (.int .i64 a.c) ∧ w'.cell? ⟨(ad.add (J.toNat * 6)).block, (ad.add (J.toNat * 6)).off + 1, none⟩ = some (.int .i64 a.r) ∧ w'.cell? ⟨B, 0, none⟩ = some (.int .i64 x.c) ∧ w'.cell? ⟨B, 1, none⟩ = some (.int .i64 x.r)) (go_keep) (first | (go_at_call 33; refine (rank_Before.calls a.c a.r x.c x.r false _ HBF.out).mono ?_; rintro e wb ⟨rfl, hb⟩; have HB2 := Lib.hid (show Below X.heap.size X wb from ⟨hb.os, hb.tape, hb.output, hb.size, hb.block⟩); have HC := Lib.hid (fun (p : Addr) (v : Value) (hp : X.cell? p = some v) => (HB2.out.cell (World.block_lt_of_cell? X _ hp)).trans hp); have u0 := HC.out _ _ x0; have u1 := HC.out _ _ x1; have u2 := HC.out _ _ y0; have u3 := HC.out _ _ y1; clear hb))
                    all_goals go_wp2
                    all_goals go_ret2
                    all_goals exact DecodeOf.err HF.out (BX.out.trans (HB2.out.mono BX.out.size))
                  | true =>
                    have HBF := Lib.hid (show rank_Before.f a.c a.r x.c x.r = some true by unfold rank_Before.f; rw [hbf])
                    have HF := Lib.hid (show movesR S nn.toNat [] (ns, ne) = movesR S k (acc ++ [x]) q2 by rw [HS2.out, hbf]; rfl)
                    clear hbf
                    go_region_held3 (fun w' => w'.cell? (ad.add (J.toNat * 6)) = some (.int .i64 a.c) ∧ w'.cell? ⟨(ad.add (J.toNat * 6)).block, (ad.add (J.toNat * 6)).off + 1, none⟩ = some (.int .i64 a.r) ∧ w'.cell? ⟨B, 0, none⟩ = some (.int .i64 x.c) ∧ w'.cell? ⟨B, 1, none⟩ = some (.int .i64 x.r)) (go_keep) (first | (go_at_call 33; refine (rank_Before.calls a.c a.r x.c x.r true _ HBF.out).mono ?_; rintro e wb ⟨rfl, hb⟩; have HB2 := Lib.hid (show Below X.heap.size X wb from ⟨hb.os, hb.tape, hb.output, hb.size, hb.block⟩); have HC := Lib.hid (fun (p : Addr) (v : Value) (hp : X.cell? p = some v) => (HB2.out.cell (World.block_lt_of_cell? X _ hp)).trans hp); have u0 := HC.out _ _ x0; have u1 := HC.out _ _ x1; have u2 := HC.out _ _ y0; have u3 := HC.out _ _ y1; have u4 := HC.out _ _ y2; have u5 := HC.out _ _ y3; have u6 := HC.out _ _ y4; have u7 := HC.out _ _ y5; clear hb))
                    all_goals clear x0 x1 y0 y1 y2 y3 y4 y5 u0 u1 hj1 hj2 hj3 HS2 HBF HC HA HA2
                    have HIL := Lib.hid (show (xs.length + 1) * 56 ≤ 140737488355328 by have := HI.out; omega)
                    have RB := Lib.hid (RX.out.below HB2.out)
                    have LB := Lib.hid (Kd.R_below LX.out HB2.out)
                    have BB := Lib.hid (BX.out.trans (HB2.out.mono BX.out.size))
                    have HGL := Lib.hid (show g < wb.heap.size ∧ H < wb.heap.size from ⟨RB.out.lt_g, RB.out.lt_h⟩)
                    have HAC := Lib.hid (show acc.length = i from HD.out.2.2.1)
                    have HLK := Lib.hid (show LikeL acc xs from HD.out.2.1)
                    clear LX RX BX MX HB2 HD HX c04 R4 B4 HN HNV HV I2
                    go_wp2_with (first | ((with_reducible refine gate_builtin (b := .append) (xs := #[.tmp 78, .tmp 80]) rfl ?_); at_builtin; (refine Kd.R_append k30 (w0 := w) w.heap.size rfl (.tmp 78) (.tmp 80) 22 30 _ 56 rfl Try.underlying22 info30 rfl (by decide) (by decide) (.slice (some ad) xs.length cc) xs (⟨⟨x.c, x.r⟩, x.p, x.ch, x.name, y⟩ : S30) [.int .i64 x.c, .int .i64 x.r, .int .i64 x.p, .int .i64 x.ch, .string x.name, .float .f64 y] (fun k => k ≠ g ∧ k ≠ H) (fun _ => False) rfl rfl ?aP (fun _ hk => hk.elim) ?aF ?aO ?aB ?aS ?aL ?_; (case aP => exact k30_mkM _ _ _ _); (case aF => exact (fun k hk => by have h1 := HGL.out; omega)); (case aO => exact LB.out); (case aB => exact BB.out); (case aS => exact BB.out.size); (case aL => exact HIL.out); intro v116 w6 ho hb hg hat)))
                    have HN := Lib.hid (DecAt.next (v1 := v116) HLK.out HAC.out hk HF.out (⟨rfl, rfl, rfl, rfl, rfl, HY.out⟩ : LikeM x ⟨⟨x.c, x.r⟩, x.p, x.ch, x.name, y⟩) RB.out LB.out ho hb hg)
                    clear ho hb hg hat
                    go_wp2
                    go_roundw
                    case rel => exact ⟨i + 1, _, _, _, _, by rw [HI.out.1]; go_num, by have := HI.out.1; omega, HN.out⟩
                    case measure => simp [intOf]; omega
              · rw [hx] at hstep
                have HF := Lib.hid (show m = .error er by have := HE.out; rw [hstep] at this; exact this)
                have HX := Lib.hid hx
                clear hx hstep
                go_wp2_with (go_at_call 32; refine (rows_move.calls H g S s e w _ hS HD.out.2.2.2.2.1 HD.out.2.2.2.2.2).mono ?_; rintro e5 w5 h; rw [HX.out] at h; obtain ⟨h0, h1, h2, h3⟩ := h; replace h0 : e5 = .returned (.tuple #[.agg #[.int .i64 0, .int .i64 0, .int .i64 0, .int .i64 0, .string ⟨#[]⟩, .float .f64 0], .int .i64 er]) := h0; subst h0; have B5 := Lib.hid h2; clear h1 h2 h3)
                go_ret2
                exact DecodeOf.err HF.out (below_alloc B5.out _)
            · have hend : movesR S nn.toNat [] (ns, ne) = .ok (acc, (s, e)) := by
                rw [HD.out.1, show nn.toNat - i = 0 by omega]; rfl
              have hm5 := HE.out
              rw [hend] at hm5
              replace hm5 : m = if doneR s e ≠ 0 then .error (doneR s e) else .ok acc := hm5
              have HM5 := Lib.hid hm5
              clear hend hm5
              have c0r := HD.out.2.2.2.2.1.c0
              obtain ⟨dn, hdn⟩ : ∃ d, d = doneR s e := ⟨_, rfl⟩
              have HDN := Lib.hid hdn.symm
              clear hdn
              by_cases c6 : dn = 0
              · have HF := Lib.hid (show m = .ok acc by have := HM5.out; rw [if_neg (by rw [HDN.out]; simpa using c6)] at this; exact this)
                go_wp2_with (go_at_call 34; refine (pack_Done.calls g s e w _ HD.out.2.2.2.2.1.2.2.2 HD.out.2.2.2.2.2).mono ?_; rintro e5 w5 ⟨rfl, h1, h2, h3⟩; rw [HDN.out]; have RF := Lib.hid (And.intro h2 h3); clear h1 h2 h3)
                obtain ⟨hq1, hq2⟩ := RF.out
                have RX := Lib.hid (Kd.R_mono (Kd.R_keep HD.out.2.2.2.1 hq2 (fun _ hk => hk.1)) (fun _ _ => trivial))
                go_ret2
                exact DecodeOf.ok HF.out HD.out.2.1 RX.out RF.out.1
              · have HF := Lib.hid (show m = .error dn by have := HM5.out; rw [if_pos (by rw [HDN.out]; exact c6), HDN.out] at this; exact this)
                go_wp2_with (go_at_call 34; refine (pack_Done.calls g s e w _ HD.out.2.2.2.2.1.2.2.2 HD.out.2.2.2.2.2).mono ?_; rintro e5 w5 ⟨rfl, h1, h2, h3⟩; rw [HDN.out]; have RF := Lib.hid (And.intro h2 h3); clear h1 h2 h3)
                go_ret2
                exact DecodeOf.err HF.out RF.out.1
      · have HE := Lib.hid (show m = .error ne by have := HMM.out; rw [if_pos c3] at this; exact this)
        go_wp2_with (go_at_call 31; refine (pack_Reader_Err.calls g ns ne _ _ _ w _ R3.out.2.2.2 B3.out (err_f ns ne)).mono ?_; rintro e w4 ⟨rfl, h1, h2, h3⟩; have R4 := Lib.hid (R3.out.keep h1 h3); have B4 := Lib.hid h2; have c04 := R4.out.c0; clear h1 h2 h3)
        go_ret2
        exact DecodeOf.err HE.out B4.out
    · have HE := Lib.hid (show m = .error 8 by rw [HM.out]; unfold decodeR; rw [if_neg (by simpa using c1), if_pos c2])
      go_wp2_with (go_at_call 17; refine (chunk_Version.calls S _ _ _ HV.out).mono ?_; rintro e w1 ⟨rfl, hb⟩; have B1 := Lib.hid hb.below; clear hb)
      go_ret2
      exact DecodeOf.err HE.out B1.out
  · have HE := Lib.hid (show m = .error ve by rw [HM.out]; unfold decodeR; rw [if_pos c1])
    go_wp2_with (go_at_call 17; refine (chunk_Version.calls S _ _ _ HV.out).mono ?_; rintro e w1 ⟨rfl, hb⟩; have B1 := Lib.hid hb.below; clear hb)
    go_ret2
    exact DecodeOf.err HE.out B1.out
end Go.Proofs.Ytfcndhajcikgiaa.B
namespace Go.Proofs.Ytfcndhajcikgiaa.B
open Go.RowKit Go.Proofs.Sp Go.Proofs.Fl Go.Proofs.YtfcndhajcikgiaaW.PrintWords Go.Proofs.YtfcndhajcikgiaaW.PrintLast Go.Proofs.YtfcndhajcikgiaaW.PrintMore
theorem bt_nv (s : ByteArray) (i : Nat) (h : i < s.size) : bt s (i : Int) = (s[i].toNat : Int) := by
  unfold bt; rw [dif_pos (by simpa using h)]; rfl
def magicL : List UInt8 := [66, 78, 83, 73]
/-- The version of a file; an error. -/
def verS (S : ByteArray) : Int × Int := if S.data.toList.take 4 = magicL then (if S.size < 5 then (0, 2) else (bt S 4, 0)) else (0, 7)
theorem list_beq (a b : List UInt8) : (a == b) = decide (a = b) := by rw [Bool.eq_iff_iff]; simp
theorem ba_toList (s : ByteArray) : s.toList = s.data.toList := Lib.toList_data s
theorem ver_prog (S : ByteArray) : chunk_Version.f S = some (verS S) := by
  unfold chunk_Version.f strings_CutPrefix.f stringslite_CutPrefix.f stringslite_HasPrefix.f verS
  have hr := bt_range S 4
  have hlen := len_size S
  have hz : ((⟨#[66, 78, 83, 73]⟩ : ByteArray).size : Int) = 4 := rfl
  rw [hz]
  by_cases h4 : (S.size : Int) < 4
  · have hn : ¬ S.data.toList.take 4 = magicL := by
      intro hc
      have := congrArg List.length hc
      rw [List.length_take, hlen] at this
      simp [magicL] at this; omega
    rw [if_neg (by omega), if_neg hn]
    rfl
  · have e : (S.extract 0 (4 : Int).toNat).toList = S.data.toList.take 4 := by rw [ba_toList, extract_list, List.drop_zero]; rfl
    rw [if_pos (by omega), if_pos (by decide), if_pos (by omega), e]
    have em : (⟨#[66, 78, 83, 73]⟩ : ByteArray).toList = magicL := by rw [ba_toList]; rfl
    rw [em]
    simp only [Option.bind_some]
    by_cases hm : S.data.toList.take 4 = magicL
    · rw [if_pos hm, if_pos (by rw [hm]; rfl)]
      rw [if_pos (by decide), if_pos (by omega)]
      simp only [Option.bind_some, if_true]
      have e2 : (S.extract (4 : Int).toNat S.size).toList = S.data.toList.drop 4 := by rw [ba_toList, extract_list]; exact List.take_of_length_le (by rw [List.length_drop, hlen]; exact Nat.le_refl _)
      have e3 : (S.extract (4 : Int).toNat S.size).size = S.size - 4 := by rw [ByteArray.size_extract]; show min S.size S.size - 4 = _; omega
      rw [e2, e3]
      by_cases h5 : S.size < 5
      · rw [if_pos h5, if_pos (List.drop_eq_nil_of_le (by omega))]
      · rw [if_neg h5, if_neg (fun hc => by have := congrArg List.length hc; rw [List.length_drop, hlen] at this; simp at this; omega), if_pos (by omega)]
        have hb : bt (S.extract (4 : Int).toNat S.size) 0 = bt S 4 := by
          have h1 := bt_nv (S.extract (4 : Int).toNat S.size) 0 (by omega)
          have h2 := bt_nv S 4 (by omega)
          rw [show ((0 : Nat) : Int) = 0 from rfl] at h1
          rw [show ((4 : Nat) : Int) = 4 from rfl] at h2
          rw [h1, h2]
          congr 2
          exact ByteArray.getElem_extract (h := by rw [ByteArray.size_extract]; show 0 < min S.size S.size - 4; omega)
        rw [hb, show wrap64 (bt S 4) = bt S 4 by unfold wrap64; omega]
    · rw [if_neg hm, if_neg]
      · rfl
      · intro hc; exact hm (by simpa using hc)
theorem verS_one {S : ByteArray} (h : verS S = (1, 0)) : 5 ≤ S.size ∧ S.data.toList.take 5 = headL := by
  unfold verS at h
  split at h
  · rename_i hm
    split at h
    · simp at h
    · rename_i h5
      simp only [Prod.mk.injEq, and_true] at h
      refine ⟨by omega, ?_⟩
      have hl := len_size S
      have h4 : 4 < S.data.toList.length := by omega
      rw [List.take_succ_eq_append_getElem h4, hm]
      have h2 := bt_nv S 4 (by omega)
      rw [show ((4 : Nat) : Int) = 4 from rfl, h] at h2
      have h3 : (S.data.toList[4]'h4) = 1 := by
        have h5 : (S.data.toList[4]'h4) = S[4]'(by omega) := rfl
        rw [h5]; apply UInt8.toNat_inj.1; show _ = 1; omega
      rw [h3]; rfl
  · simp at h
theorem one_verS {S : ByteArray} (h : S.data.toList.take 5 = headL) : verS S = (1, 0) ∧ 5 ≤ S.size := by
  have hl := len_size S
  have h5 : 5 ≤ S.size := by have := congrArg List.length h; rw [List.length_take, hl] at this; simp [headL] at this; omega
  have h4 : 4 < S.data.toList.length := by omega
  have hm : S.data.toList.take 4 = magicL := by
    have := congrArg (List.take 4) h
    rw [List.take_take] at this; exact this
  refine ⟨?_, h5⟩
  unfold verS
  rw [if_pos hm, if_neg (by omega)]
  have h2 := bt_nv S 4 (by omega)
  rw [show ((4 : Nat) : Int) = 4 from rfl] at h2
  have h3 : (S.data.toList[4]'h4) = 1 := by
    rw [List.take_succ_eq_append_getElem h4, hm] at h
    have hc : [S.data.toList[4]'h4] = [1] := List.append_cancel_left h
    injection hc
  have h6 : S[4]'(by omega) = 1 := h3
  rw [h2, h6]; rfl
def decodeX (S : ByteArray) : Except Int (List MoveS) := decodeR S (verS S).1 (verS S).2
theorem decodeX_fwd {S : ByteArray} {ms : List MoveS} {r : List UInt8} (hS : S.size ≤ 140737488355328) (hm : MayS ms) (h : S.data.toList = headL ++ (bodyS ms ++ r)) : decodeX S = if r = [] then .ok ms else .error 5 := by
  obtain ⟨hv, h5⟩ := one_verS (S := S) (by rw [h]; rfl)
  unfold decodeX
  rw [hv]
  exact decodeR_fwd hS h5 hm (by rw [h]; rfl)
theorem decodeX_bwd {S : ByteArray} {ms : List MoveS} (hS : S.size ≤ 140737488355328) (h : decodeX S = .ok ms) : MayS ms ∧ S.data.toList = headL ++ bodyS ms := by
  unfold decodeX at h
  have hv : verS S = (1, 0) := by
    unfold decodeR at h
    split at h
    · cases h
    · rename_i c1
      split at h
      · cases h
      · rename_i c2
        have e1 : (verS S).2 = 0 := Classical.byContradiction fun hc => c1 hc
        have e2 : (verS S).1 = 1 := Classical.byContradiction fun hc => c2 hc
        exact Prod.ext e2 e1
  obtain ⟨h5, ht⟩ := verS_one hv
  rw [hv] at h
  obtain ⟨h1, h2⟩ := decodeR_bwd hS h5 h
  exact ⟨h1, by rw [← h2, ← ht, List.take_append_drop]⟩
theorem movesR_err : ∀ (S : ByteArray) (k : Nat) (acc : List MoveS) (q : ByteArray × Int) (er : Int), movesR S k acc q = .error er → er ≠ 0
  | S, 0, acc, q, er, h => by cases h
  | S, k + 1, acc, q, er, h => by
    rw [movesR] at h
    rcases moveR_cases S q with ⟨x, q2, hx⟩ | ⟨e, q2, he, hx⟩
    · rw [hx] at h
      dsimp only at h
      cases hl : acc.getLast? with
      | none => rw [hl] at h; exact movesR_err _ _ _ _ _ h
      | some y =>
        rw [hl] at h
        dsimp only at h
        split at h
        · exact movesR_err _ _ _ _ _ h
        · cases h; decide
    · rw [hx] at h
      cases h; exact he
theorem decodeX_err {S : ByteArray} {er : Int} (h : decodeX S = .error er) : er ≠ 0 := by
  unfold decodeX decodeR at h
  split at h
  · rename_i c; cases h; exact c
  · split at h
    · cases h; decide
    · dsimp only at h
      split at h
      · rename_i c; cases h; exact c
      · split at h
        · cases h; decide
        · split at h
          · rename_i e he; cases h; exact movesR_err _ _ _ _ _ he
          · split at h
            · rename_i c; cases h; exact c
            · cases h
/-- The moves of a file, none where it is none. -/
def decM (S : ByteArray) : List MoveS := match decodeX S with | .ok ms => ms | .error _ => []
def decE (S : ByteArray) : Int := match decodeX S with | .ok _ => 0 | .error e => e
def DecPost (S : ByteArray) (w : World) (e : Ending) (w' : World) : Prop :=
  ∃ A c xs, e = .returned (.tuple #[.slice A xs.length c, .int .i64 (decE S)]) ∧ Kd.C k30 w' A xs.length xs ∧ xs.length ≤ c ∧ xs.map toS = decM S ∧ Ranks xs ∧ Below w.heap.size w w'
theorem DecPost.of {S : ByteArray} {w w' : World} {e : Ending} (hS : S.size ≤ 140737488355328) (h : DecodeOf w (decodeX S) e w') : DecPost S w e w' := by
  obtain ⟨h, hb⟩ := h
  unfold DecPost decM decE
  cases hd : decodeX S with
  | error er =>
    rw [hd] at h
    obtain ⟨A, c, h1, h2, h3⟩ := Kd.R_reads (Kd.R_nil k30 30 w' w'.heap.size (fun _ => True))
    injection h1 with h4 h5 h6
    subst h4 h6
    exact ⟨none, 0, [], h, h3, Nat.le_refl _, rfl, (fun _ hx => by cases hx), hb⟩
  | ok ms =>
    rw [hd] at h
    obtain ⟨v, xs, rfl, hr, hl⟩ := h
    obtain ⟨A, c, rfl, h2, h3⟩ := Kd.R_reads hr
    obtain ⟨hm, -⟩ := decodeX_bwd hS hd
    obtain ⟨l1, l2⟩ := like_toS hl (fun m hmm => ⟨(hm.2.2 m hmm).2.1, (hm.2.2 m hmm).2.2⟩)
    exact ⟨A, c, xs, rfl, h3, h2, l1, l2, hb⟩
theorem verS_five {S : ByteArray} (h1 : (verS S).2 = 0) (h2 : (verS S).1 = 1) : 5 ≤ S.size := (verS_one (Prod.ext h2 h1)).1
theorem rows_Decode.file (S : ByteArray) (w : World) (hS : S.size ≤ 140737488355328) : Calls Try.prog 13 #[.string S] w (DecPost S w) :=
  (rows_Decode.calls S (verS S).1 (verS S).2 w (by omega) (ver_prog S) verS_five).mono fun _ _ h => DecPost.of hS h
end Go.Proofs.Ytfcndhajcikgiaa.B
namespace Go.Proofs.Ytfcndhajcikgiaa.B
open Go.RowKit Go.Proofs.Sp Go.Proofs.Fl Go.Proofs.YtfcndhajcikgiaaW.PrintWords Go.Proofs.YtfcndhajcikgiaaW.PrintLast Go.Proofs.YtfcndhajcikgiaaW.PrintMore
def m0 : S30 := ⟨⟨5, 2⟩, 0, 300, ⟨#[97]⟩, 4607182418800017408⟩
def liveL : List UInt8 := [66, 78, 83, 73, 1, 1, 5, 2, 0, 172, 2, 1, 97, 0, 0, 0, 0, 0, 0, 240, 63]
def liveO : List UInt8 := [5, 2, 0, 172, 2, 1, 97, 0, 0, 0, 0, 0, 0, 240, 63]
theorem valid_a : validS [97] = true := by
  unfold validS
  rw [stopAt, show headS (97 : UInt8).toNat = some (0, 128, 191) from rfl]
  simp [tailOk, stopAt]
theorem one_m0 : oneM m0 = true := by
  unfold oneM oneB
  rw [show m0.f3.data.toList = [97] from rfl, valid_a]
  decide
theorem may_m0 : mayM [m0] = true := by
  unfold mayM
  rw [List.all_cons, one_m0]
  rfl
theorem ranks_m0 : Ranks [m0] := fun x hx => by
  obtain rfl := List.mem_singleton.1 hx
  decide
theorem enc_m0 : encX m0 = liveO := by decide +kernel
theorem file_m0 : fileX [m0] = liveL := by
  unfold fileX
  rw [List.flatMap_cons, enc_m0]
  decide +kernel
theorem live_encode : rows_Encode.f [m0] = some (ba liveL, 0) := by rw [encode_f ranks_m0, if_pos may_m0, file_m0]
theorem live_zero : rows_Encode.f [z30] = some (⟨#[]⟩, 1) := by
  unfold rows_Encode.f
  rw [if_neg (by decide)]
theorem live_one : rows_One.f 5 2 0 300 ⟨#[97]⟩ 4607182418800017408 = some (ba liveO) := by
  have := one_f_ (x := m0) (by decide) (by decide)
  rw [enc_m0] at this; exact this
theorem mayS_m0 : MayS [toS m0] := may_toS ranks_m0 may_m0
theorem body_m0 : headL ++ bodyS [toS m0] = liveL := by
  rw [← file_m0]
  unfold fileX bodyS
  rw [flat_enc [m0] (fun x hx => by obtain rfl := List.mem_singleton.1 hx; exact one_m0)]
  rfl
theorem live_dec {S : ByteArray} (h : S = ba liveL) : decE S = 0 ∧ decM S = [toS m0] := by
  have := decodeX_fwd (S := S) (ms := [toS m0]) (r := []) (by rw [h]; decide) mayS_m0 (by rw [h, List.append_nil, body_m0]; rfl)
  rw [if_pos rfl] at this
  unfold decE decM
  rw [this]; exact ⟨rfl, rfl⟩
theorem live_x {S : ByteArray} (h : S.data.toList = liveL ++ [120]) : decE S = 5 := by
  have hz : S.size = 22 := by rw [← len_size, h]; rfl
  have := decodeX_fwd (S := S) (ms := [toS m0]) (r := [120]) (by omega) mayS_m0 (by rw [h, ← body_m0, List.append_assoc])
  rw [if_neg (by decide)] at this
  unfold decE
  rw [this]
theorem live_version : decE ⟨#[66, 78, 83, 73, 2, 0]⟩ = 8 := by decide +kernel
theorem live_magic : decE ⟨#[66, 78, 83, 88]⟩ = 7 := by decide +kernel
theorem live_none : decE ⟨#[66, 78, 83, 73, 1, 0]⟩ = 0 ∧ decM ⟨#[66, 78, 83, 73, 1, 0]⟩ = [] := by
  have := decodeX_fwd (S := ⟨#[66, 78, 83, 73, 1, 0]⟩) (ms := []) (r := []) (by decide) ⟨rfl, by decide, fun _ h => by cases h⟩ rfl
  rw [if_pos rfl] at this
  unfold decE decM
  rw [this]; exact ⟨rfl, rfl⟩
theorem live_order {S : ByteArray} (h : S.data.toList = [66, 78, 83, 73, 1, 2] ++ (liveO ++ liveO)) : decE S = 12 := by
  have hz : S.size = 36 := by rw [← len_size, h]; rfl
  obtain ⟨hv, h5⟩ := one_verS (S := S) (by rw [h]; rfl)
  have hok : OkM (toS m0) := ok_one (by decide) one_m0
  have he : encM (toS m0) = liveO := by rw [← encX_enc one_m0, enc_m0]
  have hx : (S.extract 5 S.size).data.toList = putL 2 ++ (encM (toS m0) ++ (encM (toS m0) ++ [])) := by
    rw [extract_list, List.take_of_length_le (by rw [List.length_drop, len_size]; omega), h, he]; rfl
  have hS : S.size ≤ 140737488355328 := by omega
  obtain ⟨s1, h1, l1⟩ := numR_fwd (v := 2) (by omega) hx
  have f1 := numR_suf (q := (S.extract 5 S.size, 0)) (Suf.from S 5 h5)
  rw [h1] at f1
  obtain ⟨s2, h2, l2, f2⟩ := moveR_fwd hS f1 hok l1
  obtain ⟨s3, h3, l3, f3⟩ := moveR_fwd hS f2 hok l2
  have hd : decodeX S = .error 12 := by
    unfold decodeX
    rw [hv]
    unfold decodeR
    rw [if_neg (fun hc => hc rfl), if_neg (fun hc => hc rfl), h1]
    dsimp only
    rw [if_neg (fun hc => hc rfl), if_neg (by decide)]
    have hm : movesR S 2 [] (s1, 0) = .error 12 := by
      rw [movesR, h2]
      dsimp only [List.getLast?_nil]
      rw [movesR, h3]
      rfl
    rw [show (((2 : Nat) : Int)).toNat = 2 from rfl, hm]
  unfold decE
  rw [hd]
end Go.Proofs.Ytfcndhajcikgiaa.B
namespace Go.Proofs.Ytfcndhajcikgiaa.B
open Go.RowKit Go.Proofs.Sp Go.Proofs.Fl Go.Proofs.YtfcndhajcikgiaaW.PrintWords Go.Proofs.YtfcndhajcikgiaaW.PrintLast Go.Proofs.YtfcndhajcikgiaaW.PrintMore
theorem one_C {W : World} {B : Nat} (x : S30) (h : W.heap[B]? = some (.cells #[.int .i64 x.f0.f0, .int .i64 x.f0.f1, .int .i64 x.f1, .int .i64 x.f2, .string x.f3, .float .f64 x.f4] 30 (0, 0))) : Kd.C k30 W (some ⟨B, 0, none⟩) [x].length [x] := by
  refine ⟨rfl, (show 1 ≤ 9223372036854775807 by decide), fun _ => ⟨_, rfl, fun j p hj => ?_⟩⟩
  match j, hj with
  | 0, hj =>
    injection hj with hj
    subst hj
    refine ⟨_, rfl, k30_mk W x, fun i u hi => ?_⟩
    have := blk_cell h i
    rw [show (0 * k30.sz + i) = i by omega]
    refine Eq.trans ?_ (this.trans (by simpa using hi))
    by_cases hi0 : i = 0
    · subst hi0; rfl
    · simp [Addr.add, hi0]
theorem cat_step {w W W1 : World} {B : Nat} {o : Obj} {A : Option Addr} {n : Nat} {xs : List S30} (h1 : Below w.heap.size w W) (h2 : W.heap[B]? = some o) (h3 : Kd.C k30 W A n xs) (hb : Below W.heap.size W W1) :
    Below w.heap.size w W1 ∧ W1.heap[B]? = some o ∧ Kd.C k30 W1 A n xs :=
  ⟨h1.trans (hb.mono h1.size), (hb.block B (blk_lt h2)).trans h2, Kd.C_below h3 hb⟩
theorem DecPost.open_ {S : ByteArray} {w w' : World} {e : Ending} (h : DecPost S w e w') {er : Int} (he : decE S = er) :
    ∃ A c xs, e = .returned (.tuple #[.slice A xs.length c, .int .i64 er]) ∧ Kd.C k30 w' A xs.length xs ∧ xs.length ≤ c ∧ xs.map toS = decM S ∧ Ranks xs ∧ Below w.heap.size w w' := by
  subst he; exact h
set_option maxRecDepth 100000 in
set_option maxHeartbeats 4000000 in
theorem live_calls (w : World) : Calls Try.prog 8 #[] w fun e w' => e = .returned (.bool true) ∧ Below w.heap.size w w' := by
  obtain ⟨s, hs⟩ : ∃ s, s = ba liveL := ⟨_, rfl⟩
  have HE1 := Lib.hid (show rows_Encode.f [m0] = some (s, 0) by rw [hs]; exact live_encode)
  have HS := Lib.hid hs
  have HZ1 := Lib.hid (show s.size ≤ 140737488355328 by rw [hs]; decide)
  have HZ2 := Lib.hid (show (⟨#[66, 78, 83, 73, 2, 0]⟩ : ByteArray).size ≤ 140737488355328 by decide)
  have HZ5 := Lib.hid (show (⟨#[66, 78, 83, 73, 1, 0]⟩ : ByteArray).size ≤ 140737488355328 by decide)
  have HZ6 := Lib.hid (show (⟨#[66, 78, 83, 88]⟩ : ByteArray).size ≤ 140737488355328 by decide)
  have HZ3 := Lib.hid (show (s ++ ⟨#[120]⟩).size ≤ 140737488355328 by rw [ByteArray.size_append, hs]; decide)
  clear hs
  have hcat : (9223372036854775807 < s.size + 1) = False := eq_false (by have := HZ1.out; omega)
  go_enter Try.func8, Try.ntmps8
  have HB0 := Lib.hid (heap_alloc_new w (.cells #[.int .i64 5, .int .i64 2, .int .i64 0, .int .i64 300, .string ⟨#[97]⟩, .float .f64 4607182418800017408] 30))
  go_wp2_with (go_at_call 11; refine (rows_Encode.calls (some ⟨w.heap.size, 0, none⟩) 1 [m0] s 0 _ (one_C m0 HB0.out) (by decide) HE1.out).mono ?_; rintro e w1 ⟨rfl, hb⟩; have B1 := Lib.hid ((below_alloc (Below.refl w.heap.size w) (.cells #[.int .i64 5, .int .i64 2, .int .i64 0, .int .i64 300, .string ⟨#[97]⟩, .float .f64 4607182418800017408] 30)).trans (hb.mono (by simp))); have M1 := Lib.hid ((hb.block w.heap.size (by simp)).trans HB0.out); clear hb HB0 HE1)
  go_wp2_with (go_at_call 13; (with_reducible refine (rows_Decode.file s _ HZ1.out).mono ?_); rintro e w2 hd; obtain ⟨A2, c2, xs2, rfl, hC, hcl, hm, hrk, hb⟩ := hd.open_ (live_dec HS.out).1; have B2 := Lib.hid (B1.out.trans (hb.mono B1.out.size)); have M2 := Lib.hid ((hb.block w.heap.size (blk_lt M1.out)).trans M1.out); have C2 := Lib.hid hC; have K2 := Lib.hid (And.intro hcl (And.intro (hm.trans (live_dec HS.out).2) hrk)); clear hd hC hcl hm hrk hb)
  go_wp2_with (go_at_call 13; (with_reducible refine (rows_Decode.file ⟨#[66, 78, 83, 73, 2, 0]⟩ _ HZ2.out).mono ?_); rintro e w3 hd; obtain ⟨A3, c3, xs3, rfl, hC, hcl, hm, hrk, hb⟩ := hd.open_ live_version; have B3 := Lib.hid (B2.out.trans (hb.mono B2.out.size)); have M3 := Lib.hid ((hb.block w.heap.size (blk_lt M2.out)).trans M2.out); have C3 := Lib.hid (Kd.C_below C2.out hb); clear hd hC hcl hm hrk hb)
  go_wp2_with (go_at_call 13; (with_reducible refine (rows_Decode.file (s ++ ⟨#[120]⟩) _ HZ3.out).mono ?_); rintro e w4 hd; obtain ⟨A4, c4, xs4, rfl, hC, hcl, hm, hrk, hb⟩ := hd.open_ (live_x (by rw [HS.out]; rfl)); have B4 := Lib.hid (B3.out.trans (hb.mono B3.out.size)); have M4 := Lib.hid ((hb.block w.heap.size (blk_lt M3.out)).trans M3.out); have C4 := Lib.hid (Kd.C_below C3.out hb); clear hd hC hcl hm hrk hb)
  go_wp2_with (go_at_call 11; refine (rows_Encode.calls (some ⟨w4.heap.size, 0, none⟩) 1 [z30] ⟨#[]⟩ 1 _ (one_C z30 (heap_alloc_new w4 _)) (by decide) live_zero).mono ?_; rintro e w5 ⟨rfl, hb⟩; have hbb : Below w4.heap.size w4 w5 := ((Below.refl _ _).alloc (Nat.le_refl _) _).trans (hb.mono (by simp)); have B5 := Lib.hid (B4.out.trans (hbb.mono B4.out.size)); have M5 := Lib.hid ((hbb.block w.heap.size (blk_lt M4.out)).trans M4.out); have C5 := Lib.hid (Kd.C_below C4.out hbb); obtain ⟨y0, y1, y2, y3, y4, y5⟩ := six_cells M5.out; clear hb hbb)
  obtain ⟨o, ho⟩ : ∃ o, o = ba liveO := ⟨_, rfl⟩
  have HO1 := Lib.hid (show rows_One.f 5 2 0 300 ⟨#[97]⟩ 4607182418800017408 = some o by rw [ho]; exact live_one)
  have HO2 := Lib.hid (show decE (⟨#[66, 78, 83, 73, 1, 2]⟩ ++ o ++ o) = 12 from live_order (by rw [ho]; rfl))
  have hoz : o.size = 15 := by rw [ho]; rfl
  have HZ4 := Lib.hid (show (⟨#[66, 78, 83, 73, 1, 2]⟩ ++ o ++ o).size ≤ 140737488355328 by rw [ByteArray.size_append, ByteArray.size_append, hoz]; decide)
  have hcat2 : (9223372036854775807 < 6 + o.size) = False := eq_false (by omega)
  have hcat3 : (9223372036854775807 < 6 + o.size + o.size) = False := eq_false (by omega)
  clear ho hoz
  go_region_held3 (fun w' => w'.cell? ⟨w.heap.size, 0, none⟩ = some (.int .i64 5) ∧ w'.cell? ⟨w.heap.size, 1, none⟩ = some (.int .i64 2) ∧ w'.cell? ⟨w.heap.size, 2, none⟩ = some (.int .i64 0) ∧ w'.cell? ⟨w.heap.size, 3, none⟩ = some (.int .i64 300) ∧ w'.cell? ⟨w.heap.size, 4, none⟩ = some (.string ⟨#[97]⟩) ∧ w'.cell? ⟨w.heap.size, 5, none⟩ = some (.float .f64 4607182418800017408)) (go_keep) (first | (go_at_call 9; (with_reducible refine (rows_One.calls 5 2 0 300 ⟨#[97]⟩ 4607182418800017408 o _ HO1.out).mono ?_); rintro e wb ⟨rfl, hb⟩; have hq := cat_step B5.out M5.out C5.out ⟨hb.os, hb.tape, hb.output, hb.size, hb.block⟩; clear B5 M5 C5 hb; have B5 := Lib.hid hq.1; have M5 := Lib.hid hq.2.1; have C5 := Lib.hid hq.2.2; clear hq; obtain ⟨u0, u1, u2, u3, u4, u5⟩ := six_cells M5.out) | (go_at_call 13; (with_reducible refine (rows_Decode.file (⟨#[66, 78, 83, 73, 1, 2]⟩ ++ o ++ o) _ HZ4.out).mono ?_); rintro e wb hd; obtain ⟨A6, c6, xs6, rfl, hC, hcl, hm, hrk, hb⟩ := hd.open_ HO2.out; have hq := cat_step B5.out M5.out C5.out ⟨hb.os, hb.tape, hb.output, hb.size, hb.block⟩; clear B5 M5 C5 hb; have B5 := Lib.hid hq.1; have M5 := Lib.hid hq.2.1; have C5 := Lib.hid hq.2.2; clear hq hd hC hcl hm hrk; obtain ⟨u0, u1, u2, u3, u4, u5⟩ := six_cells M5.out))
  clear hcat hcat2 hcat3 HO1 HO2 HZ1 HZ3 HZ4 B1 B2 B3 B4 C2 C3 C4 M1 M2 M3 M4 y0 y1 y2 y3 y4 y5
  go_wp2_with (go_at_call 13; (with_reducible refine (rows_Decode.file ⟨#[66, 78, 83, 73, 1, 0]⟩ _ HZ5.out).mono ?_); rintro e w7 hd; obtain ⟨A7, c7, xs7, rfl, hC, hcl, hm, hrk, hb⟩ := hd.open_ live_none.1; have h7 := List.map_eq_nil_iff.1 (hm.trans live_none.2); subst h7; have hq := cat_step B5.out M5.out C5.out hb; have B7 := Lib.hid hq.1; have M7 := Lib.hid hq.2.1; have C7 := Lib.hid hq.2.2; clear hq hd hC hcl hm hrk hb B5 M5 C5 u0 u1 u2 u3 u4 u5)
  have hseq : (s.toList == [66, 78, 83, 73, 1, 1, 5, 2, 0, 172, 2, 1, 97, 0, 0, 0, 0, 0, 0, 240, 63]) = true := by rw [ba_toList, HS.out]; rfl
  have HSM := Lib.hid (show bonsairef13_Same.f 10 xs2 [m0] = some true from same_f K2.out.2.2 ranks_m0 K2.out.2.1 (by have := congrArg List.length K2.out.2.1; simp at this; omega) 10 (by have := congrArg List.length K2.out.2.1; simp at this; omega))
  go_wp2_with (go_at_call 13; (with_reducible refine (rows_Decode.file ⟨#[66, 78, 83, 88]⟩ _ HZ6.out).mono ?_); rintro e w8 hd; obtain ⟨A8, c8, xs8, rfl, hC, hcl, hm, hrk, hb⟩ := hd.open_ live_magic; have hq := cat_step B7.out M7.out C7.out hb; have B8 := Lib.hid hq.1; have M8 := Lib.hid hq.2.1; have C8 := Lib.hid hq.2.2; clear hq hd hC hcl hm hrk hb B7 M7 C7)
  go_wp2_with (go_at_call 15; refine (bonsairef13_Same.calls 10 A2 c2 xs2 (some ⟨w.heap.size, 0, none⟩) 1 [m0] true _ C8.out K2.out.1 (one_C m0 M8.out) (by decide) HSM.out).mono ?_; rintro e w9 ⟨rfl, hb⟩; have B9 := Lib.hid (B8.out.trans (hb.mono B8.out.size)); clear hb)
  go_ret
  exact ⟨rfl, B9.out⟩
/-- live, in the printed form. -/
def bonsailaw21_live.f : Option Bool := some true
theorem bonsailaw21_live.calls (r : Bool) (w : World) (h : bonsailaw21_live.f = some r) : Calls Try.prog 8 #[] w fun e w' => e = .returned (.bool r) ∧ Below w.heap.size w w' := by
  obtain rfl := Option.some.inj h
  exact live_calls w
end Go.Proofs.Ytfcndhajcikgiaa.B
namespace Go.Proofs.Ytfcndhajcikgiaa.B
open Go.RowKit Go.Proofs.YtfcndhajcikgiaaW.PrintWords Go.Proofs.YtfcndhajcikgiaaW.PrintLast Go.Proofs.YtfcndhajcikgiaaW.PrintMore
mutual
def bonsailaw21_RowsSizes.j0 : Nat → List (S30) → Bool → Option (Bool)
  | 0, _, _ => none
  | k + 1, x0, x17 => if x17 = true then ((bonsailaw21_live.f).bind fun t328 => (some t328)) else (bonsailaw21_RowsSizes.l0 k x0 (⟨#[]⟩ : ByteArray) 0)
def bonsailaw21_RowsSizes.l0 : Nat → List (S30) → ByteArray → Int → Option (Bool)
  | 0, _, _, _ => none
  | k + 1, x0, x3, x4 => if x4 < (x0.length : Int) then (if 0 ≤ x4 then (if x4 ≤ (x0.length : Int) then ((rows_Encode.f (x0.take (x4 : Int).toNat)).bind fun bt339 => (if bt339.2 = 0 then (if (bt339.1.size : Int) = (wrap64 (6 + (x3.size : Int))) then (if 6 ≤ (bt339.1.size : Int) then (bonsailaw21_RowsSizes.j2 k x0 x3 x4 ((bt339.1.extract 6 bt339.1.size).toList != x3.toList)) else (none)) else (bonsailaw21_RowsSizes.j2 k x0 x3 x4 true)) else (bonsailaw21_RowsSizes.j2 k x0 x3 x4 true))) else (none)) else (none)) else ((rows_Encode.f x0).bind fun bt329 => (if bt329.2 = 0 then ((some (([((x0.length : Int)) % 256] : List Int) : List Int)).bind fun y331 => (if 5 + (strOfNums y331).size ≤ 9223372036854775807 then (if ((⟨#[66, 78, 83, 73, 1]⟩ : ByteArray) ++ (strOfNums y331)).size + x3.size ≤ 9223372036854775807 then (if bt329.1.toList = (((⟨#[66, 78, 83, 73, 1]⟩ : ByteArray) ++ (strOfNums y331)) ++ x3).toList then ((bonsailaw21_live.f).bind fun t334 => (some t334)) else (some false)) else (none)) else (none))) else (some false)))
def bonsailaw21_RowsSizes.j2 : Nat → List (S30) → ByteArray → Int → Bool → Option (Bool)
  | 0, _, _, _, _ => none
  | k + 1, x0, x3, x4, x47 => if x47 = true then (some false) else (if 0 ≤ x4 then (if x4 < (x0.length : Int) then ((rows_One.f ((rd_T30 x0 x4).f0.f0) ((rd_T30 x0 x4).f0.f1) ((rd_T30 x0 x4).f1) ((rd_T30 x0 x4).f2) ((rd_T30 x0 x4).f3) ((rd_T30 x0 x4).f4)).bind fun t342 => (if (t342.size : Int) < 13 then (some false) else (if (t342.size : Int) > 117 then (some false) else (if x3.size + t342.size ≤ 9223372036854775807 then (bonsailaw21_RowsSizes.l0 k x0 (x3 ++ t342) (wrap64 (x4 + 1))) else (none))))) else (none)) else (none))
end
def bonsailaw21_RowsSizes.f (k : Nat) (l0 : List (S30)) : Option (Bool) := (bonsairef13_Few.f k l0 40).bind fun t326 => (if t326 = true then ((bonsairef13_May.f k l0).bind fun t327 => (bonsailaw21_RowsSizes.j0 k l0 (!t327))) else (bonsailaw21_RowsSizes.j0 k l0 true))
theorem bonsailaw21_RowsSizes.mono_l : ∀ k, (∀ y0 y1, LeO (bonsailaw21_RowsSizes.j0 k y0 y1) (bonsailaw21_RowsSizes.j0 (k + 1) y0 y1)) ∧ (∀ y0 y1 y2, LeO (bonsailaw21_RowsSizes.l0 k y0 y1 y2) (bonsailaw21_RowsSizes.l0 (k + 1) y0 y1 y2)) ∧ (∀ y0 y1 y2 y3, LeO (bonsailaw21_RowsSizes.j2 k y0 y1 y2 y3) (bonsailaw21_RowsSizes.j2 (k + 1) y0 y1 y2 y3))
  | 0 => ⟨fun _ _ r h => by simp [bonsailaw21_RowsSizes.j0] at h, fun _ _ _ r h => by simp [bonsailaw21_RowsSizes.l0] at h, fun _ _ _ _ r h => by simp [bonsailaw21_RowsSizes.j2] at h⟩
  | k + 1 => by
    obtain ⟨ih0, ih1, ih2⟩ := bonsailaw21_RowsSizes.mono_l k
    refine ⟨?_, ?_, ?_⟩
    · intro y0 y1
      unfold bonsailaw21_RowsSizes.j0
      repeat' first
      | (with_reducible exact ih0 _ _)
      | (with_reducible exact ih1 _ _ _)
      | (with_reducible exact ih2 _ _ _ _)
      | (with_reducible exact bonsairef13_Few.mono _ _ _)
      | (with_reducible exact bonsairef13_May.mono _ _)
      | (with_reducible exact LeO.refl _)
      | (with_reducible exact LeO.none _)
      | (with_reducible refine LeO.ite ?_ ?_)
      | (with_reducible refine LeO.bind ?_ (fun _ => ?_))
      | exact ih0 _ _
      | exact ih1 _ _ _
      | exact ih2 _ _ _ _
      | exact bonsairef13_Few.mono _ _ _
      | exact bonsairef13_May.mono _ _
      | exact LeO.none _
      | refine LeO.ite ?_ ?_
      | refine LeO.bind ?_ (fun _ => ?_)
    · intro y0 y1 y2
      unfold bonsailaw21_RowsSizes.l0
      repeat' first
      | (with_reducible exact ih0 _ _)
      | (with_reducible exact ih1 _ _ _)
      | (with_reducible exact ih2 _ _ _ _)
      | (with_reducible exact bonsairef13_Few.mono _ _ _)
      | (with_reducible exact bonsairef13_May.mono _ _)
      | (with_reducible exact LeO.refl _)
      | (with_reducible exact LeO.none _)
      | (with_reducible refine LeO.ite ?_ ?_)
      | (with_reducible refine LeO.bind ?_ (fun _ => ?_))
      | exact ih0 _ _
      | exact ih1 _ _ _
      | exact ih2 _ _ _ _
      | exact bonsairef13_Few.mono _ _ _
      | exact bonsairef13_May.mono _ _
      | exact LeO.none _
      | refine LeO.ite ?_ ?_
      | refine LeO.bind ?_ (fun _ => ?_)
    · intro y0 y1 y2 y3
      unfold bonsailaw21_RowsSizes.j2
      repeat' first
      | (with_reducible exact ih0 _ _)
      | (with_reducible exact ih1 _ _ _)
      | (with_reducible exact ih2 _ _ _ _)
      | (with_reducible exact bonsairef13_Few.mono _ _ _)
      | (with_reducible exact bonsairef13_May.mono _ _)
      | (with_reducible exact LeO.refl _)
      | (with_reducible exact LeO.none _)
      | (with_reducible refine LeO.ite ?_ ?_)
      | (with_reducible refine LeO.bind ?_ (fun _ => ?_))
      | exact ih0 _ _
      | exact ih1 _ _ _
      | exact ih2 _ _ _ _
      | exact bonsairef13_Few.mono _ _ _
      | exact bonsairef13_May.mono _ _
      | exact LeO.none _
      | refine LeO.ite ?_ ?_
      | refine LeO.bind ?_ (fun _ => ?_)
theorem bonsailaw21_RowsSizes.mono : ∀ a0 k, LeO (bonsailaw21_RowsSizes.f k a0) (bonsailaw21_RowsSizes.f (k + 1) a0) := by
  intro a0 k
  obtain ⟨ih0, ih1, ih2⟩ := bonsailaw21_RowsSizes.mono_l k
  unfold bonsailaw21_RowsSizes.f
  repeat' first
      | (with_reducible exact ih0 _ _)
      | (with_reducible exact ih1 _ _ _)
      | (with_reducible exact ih2 _ _ _ _)
      | (with_reducible exact bonsairef13_Few.mono _ _ _)
      | (with_reducible exact bonsairef13_May.mono _ _)
      | (with_reducible exact LeO.refl _)
      | (with_reducible exact LeO.none _)
      | (with_reducible refine LeO.ite ?_ ?_)
      | (with_reducible refine LeO.bind ?_ (fun _ => ?_))
      | exact ih0 _ _
      | exact ih1 _ _ _
      | exact ih2 _ _ _ _
      | exact bonsairef13_Few.mono _ _ _
      | exact bonsairef13_May.mono _ _
      | exact LeO.none _
      | refine LeO.ite ?_ ?_
      | refine LeO.bind ?_ (fun _ => ?_)
set_option maxHeartbeats 8000000 in
set_option maxRecDepth 100000 in
theorem bonsailaw21_RowsSizes.calls (k : Nat) (A0 : Option Addr) (c0 : Nat) (l0 : List (S30)) (r : Bool) (w : World) (hr0 : Kd.C k30 w A0 l0.length l0) (hc0 : l0.length ≤ c0) (h : bonsailaw21_RowsSizes.f k l0 = some r) :
    Calls Try.prog 6 #[.slice A0 l0.length c0] w fun e w' => e = .returned (.bool r) ∧ Below w.heap.size w w' := by
  have hu30 := Try.underlying30
  have HR0 := Aside0.mk hr0
  have HC0 := Aside0.mk hc0
  clear hr0 hc0
  have HB := Aside0.mk (Below.refl w.heap.size w)
  have H : ((bonsairef13_Few.f k l0 40).bind fun t326 => (if t326 = true then ((bonsairef13_May.f k l0).bind fun t327 => (bonsailaw21_RowsSizes.j0 k l0 (!t327))) else (bonsailaw21_RowsSizes.j0 k l0 true))) = some r := h
  clear h
  have HC2 := Aside0.mk H
  clear H
  go_enter Try.func6, Try.ntmps6
  go_upto_region 1 with (fail)
  go_cut [17] (fun v17 wc => ∃ (kq : Nat) (x17_1 : Bool), v17 = .bool x17_1 ∧ Aside0 (bonsailaw21_RowsSizes.j0 kq l0 x17_1 = some r) ∧ Aside0 (kq ≤ k) ∧ Aside0 (Below w.heap.size w wc))
  case first =>
    have H := HC2.out
    clear HC2
    replace H := Option.bind_eq_some_iff.mp H
    obtain ⟨t326, A30, H⟩ := H
    replace H : (if t326 = true then ((bonsairef13_May.f k l0).bind fun t327 => (bonsailaw21_RowsSizes.j0 k l0 (!t327))) else (bonsailaw21_RowsSizes.j0 k l0 true)) = some r := H
    have A3 := Aside0.mk A30
    clear A30
    by_cases c4 : t326 = true
    · subst c4
      have H1 : ((bonsairef13_May.f k l0).bind fun t327 => (bonsailaw21_RowsSizes.j0 k l0 (!t327))) = some r := by rw [if_pos rfl] at H; exact H
      clear H
      have H := H1
      clear H1
      replace H := Option.bind_eq_some_iff.mp H
      obtain ⟨t327, A50, H⟩ := H
      replace H : (bonsailaw21_RowsSizes.j0 k l0 (!t327)) = some r := H
      have A5 := Aside0.mk A50
      clear A50
      have H' := Aside0.mk H
      clear H
      go_wp2_with (first | ((with_reducible refine gate_callee (f := 7) rfl ?_); refine goesL_ (some 11) rfl rfl Try.func7 (by kernel_rfl) rfl #[.slice A0 l0.length c0, .int .i64 40] rfl (by (try simp only [List.map_toArray, List.map_cons, List.map_nil]); first | done | rfl | (simp only [List.length_drop, List.length_take]; rfl)) ?_; (with_reducible refine (bonsairef13_Few.calls k _ _ l0 40 true _ ?side1 ?side2 A3.out).mono ?_); (case side1 => repeat (first | exact (Kd.C_below HR0.out HB.out) | (with_reducible refine Kd.C_alloc ?_ _) | (with_reducible refine Kd.C_drewN ?_ _) | (with_reducible refine Kd.C_drew ?_))); (case side2 => exact HC0.out); rintro e w' ⟨rfl, ⟨nd, rfl⟩⟩; refine ⟨_, rfl, ?_⟩) | (go_at_call 16; (with_reducible refine (bonsairef13_May.calls k _ _ l0 t327 _ ?side1 ?side2 A5.out).mono ?_); (case side1 => repeat (first | exact (Kd.C_below HR0.out (by repeat (first | (with_reducible first | exact HB.out | apply below_alloc | apply pw_below_drewN | apply below_drew1) | exact HB.out))) | (with_reducible refine Kd.C_alloc ?_ _) | (with_reducible refine Kd.C_drewN ?_ _) | (with_reducible refine Kd.C_drew ?_))); (case side2 => exact HC0.out); rintro e w6 ⟨rfl, hb⟩; have n0_ := Aside0.mk (below_step (by repeat (first | (with_reducible first | exact HB.out | apply below_alloc | apply pw_below_drewN | apply below_drew1) | exact HB.out)) hb); clear HB; have HB := n0_; clear n0_; (try clear hb); (try clear hb2); (try clear hk); (try clear hi)))
      go_meet
      case rel => exact ⟨_, (!t327), (by first | rfl | (simp; done) | (simp [*]; done)), H', ⟨by first | omega | exact Nat.le_refl _⟩, ⟨by repeat (first | (with_reducible first | exact HB.out | apply below_alloc | apply pw_below_drewN | apply below_drew1) | exact HB.out)⟩⟩
    · replace c4 := Bool.eq_false_iff.mpr c4
      subst c4
      have H1 : (bonsailaw21_RowsSizes.j0 k l0 true) = some r := by rw [if_neg (show ¬ (false = true) by decide)] at H; exact H
      clear H
      have H := H1
      clear H1
      have H' := Aside0.mk H
      clear H
      go_wp2_with (first | ((with_reducible refine gate_callee (f := 7) rfl ?_); refine goesL_ (some 11) rfl rfl Try.func7 (by kernel_rfl) rfl #[.slice A0 l0.length c0, .int .i64 40] rfl (by (try simp only [List.map_toArray, List.map_cons, List.map_nil]); first | done | rfl | (simp only [List.length_drop, List.length_take]; rfl)) ?_; (with_reducible refine (bonsairef13_Few.calls k _ _ l0 40 false _ ?side1 ?side2 A3.out).mono ?_); (case side1 => repeat (first | exact (Kd.C_below HR0.out HB.out) | (with_reducible refine Kd.C_alloc ?_ _) | (with_reducible refine Kd.C_drewN ?_ _) | (with_reducible refine Kd.C_drew ?_))); (case side2 => exact HC0.out); rintro e w' ⟨rfl, ⟨nd, rfl⟩⟩; refine ⟨_, rfl, ?_⟩))
      go_meet
      case rel => exact ⟨_, (true), (by first | rfl | (simp; done) | (simp [*]; done)), H', ⟨by first | omega | exact Nat.le_refl _⟩, ⟨by repeat (first | (with_reducible first | exact HB.out | apply below_alloc | apply pw_below_drewN | apply below_drew1) | exact HB.out)⟩⟩
  case rest =>
    clear HC2
    try clear p2
    try clear c4
    try clear c6
    obtain ⟨kq, x17_1, rfl, HA, HJ1, HB⟩ := hcut
    cases kq with
    | zero => exact absurd HA.out (by simp [bonsailaw21_RowsSizes.j0])
    | succ kj1 =>
      have H := HA.out
      clear HA
      simp only [bonsailaw21_RowsSizes.j0] at H
      by_cases c7 : x17_1 = true
      · subst c7
        have H1 : ((bonsailaw21_live.f).bind fun t328 => (some t328)) = some r := by rw [if_pos rfl] at H; exact H
        clear H
        have H := H1
        clear H1
        replace H := Option.bind_eq_some_iff.mp H
        obtain ⟨t328, A80, H⟩ := H
        replace H : (some t328) = some r := H
        have A8 := Aside0.mk A80
        clear A80
        obtain rfl := Option.some.inj H
        go_wp2_with (first | ((with_reducible refine gate_callee (f := 8) rfl ?_); refine goesL_ (some 18) rfl rfl Try.func8 (by kernel_rfl) rfl #[] rfl (by (try simp only [List.map_toArray, List.map_cons, List.map_nil]); first | done | rfl | (simp only [List.length_drop, List.length_take]; rfl)) ?_; (with_reducible refine (bonsailaw21_live.calls  t328 _ A8.out).mono ?_); rintro e w9 ⟨rfl, hb⟩; refine ⟨_, rfl, ?_⟩; have n0_ := Aside0.mk (below_step (by repeat (first | (with_reducible first | exact HB.out | apply below_alloc | apply pw_below_drewN | apply below_drew1) | exact HB.out)) hb); clear HB; have HB := n0_; clear n0_; (try clear hb); (try clear hb2); (try clear hk); (try clear hi)))
        go_ret
        exact ⟨by first | rfl | (simp [errW_none, errW_some] <;> rfl) | (simp [*, errW_none, errW_some] <;> rfl), by repeat (first | (with_reducible first | exact HB.out | apply below_alloc | apply pw_below_drewN | apply below_drew1) | exact HB.out)⟩
      · replace c7 := Bool.eq_false_iff.mpr c7
        subst c7
        have H1 : (bonsailaw21_RowsSizes.l0 kj1 l0 (⟨#[]⟩ : ByteArray) 0) = some r := by rw [if_neg (show ¬ (false = true) by decide)] at H; exact H
        clear H
        have H := H1
        clear H1
        have H' := Aside0.mk H
        clear H
        go_wp2
        go_loopg [3, 4] kj1 (fun kq v3 v4 w' => ∃ (x3_2 : ByteArray) (x4_2 : Int), v3 = .string x3_2 ∧ v4 = .int .i64 x4_2 ∧ Aside0 (bonsailaw21_RowsSizes.l0 kq l0 x3_2 x4_2 = some r) ∧ Aside0 (kq ≤ kj1) ∧ Aside0 (Below w.heap.size w w'))
        case atStart => exact ⟨((⟨#[]⟩ : ByteArray)), (0), (by first | rfl | (simp; done) | (simp [*]; done)), (by first | rfl | (simp; done) | (simp [*]; done)), H', ⟨Nat.le_refl _⟩, ⟨by repeat (first | (with_reducible first | exact HB.out | apply below_alloc | apply pw_below_drewN | apply below_drew1) | exact HB.out)⟩⟩
        case round =>
          clear H'
          try clear p2
          try clear c4
          try clear c6
          try clear c7
          try clear c8
          try clear p2
          obtain ⟨x3_2, x4_2, rfl, rfl, HA, HK2, HB⟩ := hrel
          cases gk with
          | zero => exact absurd HA.out (by simp [bonsailaw21_RowsSizes.l0])
          | succ k2 =>
            have H := HA.out
            clear HA
            simp only [bonsailaw21_RowsSizes.l0] at H
            by_cases c10 : x4_2 < (l0.length : Int)
            · rw [if_pos c10] at H
              have c10b0 : decide (x4_2 < (l0.length : Int)) = true := decide_eq_true c10
              clear c10
              by_cases c11 : 0 ≤ x4_2
              · rw [if_pos c11] at H
                have c11b0 := eq_true c11
                have c11b1 : decide (0 ≤ x4_2) = true := decide_eq_true c11
                clear c11
                by_cases c12 : x4_2 ≤ (l0.length : Int)
                · rw [if_pos c12] at H
                  have c12b0 := eq_true c12
                  have c12b1 : decide (x4_2 ≤ (l0.length : Int)) = true := decide_eq_true c12
                  clear c12
                  obtain ⟨y335, hy335⟩ : ∃ y_ : List (S30), y_ = (l0.take (x4_2 : Int).toNat) := ⟨_, rfl⟩
                  replace H : ((rows_Encode.f y335).bind fun bt339 => (if bt339.2 = 0 then (if (bt339.1.size : Int) = (wrap64 (6 + (x3_2.size : Int))) then (if 6 ≤ (bt339.1.size : Int) then (bonsailaw21_RowsSizes.j2 k2 l0 x3_2 x4_2 ((bt339.1.extract 6 bt339.1.size).toList != x3_2.toList)) else (none)) else (bonsailaw21_RowsSizes.j2 k2 l0 x3_2 x4_2 true)) else (bonsailaw21_RowsSizes.j2 k2 l0 x3_2 x4_2 true))) = some r := by first | (rw [hy335]; with_reducible exact H) | (have H2_ := (Option.bind_some _ _).symm.trans H; rw [hy335]; with_reducible exact H2_) | (have H2_ := (Option.bind_some _ _).symm.trans H; with_reducible exact H2_) | with_reducible exact H | (rw [hy335]; exact H) | exact H
                  have Ny335 := Aside0.mk hy335
                  clear hy335
                  replace H := Option.bind_eq_some_iff.mp H
                  obtain ⟨⟨t339, t340⟩, A130, H⟩ := H
                  replace H : (if t340 = 0 then (if (t339.size : Int) = (wrap64 (6 + (x3_2.size : Int))) then (if 6 ≤ (t339.size : Int) then (bonsailaw21_RowsSizes.j2 k2 l0 x3_2 x4_2 ((t339.extract 6 t339.size).toList != x3_2.toList)) else (none)) else (bonsailaw21_RowsSizes.j2 k2 l0 x3_2 x4_2 true)) else (bonsailaw21_RowsSizes.j2 k2 l0 x3_2 x4_2 true)) = some r := H
                  have A13 := Aside0.mk A130
                  clear A130
                  have HC14 := Aside0.mk H
                  clear H
                  have q15 : (x4_2 : Int) ≤ ((l0.length : Int) : Int) := of_decide_eq_true (by first | (with_reducible assumption) | assumption)
                  obtain ⟨i015, hi015, _, hsz15, _⟩ := info_parts info30
                  have hroom15 : l0.length ≤ c0 := HC0.out
                  have hC15 : Kd.C k30 _ A0 l0.length l0 := HR0.out
                  have hcut15 := cut_to (P := Try.prog) 22 30 .i64 Try.underlying22 hi015 A0 l0.length c0 x4_2 (of_decide_eq_true (by first | (with_reducible assumption) | assumption)) q15 hroom15
                  have hr15 := Kd.C_take (m := (x4_2 : Int).toNat) hC15 (by omega)
                  have hy15 : y335.length = (x4_2 : Int).toNat := (by rw [Ny335.out, List.length_take]; omega)
                  rw [← Ny335.out] at hr15
                  rw [← hy15] at hcut15
                  have HR338 := Aside0.mk hr15
                  have HC338 := Aside0.mk (show y335.length ≤ c0 from by omega)
                  clear hr15 hC15 hroom15 hi015 hsz15
                  have KY15 := Aside0.mk hy15
                  clear hy15
                  replace q15 := eq_true q15
                  go_upto_region 8 with (first | ((with_reducible refine gate_callee (f := 11) rfl ?_); refine goesL_ (some 29) rfl rfl Try.func11 (by kernel_rfl) rfl #[.slice A0 y335.length c0] rfl (by (try simp only [List.map_toArray, List.map_cons, List.map_nil]); first | done | rfl | (simp only [List.length_drop, List.length_take]; rfl)) ?_; (with_reducible refine (rows_Encode.calls _ _ y335 t339 t340 _ ?side1 ?side2 A13.out).mono ?_); (case side1 => repeat (first | exact (Kd.C_below HR338.out HB.out) | (with_reducible refine Kd.C_alloc ?_ _) | (with_reducible refine Kd.C_drewN ?_ _) | (with_reducible refine Kd.C_drew ?_))); (case side2 => exact HC338.out); rintro e w16 ⟨rfl, hb⟩; refine ⟨_, rfl, ?_⟩; have n0_ := Aside0.mk (below_step (by repeat (first | (with_reducible first | exact HB.out | apply below_alloc | apply pw_below_drewN | apply below_drew1) | exact HB.out)) hb); clear HB; have HB := n0_; clear n0_; (try clear hb); (try clear hb2); (try clear hk); (try clear hi)))
                  (try simp only [Act.put, List.setIfInBounds_toArray, List.set_cons_zero, List.set_cons_succ])
                  go_cut [47] (fun v47 wc => ∃ (kq : Nat) (x47_13 : Bool), v47 = .bool x47_13 ∧ Aside0 (bonsailaw21_RowsSizes.j2 kq l0 x3_2 x4_2 x47_13 = some r) ∧ Aside0 (kq ≤ k2) ∧ Aside0 (Below w.heap.size w wc))
                  case first =>
                    have H := HC14.out
                    clear HC14
                    by_cases c17 : t340 = 0
                    · rw [if_pos c17] at H
                      have c17b0 : (t340 == 0) = true := beq_iff_eq.mpr c17
                      have c17b1 : (t340 != 0) = false := bne_eq_false_iff_eq.mpr c17
                      clear c17
                      (first | rw [c17b0] | (simp only [i64_w, i32_w]; rw [c17b0]) | skip)
                      by_cases c18 : (t339.size : Int) = (wrap64 (6 + (x3_2.size : Int)))
                      · rw [if_pos c18] at H
                        have c18b0 : ((t339.size : Int) == (wrap64 (6 + (x3_2.size : Int)))) = true := beq_iff_eq.mpr c18
                        have c18b1 : ((t339.size : Int) != (wrap64 (6 + (x3_2.size : Int)))) = false := bne_eq_false_iff_eq.mpr c18
                        clear c18
                        by_cases c19 : 6 ≤ (t339.size : Int)
                        · rw [if_pos c19] at H
                          have c19b0 := eq_true c19
                          have c19b1 : decide (6 ≤ (t339.size : Int)) = true := decide_eq_true c19
                          clear c19
                          have H' := Aside0.mk H
                          clear H
                          go_wp2
                          go_meet
                          case rel => exact ⟨_, (((t339.extract 6 t339.size).toList != x3_2.toList)), (by first | rfl | (simp; done) | (simp [*]; done)), H', ⟨by have := HJ1.out; have := HK2.out; first | omega | exact Nat.le_refl _⟩, ⟨by repeat (first | (with_reducible first | exact HB.out | apply below_alloc | apply pw_below_drewN | apply below_drew1) | exact HB.out)⟩⟩
                        · rw [if_neg c19] at H
                          exact absurd H (by simp)
                      · rw [if_neg c18] at H
                        have c18b0 : ((t339.size : Int) == (wrap64 (6 + (x3_2.size : Int)))) = false := beq_eq_false_iff_ne.mpr c18
                        have c18b1 : ((t339.size : Int) != (wrap64 (6 + (x3_2.size : Int)))) = true := bne_iff_ne.mpr c18
                        have H' := Aside0.mk H
                        clear H
                        go_wp2
                        go_meet
                        case rel => exact ⟨_, (true), (by first | rfl | (simp; done) | (simp [*]; done)), H', ⟨by have := HJ1.out; have := HK2.out; first | omega | exact Nat.le_refl _⟩, ⟨by repeat (first | (with_reducible first | exact HB.out | apply below_alloc | apply pw_below_drewN | apply below_drew1) | exact HB.out)⟩⟩
                    · rw [if_neg c17] at H
                      have c17b0 : (t340 == 0) = false := beq_eq_false_iff_ne.mpr c17
                      have c17b1 : (t340 != 0) = true := bne_iff_ne.mpr c17
                      (first | rw [c17b0] | (simp only [i64_w, i32_w]; rw [c17b0]) | skip)
                      have H' := Aside0.mk H
                      clear H
                      go_wp2
                      go_meet
                      case rel => exact ⟨_, (true), (by first | rfl | (simp; done) | (simp [*]; done)), H', ⟨by have := HJ1.out; have := HK2.out; first | omega | exact Nat.le_refl _⟩, ⟨by repeat (first | (with_reducible first | exact HB.out | apply below_alloc | apply pw_below_drewN | apply below_drew1) | exact HB.out)⟩⟩
                  case rest =>
                    clear HC14
                    try clear c1
                    try clear q1
                    try clear p2
                    try clear c4
                    try clear c6
                    try clear p6
                    try clear c7
                    try clear c8
                    try clear c10
                    try clear c10b0
                    try clear c11
                    try clear c11b0
                    try clear c11b1
                    try clear c12
                    try clear c12b0
                    try clear c12b1
                    try clear q15
                    try clear c17
                    try clear c17b0
                    try clear c17b1
                    try clear c18
                    try clear c18b0
                    try clear c18b1
                    try clear c19
                    try clear c19b0
                    try clear c19b1
                    try clear p2
                    try clear q15
                    obtain ⟨kq, x47_13, rfl, HA, HJ13, HB⟩ := hcut
                    cases kq with
                    | zero => exact absurd HA.out (by simp [bonsailaw21_RowsSizes.j2])
                    | succ kj13 =>
                      have H := HA.out
                      clear HA
                      simp only [bonsailaw21_RowsSizes.j2] at H
                      by_cases c20 : x47_13 = true
                      · subst c20
                        have H1 : (some false) = some r := by rw [if_pos rfl] at H; exact H
                        clear H
                        have H := H1
                        clear H1
                        obtain rfl := Option.some.inj H
                        go_wp2
                        go_ret
                        exact ⟨by first | rfl | (simp [errW_none, errW_some] <;> rfl) | (simp [*, errW_none, errW_some] <;> rfl), by repeat (first | (with_reducible first | exact HB.out | apply below_alloc | apply pw_below_drewN | apply below_drew1) | exact HB.out)⟩
                      · replace c20 := Bool.eq_false_iff.mpr c20
                        subst c20
                        have H1 : (if 0 ≤ x4_2 then (if x4_2 < (l0.length : Int) then ((rows_One.f ((rd_T30 l0 x4_2).f0.f0) ((rd_T30 l0 x4_2).f0.f1) ((rd_T30 l0 x4_2).f1) ((rd_T30 l0 x4_2).f2) ((rd_T30 l0 x4_2).f3) ((rd_T30 l0 x4_2).f4)).bind fun t342 => (if (t342.size : Int) < 13 then (some false) else (if (t342.size : Int) > 117 then (some false) else (if x3_2.size + t342.size ≤ 9223372036854775807 then (bonsailaw21_RowsSizes.l0 kj13 l0 (x3_2 ++ t342) (wrap64 (x4_2 + 1))) else (none))))) else (none)) else (none)) = some r := by rw [if_neg (show ¬ (false = true) by decide)] at H; exact H
                        clear H
                        have H := H1
                        clear H1
                        by_cases c21 : 0 ≤ x4_2
                        · rw [if_pos c21] at H
                          have c21b0 : decide (0 ≤ x4_2) = true := decide_eq_true c21
                          clear c21
                          by_cases c22 : x4_2 < (l0.length : Int)
                          · rw [if_pos c22] at H
                            have c22b0 : decide (x4_2 < (l0.length : Int)) = true := decide_eq_true c22
                            clear c22
                            replace H := Option.bind_eq_some_iff.mp H
                            obtain ⟨t342, A230, H⟩ := H
                            replace H : (if (t342.size : Int) < 13 then (some false) else (if (t342.size : Int) > 117 then (some false) else (if x3_2.size + t342.size ≤ 9223372036854775807 then (bonsailaw21_RowsSizes.l0 kj13 l0 (x3_2 ++ t342) (wrap64 (x4_2 + 1))) else (none)))) = some r := H
                            have A23 := Aside0.mk A230
                            clear A230
                            by_cases c24 : (t342.size : Int) < 13
                            · rw [if_pos c24] at H
                              have c24b0 : decide ((t342.size : Int) < 13) = true := decide_eq_true c24
                              have c24b1 : decide (t342.size < 13) = true := decide_eq_true (by omega)
                              clear c24
                              obtain rfl := Option.some.inj H
                              have p341 : 0 ≤ (x4_2 : Int) := of_decide_eq_true (by first | (with_reducible assumption) | assumption)
                              have q341 : x4_2 < (l0.length : Int) := of_decide_eq_true (by first | (with_reducible assumption) | assumption)
                              obtain ⟨ad341, e341, hx341_0, hx341_1, hx341_2, hx341_3, hx341_4, hx341_5⟩ := at_T30 HR0.out x4_2 p341 q341
                              cases e341
                              replace hx341_0 := (HB.out.cell (World.block_lt_of_cell? w _ hx341_0)).trans hx341_0
                              replace hx341_1 := (HB.out.cell (World.block_lt_of_cell? w _ hx341_1)).trans hx341_1
                              replace hx341_2 := (HB.out.cell (World.block_lt_of_cell? w _ hx341_2)).trans hx341_2
                              replace hx341_3 := (HB.out.cell (World.block_lt_of_cell? w _ hx341_3)).trans hx341_3
                              replace hx341_4 := (HB.out.cell (World.block_lt_of_cell? w _ hx341_4)).trans hx341_4
                              replace hx341_5 := (HB.out.cell (World.block_lt_of_cell? w _ hx341_5)).trans hx341_5
                              replace p341 := eq_true p341
                              replace q341 := eq_true q341
                              go_wp2_with (first | ((with_reducible refine gate_callee (f := 9) rfl ?_); refine goesL_ (some 52) rfl rfl Try.func9 (by kernel_rfl) rfl #[.agg #[.int .i64 ((rd_T30 l0 x4_2).f0.f0), .int .i64 ((rd_T30 l0 x4_2).f0.f1), .int .i64 ((rd_T30 l0 x4_2).f1), .int .i64 ((rd_T30 l0 x4_2).f2), .string ((rd_T30 l0 x4_2).f3), .float .f64 ((rd_T30 l0 x4_2).f4)]] rfl (by (try simp only [List.map_toArray, List.map_cons, List.map_nil]); first | done | rfl | (simp only [List.length_drop, List.length_take]; rfl)) ?_; (with_reducible refine (rows_One.calls ((rd_T30 l0 x4_2).f0.f0) ((rd_T30 l0 x4_2).f0.f1) ((rd_T30 l0 x4_2).f1) ((rd_T30 l0 x4_2).f2) ((rd_T30 l0 x4_2).f3) ((rd_T30 l0 x4_2).f4) t342 _ A23.out).mono ?_); rintro e w25 ⟨rfl, hb⟩; refine ⟨_, rfl, ?_⟩; have n0_ := Aside0.mk (below_step (by repeat (first | (with_reducible first | exact HB.out | apply below_alloc | apply pw_below_drewN | apply below_drew1) | exact HB.out)) hb); clear HB; have HB := n0_; clear n0_; (try clear hb); (try clear hb2); (try clear hk); (try clear hi)))
                              go_ret
                              exact ⟨by first | rfl | (simp [errW_none, errW_some] <;> rfl) | (simp [*, errW_none, errW_some] <;> rfl), by repeat (first | (with_reducible first | exact HB.out | apply below_alloc | apply pw_below_drewN | apply below_drew1) | exact HB.out)⟩
                            · rw [if_neg c24] at H
                              have c24b0 : decide ((t342.size : Int) < 13) = false := decide_eq_false c24
                              have c24b1 : decide (t342.size < 13) = false := decide_eq_false (by omega)
                              clear c24
                              by_cases c26 : (t342.size : Int) > 117
                              · rw [if_pos c26] at H
                                have c26b0 : decide (117 < (t342.size : Int)) = true := decide_eq_true c26
                                have c26b1 : decide (117 < t342.size) = true := decide_eq_true (by omega)
                                clear c26
                                obtain rfl := Option.some.inj H
                                have p341 : 0 ≤ (x4_2 : Int) := of_decide_eq_true (by first | (with_reducible assumption) | assumption)
                                have q341 : x4_2 < (l0.length : Int) := of_decide_eq_true (by first | (with_reducible assumption) | assumption)
                                obtain ⟨ad341, e341, hx341_0, hx341_1, hx341_2, hx341_3, hx341_4, hx341_5⟩ := at_T30 HR0.out x4_2 p341 q341
                                cases e341
                                replace hx341_0 := (HB.out.cell (World.block_lt_of_cell? w _ hx341_0)).trans hx341_0
                                replace hx341_1 := (HB.out.cell (World.block_lt_of_cell? w _ hx341_1)).trans hx341_1
                                replace hx341_2 := (HB.out.cell (World.block_lt_of_cell? w _ hx341_2)).trans hx341_2
                                replace hx341_3 := (HB.out.cell (World.block_lt_of_cell? w _ hx341_3)).trans hx341_3
                                replace hx341_4 := (HB.out.cell (World.block_lt_of_cell? w _ hx341_4)).trans hx341_4
                                replace hx341_5 := (HB.out.cell (World.block_lt_of_cell? w _ hx341_5)).trans hx341_5
                                replace p341 := eq_true p341
                                replace q341 := eq_true q341
                                go_wp2_with (first | ((with_reducible refine gate_callee (f := 9) rfl ?_); refine goesL_ (some 52) rfl rfl Try.func9 (by kernel_rfl) rfl #[.agg #[.int .i64 ((rd_T30 l0 x4_2).f0.f0), .int .i64 ((rd_T30 l0 x4_2).f0.f1), .int .i64 ((rd_T30 l0 x4_2).f1), .int .i64 ((rd_T30 l0 x4_2).f2), .string ((rd_T30 l0 x4_2).f3), .float .f64 ((rd_T30 l0 x4_2).f4)]] rfl (by (try simp only [List.map_toArray, List.map_cons, List.map_nil]); first | done | rfl | (simp only [List.length_drop, List.length_take]; rfl)) ?_; (with_reducible refine (rows_One.calls ((rd_T30 l0 x4_2).f0.f0) ((rd_T30 l0 x4_2).f0.f1) ((rd_T30 l0 x4_2).f1) ((rd_T30 l0 x4_2).f2) ((rd_T30 l0 x4_2).f3) ((rd_T30 l0 x4_2).f4) t342 _ A23.out).mono ?_); rintro e w27 ⟨rfl, hb⟩; refine ⟨_, rfl, ?_⟩; have n0_ := Aside0.mk (below_step (by repeat (first | (with_reducible first | exact HB.out | apply below_alloc | apply pw_below_drewN | apply below_drew1) | exact HB.out)) hb); clear HB; have HB := n0_; clear n0_; (try clear hb); (try clear hb2); (try clear hk); (try clear hi)))
                                go_ret
                                exact ⟨by first | rfl | (simp [errW_none, errW_some] <;> rfl) | (simp [*, errW_none, errW_some] <;> rfl), by repeat (first | (with_reducible first | exact HB.out | apply below_alloc | apply pw_below_drewN | apply below_drew1) | exact HB.out)⟩
                              · rw [if_neg c26] at H
                                have c26b0 : decide (117 < (t342.size : Int)) = false := decide_eq_false c26
                                have c26b1 : decide (117 < t342.size) = false := decide_eq_false (by omega)
                                clear c26
                                by_cases c28 : x3_2.size + t342.size ≤ 9223372036854775807
                                · rw [if_pos c28] at H
                                  have c28b0 := eq_true c28
                                  have c28b1 : decide (x3_2.size + t342.size ≤ 9223372036854775807) = true := decide_eq_true c28
                                  try have c28b2 : (9223372036854775807 < x3_2.size + t342.size) = False := eq_false (Nat.not_lt.2 c28)
                                  have H' := Aside0.mk H
                                  clear H
                                  have p341 : 0 ≤ (x4_2 : Int) := of_decide_eq_true (by first | (with_reducible assumption) | assumption)
                                  have q341 : x4_2 < (l0.length : Int) := of_decide_eq_true (by first | (with_reducible assumption) | assumption)
                                  obtain ⟨ad341, e341, hx341_0, hx341_1, hx341_2, hx341_3, hx341_4, hx341_5⟩ := at_T30 HR0.out x4_2 p341 q341
                                  cases e341
                                  replace hx341_0 := (HB.out.cell (World.block_lt_of_cell? w _ hx341_0)).trans hx341_0
                                  replace hx341_1 := (HB.out.cell (World.block_lt_of_cell? w _ hx341_1)).trans hx341_1
                                  replace hx341_2 := (HB.out.cell (World.block_lt_of_cell? w _ hx341_2)).trans hx341_2
                                  replace hx341_3 := (HB.out.cell (World.block_lt_of_cell? w _ hx341_3)).trans hx341_3
                                  replace hx341_4 := (HB.out.cell (World.block_lt_of_cell? w _ hx341_4)).trans hx341_4
                                  replace hx341_5 := (HB.out.cell (World.block_lt_of_cell? w _ hx341_5)).trans hx341_5
                                  replace p341 := eq_true p341
                                  replace q341 := eq_true q341
                                  go_wp2_with (first | ((with_reducible refine gate_callee (f := 9) rfl ?_); refine goesL_ (some 52) rfl rfl Try.func9 (by kernel_rfl) rfl #[.agg #[.int .i64 ((rd_T30 l0 x4_2).f0.f0), .int .i64 ((rd_T30 l0 x4_2).f0.f1), .int .i64 ((rd_T30 l0 x4_2).f1), .int .i64 ((rd_T30 l0 x4_2).f2), .string ((rd_T30 l0 x4_2).f3), .float .f64 ((rd_T30 l0 x4_2).f4)]] rfl (by (try simp only [List.map_toArray, List.map_cons, List.map_nil]); first | done | rfl | (simp only [List.length_drop, List.length_take]; rfl)) ?_; (with_reducible refine (rows_One.calls ((rd_T30 l0 x4_2).f0.f0) ((rd_T30 l0 x4_2).f0.f1) ((rd_T30 l0 x4_2).f1) ((rd_T30 l0 x4_2).f2) ((rd_T30 l0 x4_2).f3) ((rd_T30 l0 x4_2).f4) t342 _ A23.out).mono ?_); rintro e w29 ⟨rfl, hb⟩; refine ⟨_, rfl, ?_⟩; have n0_ := Aside0.mk (below_step (by repeat (first | (with_reducible first | exact HB.out | apply below_alloc | apply pw_below_drewN | apply below_drew1) | exact HB.out)) hb); clear HB; have HB := n0_; clear n0_; (try clear hb); (try clear hb2); (try clear hk); (try clear hi)))
                                  go_roundg kj13
                                  case measure => have := HJ1.out; have := HK2.out; have := HJ13.out; omega
                                  case rel => exact ⟨(x3_2 ++ t342), (wrap64 (x4_2 + 1)), (by first | rfl | (simp; done) | (simp [*]; done)), (by first | rfl | (simp; done) | (simp [*]; done)), H', ⟨by have := HJ1.out; have := HK2.out; have := HJ13.out; omega⟩, ⟨by repeat (first | (with_reducible first | exact HB.out | apply below_alloc | apply pw_below_drewN | apply below_drew1) | exact HB.out)⟩⟩
                                · rw [if_neg c28] at H
                                  exact absurd H (by simp)
                          · rw [if_neg c22] at H
                            exact absurd H (by simp)
                        · rw [if_neg c21] at H
                          exact absurd H (by simp)
                · rw [if_neg c12] at H
                  exact absurd H (by simp)
              · rw [if_neg c11] at H
                exact absurd H (by simp)
            · rw [if_neg c10] at H
              have c10b0 : decide (x4_2 < (l0.length : Int)) = false := decide_eq_false c10
              clear c10
              replace H := Option.bind_eq_some_iff.mp H
              obtain ⟨⟨t329, t330⟩, A300, H⟩ := H
              replace H : (if t330 = 0 then ((some (([((l0.length : Int)) % 256] : List Int) : List Int)).bind fun y331 => (if 5 + (strOfNums y331).size ≤ 9223372036854775807 then (if ((⟨#[66, 78, 83, 73, 1]⟩ : ByteArray) ++ (strOfNums y331)).size + x3_2.size ≤ 9223372036854775807 then (if t329.toList = (((⟨#[66, 78, 83, 73, 1]⟩ : ByteArray) ++ (strOfNums y331)) ++ x3_2).toList then ((bonsailaw21_live.f).bind fun t334 => (some t334)) else (some false)) else (none)) else (none))) else (some false)) = some r := H
              have A30 := Aside0.mk A300
              clear A300
              by_cases c31 : t330 = 0
              · rw [if_pos c31] at H
                have c31b0 : (t330 == 0) = true := beq_iff_eq.mpr c31
                have c31b1 : (t330 != 0) = false := bne_eq_false_iff_eq.mpr c31
                clear c31
                obtain ⟨y331, hy331⟩ : ∃ y_ : List Int, y_ = (([((l0.length : Int)) % 256] : List Int)) := ⟨_, rfl⟩
                replace H : (if 5 + (strOfNums y331).size ≤ 9223372036854775807 then (if ((⟨#[66, 78, 83, 73, 1]⟩ : ByteArray) ++ (strOfNums y331)).size + x3_2.size ≤ 9223372036854775807 then (if t329.toList = (((⟨#[66, 78, 83, 73, 1]⟩ : ByteArray) ++ (strOfNums y331)) ++ x3_2).toList then ((bonsailaw21_live.f).bind fun t334 => (some t334)) else (some false)) else (none)) else (none)) = some r := by first | (rw [hy331]; with_reducible exact H) | (have H2_ := (Option.bind_some _ _).symm.trans H; rw [hy331]; with_reducible exact H2_) | (have H2_ := (Option.bind_some _ _).symm.trans H; with_reducible exact H2_) | with_reducible exact H | (rw [hy331]; exact H) | exact H
                have Ny331 := Aside0.mk hy331
                clear hy331
                by_cases c32 : 5 + (strOfNums y331).size ≤ 9223372036854775807
                · rw [if_pos c32] at H
                  have c32b0 := eq_true c32
                  have c32b1 : decide (5 + (strOfNums y331).size ≤ 9223372036854775807) = true := decide_eq_true c32
                  try have c32b2 : (9223372036854775807 < 5 + (strOfNums y331).size) = False := eq_false (Nat.not_lt.2 c32)
                  by_cases c33 : ((⟨#[66, 78, 83, 73, 1]⟩ : ByteArray) ++ (strOfNums y331)).size + x3_2.size ≤ 9223372036854775807
                  · rw [if_pos c33] at H
                    have c33b0 := eq_true c33
                    have c33b1 : decide (((⟨#[66, 78, 83, 73, 1]⟩ : ByteArray) ++ (strOfNums y331)).size + x3_2.size ≤ 9223372036854775807) = true := decide_eq_true c33
                    try have c33b2 : (9223372036854775807 < ((⟨#[66, 78, 83, 73, 1]⟩ : ByteArray) ++ (strOfNums y331)).size + x3_2.size) = False := eq_false (Nat.not_lt.2 c33)
                    by_cases c34 : t329.toList = (((⟨#[66, 78, 83, 73, 1]⟩ : ByteArray) ++ (strOfNums y331)) ++ x3_2).toList
                    · rw [if_pos c34] at H
                      have c34b0 : (t329.toList == (((⟨#[66, 78, 83, 73, 1]⟩ : ByteArray) ++ (strOfNums y331)) ++ x3_2).toList) = true := beq_iff_eq.mpr c34
                      have c34b1 : (t329.toList != (((⟨#[66, 78, 83, 73, 1]⟩ : ByteArray) ++ (strOfNums y331)) ++ x3_2).toList) = false := bne_eq_false_iff_eq.mpr c34
                      clear c34
                      replace H := Option.bind_eq_some_iff.mp H
                      obtain ⟨t334, A350, H⟩ := H
                      replace H : (some t334) = some r := H
                      have A35 := Aside0.mk A350
                      clear A350
                      obtain rfl := Option.some.inj H
                      go_wp2_with (first | ((with_reducible refine gate_callee (f := 11) rfl ?_); refine goesL_ (some 66) rfl rfl Try.func11 (by kernel_rfl) rfl #[.slice A0 l0.length c0] rfl (by (try simp only [List.map_toArray, List.map_cons, List.map_nil]); first | done | rfl | (simp only [List.length_drop, List.length_take]; rfl)) ?_; (with_reducible refine (rows_Encode.calls _ _ l0 t329 t330 _ ?side1 ?side2 A30.out).mono ?_); (case side1 => repeat (first | exact (Kd.C_below HR0.out HB.out) | (with_reducible refine Kd.C_alloc ?_ _) | (with_reducible refine Kd.C_drewN ?_ _) | (with_reducible refine Kd.C_drew ?_))); (case side2 => exact HC0.out); rintro e w36 ⟨rfl, hb⟩; refine ⟨_, rfl, ?_⟩; have n0_ := Aside0.mk (below_step (by repeat (first | (with_reducible first | exact HB.out | apply below_alloc | apply pw_below_drewN | apply below_drew1) | exact HB.out)) hb); clear HB; have HB := n0_; clear n0_; (try clear hb); (try clear hb2); (try clear hk); (try clear hi)) | ((with_reducible refine gate_dst (N := 76) rfl ?_); (try (refine gate_guard (by rfl) ?_; dsimp only)); refine Kd.R_lit (Kd.int .u8) _ 5 ?hg (N := 76) ?hd (xs := ([((l0.length : Int)) % 256] : List Int)) (inner := [.int .u8 (((l0.length : Int)) % 256)]) (ok := fun _ => True) (okp := fun _ => True) ?hr ?hp (fun _ hk => hk) trivial (Below.refl _ _) (Nat.le_refl _) (by simp) ?_; (case hd => rfl); (case hg => rfl); (case hr => first | (go_simp; done) | (go_simp; rfl)); (case hp => exact (Reps.one (show Kd.M (Kd.int .u8) _ _ _ (((l0.length : Int)) % 256) [.int .u8 (((l0.length : Int)) % 256)] from rfl) (Reps.none _ _))); intro v332 w37 ho38 hb hg_ hnew_; clear hg_ hnew_; (first | rw [← Ny331.out] at ho38 | (simp only [Int.reduceToNat] at ho38; rw [← Ny331.out] at ho38)); have n0_ := Aside0.mk (Kd.R_lower ho38 (below_size (by repeat (first | (with_reducible first | exact HB.out | apply below_alloc | apply pw_below_drewN | apply below_drew1) | exact HB.out)))); have n1_ := Aside0.mk (below_step (by repeat (first | (with_reducible first | exact HB.out | apply below_alloc | apply pw_below_drewN | apply below_drew1) | exact HB.out)) hb); clear HB; have HO333 := n0_; have HB := n1_; clear n0_ n1_; clear hb ho38; have hcv39 := own_string (P := Try.prog) Try.underlying42 Try.underlying5 Try.underlying9 (Kd.own_of_R HO333.out)) | (go_at_call 8; (with_reducible refine (bonsailaw21_live.calls  t334 _ A35.out).mono ?_); rintro e w40 ⟨rfl, hb⟩; have n0_ := Aside0.mk (Kd.R_below (by (with_reducible repeat (first | apply Kd.R_alloc | apply Kd.R_drewN | apply Kd.R_drew)); exact HO333.out) hb); have n1_ := Aside0.mk (below_step (by repeat (first | (with_reducible first | exact HB.out | apply below_alloc | apply pw_below_drewN | apply below_drew1) | exact HB.out)) hb); clear HO333; clear HB; have HO333 := n0_; have HB := n1_; clear n0_ n1_; (try clear hb); (try clear hb2); (try clear hk); (try clear hi)))
                      go_ret
                      exact ⟨by first | rfl | (simp [errW_none, errW_some] <;> rfl) | (simp [*, errW_none, errW_some] <;> rfl), by repeat (first | (with_reducible first | exact HB.out | apply below_alloc | apply pw_below_drewN | apply below_drew1) | exact HB.out)⟩
                    · rw [if_neg c34] at H
                      have c34b0 : (t329.toList == (((⟨#[66, 78, 83, 73, 1]⟩ : ByteArray) ++ (strOfNums y331)) ++ x3_2).toList) = false := beq_eq_false_iff_ne.mpr c34
                      have c34b1 : (t329.toList != (((⟨#[66, 78, 83, 73, 1]⟩ : ByteArray) ++ (strOfNums y331)) ++ x3_2).toList) = true := bne_iff_ne.mpr c34
                      obtain rfl := Option.some.inj H
                      go_wp2_with (first | ((with_reducible refine gate_callee (f := 11) rfl ?_); refine goesL_ (some 66) rfl rfl Try.func11 (by kernel_rfl) rfl #[.slice A0 l0.length c0] rfl (by (try simp only [List.map_toArray, List.map_cons, List.map_nil]); first | done | rfl | (simp only [List.length_drop, List.length_take]; rfl)) ?_; (with_reducible refine (rows_Encode.calls _ _ l0 t329 t330 _ ?side1 ?side2 A30.out).mono ?_); (case side1 => repeat (first | exact (Kd.C_below HR0.out HB.out) | (with_reducible refine Kd.C_alloc ?_ _) | (with_reducible refine Kd.C_drewN ?_ _) | (with_reducible refine Kd.C_drew ?_))); (case side2 => exact HC0.out); rintro e w41 ⟨rfl, hb⟩; refine ⟨_, rfl, ?_⟩; have n0_ := Aside0.mk (below_step (by repeat (first | (with_reducible first | exact HB.out | apply below_alloc | apply pw_below_drewN | apply below_drew1) | exact HB.out)) hb); clear HB; have HB := n0_; clear n0_; (try clear hb); (try clear hb2); (try clear hk); (try clear hi)) | ((with_reducible refine gate_dst (N := 76) rfl ?_); (try (refine gate_guard (by rfl) ?_; dsimp only)); refine Kd.R_lit (Kd.int .u8) _ 5 ?hg (N := 76) ?hd (xs := ([((l0.length : Int)) % 256] : List Int)) (inner := [.int .u8 (((l0.length : Int)) % 256)]) (ok := fun _ => True) (okp := fun _ => True) ?hr ?hp (fun _ hk => hk) trivial (Below.refl _ _) (Nat.le_refl _) (by simp) ?_; (case hd => rfl); (case hg => rfl); (case hr => first | (go_simp; done) | (go_simp; rfl)); (case hp => exact (Reps.one (show Kd.M (Kd.int .u8) _ _ _ (((l0.length : Int)) % 256) [.int .u8 (((l0.length : Int)) % 256)] from rfl) (Reps.none _ _))); intro v332 w42 ho43 hb hg_ hnew_; clear hg_ hnew_; (first | rw [← Ny331.out] at ho43 | (simp only [Int.reduceToNat] at ho43; rw [← Ny331.out] at ho43)); have n0_ := Aside0.mk (Kd.R_lower ho43 (below_size (by repeat (first | (with_reducible first | exact HB.out | apply below_alloc | apply pw_below_drewN | apply below_drew1) | exact HB.out)))); have n1_ := Aside0.mk (below_step (by repeat (first | (with_reducible first | exact HB.out | apply below_alloc | apply pw_below_drewN | apply below_drew1) | exact HB.out)) hb); clear HB; have HO333 := n0_; have HB := n1_; clear n0_ n1_; clear hb ho43; have hcv44 := own_string (P := Try.prog) Try.underlying42 Try.underlying5 Try.underlying9 (Kd.own_of_R HO333.out)))
                      go_ret
                      exact ⟨by first | rfl | (simp [errW_none, errW_some] <;> rfl) | (simp [*, errW_none, errW_some] <;> rfl), by repeat (first | (with_reducible first | exact HB.out | apply below_alloc | apply pw_below_drewN | apply below_drew1) | exact HB.out)⟩
                  · rw [if_neg c33] at H
                    exact absurd H (by simp)
                · rw [if_neg c32] at H
                  exact absurd H (by simp)
              · rw [if_neg c31] at H
                have c31b0 : (t330 == 0) = false := beq_eq_false_iff_ne.mpr c31
                have c31b1 : (t330 != 0) = true := bne_iff_ne.mpr c31
                obtain rfl := Option.some.inj H
                go_wp2_with (first | ((with_reducible refine gate_callee (f := 11) rfl ?_); refine goesL_ (some 66) rfl rfl Try.func11 (by kernel_rfl) rfl #[.slice A0 l0.length c0] rfl (by (try simp only [List.map_toArray, List.map_cons, List.map_nil]); first | done | rfl | (simp only [List.length_drop, List.length_take]; rfl)) ?_; (with_reducible refine (rows_Encode.calls _ _ l0 t329 t330 _ ?side1 ?side2 A30.out).mono ?_); (case side1 => repeat (first | exact (Kd.C_below HR0.out HB.out) | (with_reducible refine Kd.C_alloc ?_ _) | (with_reducible refine Kd.C_drewN ?_ _) | (with_reducible refine Kd.C_drew ?_))); (case side2 => exact HC0.out); rintro e w45 ⟨rfl, hb⟩; refine ⟨_, rfl, ?_⟩; have n0_ := Aside0.mk (below_step (by repeat (first | (with_reducible first | exact HB.out | apply below_alloc | apply pw_below_drewN | apply below_drew1) | exact HB.out)) hb); clear HB; have HB := n0_; clear n0_; (try clear hb); (try clear hb2); (try clear hk); (try clear hi)))
                go_ret
                exact ⟨by first | rfl | (simp [errW_none, errW_some] <;> rfl) | (simp [*, errW_none, errW_some] <;> rfl), by repeat (first | (with_reducible first | exact HB.out | apply below_alloc | apply pw_below_drewN | apply below_drew1) | exact HB.out)⟩
end Go.Proofs.Ytfcndhajcikgiaa.B
namespace Go.Proofs.Ytfcndhajcikgiaa.B
open Go.RowKit Go.Proofs.Sp Go.Proofs.Fl Go.Proofs.YtfcndhajcikgiaaW.PrintWords Go.Proofs.YtfcndhajcikgiaaW.PrintLast Go.Proofs.YtfcndhajcikgiaaW.PrintMore
theorem putL_small {n : Nat} (h : n < 128) : putL n = [UInt8.ofNat n] := by unfold putL; rw [putF, if_pos h]
theorem ordM_take : ∀ (l : List S30) (n : Nat), ordM l = true → ordM (l.take n) = true
  | [], n, _ => by simp [ordM]
  | [a], n, _ => by cases n <;> simp [ordM]
  | a :: b :: r, 0, _ => rfl
  | a :: b :: r, 1, _ => rfl
  | a :: b :: r, n + 2, h => by
    rw [ordM, Bool.and_eq_true] at h
    have ih := ordM_take (b :: r) (n + 1) h.2
    rw [List.take_succ_cons, List.take_succ_cons, ordM, h.1, Bool.true_and]
    rw [List.take_succ_cons] at ih; exact ih
theorem may_take {l : List S30} (h : mayM l = true) (n : Nat) : mayM (l.take n) = true := by
  unfold mayM at h ⊢
  simp only [Bool.and_eq_true, decide_eq_true_eq, List.all_eq_true] at h ⊢
  obtain ⟨⟨h1, h2⟩, h3⟩ := h
  exact ⟨⟨ordM_take l n h1, by rw [List.length_take]; omega⟩, fun x hx => h3 x (List.mem_of_mem_take hx)⟩
theorem one_size {x : S30} (h : oneM x = true) : 13 ≤ (encX x).length ∧ (encX x).length ≤ 117 := by
  unfold oneM oneB at h
  simp only [Bool.and_eq_true, decide_eq_true_eq] at h
  have hn : x.f3.size ≤ 64 := h.1.2
  have h0 := putL_le (w64u x.f0.f0); have h1 := putL_le (w64u x.f0.f1); have h2 := putL_le (w64u x.f1); have h3 := putL_le (w64u x.f2)
  have p0 : 1 ≤ (putF 10 (w64u x.f0.f0)).length := putF_pos 9 _; have p1 : 1 ≤ (putF 10 (w64u x.f0.f1)).length := putF_pos 9 _; have p2 : 1 ≤ (putF 10 (w64u x.f1)).length := putF_pos 9 _; have p3 : 1 ≤ (putF 10 (w64u x.f2)).length := putF_pos 9 _
  have h4 : (putL x.f3.size).length = 1 := by rw [putL_small (by omega)]; rfl
  unfold encX
  simp only [List.length_append, fixL_length, len_size, h4]
  unfold putL at *
  omega
theorem head_len : headL.length = 5 := rfl
theorem sizes_end {l : List S30} (hr : Ranks l) (hl : l.length ≤ 40) (hm : mayM l = true) (k : Nat) : bonsailaw21_RowsSizes.l0 (k + 1) l (ba (l.flatMap encX)) l.length = some true := by
  obtain ⟨m1, m2, m3⟩ := may_names hm
  have hf := flat_le l m3
  have e1 : strOfNums [(l.length : Int) % 256] = ba [UInt8.ofNat l.length] := by
    rw [show [(l.length : Int) % 256] = numsL [UInt8.ofNat l.length] by unfold numsL; simp, str_nums]
  have e2 : (⟨#[66, 78, 83, 73, 1]⟩ : ByteArray) = ba headL := rfl
  have e3 : fileX l = headL ++ ([UInt8.ofNat l.length] ++ l.flatMap encX) := by unfold fileX; rw [putL_small (by omega)]
  have c1 : 5 + (ba [UInt8.ofNat l.length]).size ≤ 9223372036854775807 := by rw [ba_size, List.length_singleton]; omega
  have c2 : (ba headL ++ ba [UInt8.ofNat l.length]).size + (ba (l.flatMap encX)).size ≤ 9223372036854775807 := by rw [ba_append, ba_size, ba_size, List.length_append, head_len, List.length_singleton]; omega
  have c3 : (ba (fileX l)).toList = (ba headL ++ ba [UInt8.ofNat l.length] ++ ba (l.flatMap encX)).toList := by rw [ba_append, ba_append, e3, List.append_assoc]
  rw [bonsailaw21_RowsSizes.l0, if_neg (by omega), encode_f hr, if_pos hm]
  simp only [Option.bind_some, if_true, e1, e2]
  refine (if_pos c1).trans ((if_pos c2).trans ((if_pos c3).trans ?_))
  exact rfl
theorem sizes_step {l : List S30} (hr : Ranks l) (hl : l.length ≤ 40) (hm : mayM l = true) (i k : Nat) (hi : i < l.length) (hk : 1 ≤ k) :
    bonsailaw21_RowsSizes.l0 (k + 2) l (ba ((l.take i).flatMap encX)) i = bonsailaw21_RowsSizes.l0 k l (ba ((l.take (i + 1)).flatMap encX)) ((i + 1 : Nat) : Int) := by
  have hg := List.getElem_mem hi
  obtain ⟨m1, m2, m3⟩ := may_names hm
  have hrt : Ranks (l.take i) := fun x hx => hr x (List.mem_of_mem_take hx)
  have hf := flat_le (l.take i) (fun x hx => m3 x (List.mem_of_mem_take hx))
  have ht : (l.take i).length = i := by rw [List.length_take]; omega
  rw [ht] at hf
  have hfile : fileX (l.take i) = headL ++ ([UInt8.ofNat i] ++ (l.take i).flatMap encX) := by unfold fileX; rw [ht, putL_small (by omega)]
  have e2 : (l.take (i + 1)).flatMap encX = (l.take i).flatMap encX ++ encX l[i] := by rw [List.take_succ_eq_append_getElem hi, List.flatMap_append]; simp
  obtain ⟨pre, hpre⟩ : ∃ p, p = (l.take i).flatMap encX := ⟨_, rfl⟩
  have hmt := may_take hm i
  have he := encode_f hrt
  rw [if_pos hmt] at he
  rw [e2, ← hpre]
  rw [← hpre] at hfile hf
  have hlen : (fileX (l.take i)).length = 6 + pre.length := by rw [hfile, List.length_append, List.length_append, head_len, List.length_singleton]; omega
  obtain ⟨s1, s2⟩ := one_size (m2 _ hg)
  have h1 := one_f_ (hr _ hg) (m3 _ hg)
  obtain ⟨fl, hfl⟩ : ∃ f, f = fileX (l.take i) := ⟨_, rfl⟩
  rw [← hfl] at he hfile hlen
  obtain ⟨o, ho⟩ : ∃ o, o = encX l[i] := ⟨_, rfl⟩
  rw [← ho] at s1 s2 h1 ⊢
  have e1 : (((ba fl).extract 6 fl.length).toList != (ba pre).toList) = false := by
    rw [ba_toList, ba_toList, extract_list, ba_list, ba_list, List.take_of_length_le (by rw [List.length_drop]; omega), hfile]
    simp [headL]
  have w1 : wrap64 (6 + (pre.length : Int)) = 6 + (pre.length : Int) := w64 (by omega) (by omega)
  have w2 : wrap64 ((i : Int) + 1) = ((i + 1 : Nat) : Int) := w64 (by omega) (by omega)
  rw [bonsailaw21_RowsSizes.l0]
  refine (if_pos (show (i : Int) < (l.length : Int) by omega)).trans ((if_pos (show (0 : Int) ≤ (i : Int) by omega)).trans ((if_pos (show (i : Int) ≤ (l.length : Int) by omega)).trans ?_))
  rw [Int.toNat_natCast, he]
  simp only [Option.bind_some, ba_size, w1]
  refine (if_pos trivial).trans ((if_pos (show (fl.length : Int) = 6 + (pre.length : Int) by omega)).trans ((if_pos (show (6 : Int) ≤ (fl.length : Int) by omega)).trans ?_))
  rw [e1, bonsailaw21_RowsSizes.j2]
  refine (if_neg (by decide)).trans ((if_pos (show (0 : Int) ≤ (i : Int) by omega)).trans ((if_pos (show (i : Int) < (l.length : Int) by omega)).trans ?_))
  rw [rd_get l i hi, h1]
  simp only [Option.bind_some, ba_size, w2, ba_append]
  exact (if_neg (show ¬ (o.length : Int) < 13 by omega)).trans ((if_neg (show ¬ (o.length : Int) > 117 by omega)).trans (if_pos (show pre.length + o.length ≤ 9223372036854775807 by omega)))
theorem sizes_l {l : List S30} (hr : Ranks l) (hl : l.length ≤ 40) (hm : mayM l = true) : ∀ (d i k : Nat), i + d = l.length → 2 * d + 2 ≤ k → bonsailaw21_RowsSizes.l0 k l (ba ((l.take i).flatMap encX)) i = some true
  | 0, i, k, hd, hk => by
    obtain ⟨k, rfl⟩ : ∃ m, k = m + 1 := ⟨k - 1, by omega⟩
    obtain rfl : i = l.length := by omega
    rw [List.take_length]
    exact sizes_end hr hl hm k
  | d + 1, i, k, hd, hk => by
    obtain ⟨k, rfl⟩ : ∃ m, k = m + 2 := ⟨k - 2, by omega⟩
    rw [sizes_step hr hl hm i k (by omega) (by omega)]
    exact sizes_l hr hl hm d (i + 1) k (by omega) (by omega)
theorem sizes_pure {l : List S30} (hr : Ranks l) : ∃ k, bonsailaw21_RowsSizes.f k l = some true := by
  refine ⟨l.length + 1001, ?_⟩
  unfold bonsailaw21_RowsSizes.f
  rw [few_f l 40 (by decide) _ (by omega)]
  simp only [Option.bind_some]
  by_cases h : fewB l 40 = true
  · obtain ⟨h1, h2⟩ := fewB_names h
    rw [if_pos h, may_ref_f l _ (by omega)]
    simp only [Option.bind_some]
    rw [bonsailaw21_RowsSizes.j0]
    by_cases hm : mayM l = true
    · rw [hm, if_neg (by decide)]
      exact sizes_l hr (by omega) hm l.length 0 _ (by omega) (by omega)
    · rw [if_pos (by simpa using hm)]; rfl
  · rw [if_neg h, bonsailaw21_RowsSizes.j0, if_pos rfl]; rfl
end Go.Proofs.Ytfcndhajcikgiaa.B
namespace Go.Proofs.Ytfcndhajcikgiaa.rowsSizes
open Go.ChangeShapes Go.WideShapes Go.ChangeAt Go.RowKit Go.Proofs.Ytfcndhajcikgiaa.B
open Go.ChangeMaps (open_string shut_string)
theorem own : ownKnob Try.prog.godebug = none := by kernel_rfl
theorem laidOut : laidOutB Try.prog = true := by kernel_rfl
set_option maxRecDepth 100000 in
theorem lifted (os : Os) (started : os.Started) (H : Type) (enc : TypeId × Value → H) :
    ReturnsInHanded {} Try.checked os 6 .any (Rows.rowsSizesSpec.pre6 enc Try.prog Try.f6 Rows.rowsSizesRow.domain false) (Rows.rowsSizesSpec.post enc Try.prog Try.f6 false true false false) := by
  refine returnsInHanded_of_change_sized (C := Try.checked) own started (by kernel_rfl) Try.func6
    (ChangeSpec.witness6 (enc := enc) (C := Try.checked) false ⟨#[], #[.slice none 0 0], []⟩ 8 (by kernel_rfl) (by kernel_rfl) (by kernel_rfl) (by kernel_rfl)) ?_
  intro W base args ds gs before hval0 hW hcnd hsz0 _
  have hsz : (DataW.weightsEach Try.prog (Try.f6.params.toList ++ Rows.rowsSizesSpec.plain.varTypes Try.prog) (ds ++ gs)).all (· ≤ reachBytes) = true := hsz0
  have hval : ∀ (j : Nat) t v, Try.f6.params[j]? = some t → args[j]? = some v → Value.okWide Try.prog W .any base t v := hval0
  have hW' := hW
  obtain ⟨p, q, hA0, hV, rfl, hfz, hnd⟩ := hW
  have hA : DataW.TrodAll enc Try.prog W 0 (fun _ => true) true Try.f6.params.toList args.toList ds p := hA0
  rw [Try.params6] at hA hval hsz
  obtain ⟨v0, vs0, d0, ds0, p0, q0, hargs, rfl, rfl, h0, r0⟩ := trodAll_cons hA
  obtain ⟨rfl, rfl, rfl⟩ := trodAll_nil r0
  obtain rfl : args = #[v0] := by cases args; simp_all
  obtain ⟨rfl, rfl⟩ := trodVars_none hV
  obtain ⟨a0, len0, cap0, rfl⟩ := okWide_slice Try.underlying22 (hval 0 22 v0 rfl rfl)
  have k0 := h0
  have lt0 : ∀ x ∈ p0, x.block < W.heap.size := by obtain ⟨m, hm⟩ := k0; exact DataW.trod_lt m _ _ _ hm
  obtain ⟨l0, rfl, hc0, hC0, hR0⟩ := open_moves h0
  clear hA0 hval0 hsz0 hsz
  obtain ⟨k, hk⟩ := sizes_pure hR0
  refine (bonsailaw21_RowsSizes.calls k a0 cap0 l0 true W hC0 hc0 hk).mono fun e W' ⟨he, bel⟩ => ?_
  subst he
  exact ⟨_, rfl, _, _, _, [], _, [], hW', trodAll_mk1 (shut_bool Try.underlying4 _), (trodAll_cons_mk (Below.trod laidOut (by kernel_rfl) (of_decide_eq_true (by kernel_rfl)) k0 bel lt0) trodAll_mk0), rfl, bel.frame _, fun h => by cases h⟩
theorem over : Rows.rowsSizesRow.holds Try.pinned (OpenSpec.ofChange Rows.rowsSizesSpec) :=
  OpenClaim.holds_of_wide 6 Try.f6 rfl rfl rfl rfl rfl rfl rfl ⟨rfl, rfl, rfl, rfl, rfl⟩ rfl rfl rfl rfl rfl (by kernel_rfl) Try.func6 (by kernel_rfl)
    (of_decide_eq_true (by kernel_rfl)) (by unfold Func.isWrapper; first | (rw [if_pos (by decide +kernel)]; kernel_rfl) | (rw [if_neg (by decide +kernel)]; exact ⟨rfl, rfl⟩))
    (fun os started H enc _ => lifted os started H enc)
end Go.Proofs.Ytfcndhajcikgiaa.rowsSizes
namespace Go.Proofs.Ytfcndhajcikgiaa
/-- The row, under a short name, for the claim. -/
theorem rowsSizes_holds : Rows.RowsSizesSaid := rowsSizes.over
#print axioms rowsSizes_holds
end Go.Proofs.Ytfcndhajcikgiaa
