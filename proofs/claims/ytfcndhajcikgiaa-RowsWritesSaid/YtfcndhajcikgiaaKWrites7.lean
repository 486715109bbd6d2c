/- RowsWrites: for every input the law returns true, and the input reads behind the call as it read before. (Part 7 of 11.) -/
import Derived.Test.YtfcndhajcikgiaaKWrites6
set_option linter.unusedVariables false
set_option linter.unusedSimpArgs false
namespace Go.Proofs.Ytfcndhajcikgiaa.B
open Go.RowKit Go.Proofs.YtfcndhajcikgiaaW.PrintWords Go.Proofs.YtfcndhajcikgiaaW.PrintLast Go.Proofs.YtfcndhajcikgiaaW.PrintMore
mutual
def bonsairef04_sign.j0 : Nat → ByteArray → Int → Bool → Option (Int)
  | 0, _, _, _ => none
  | k + 1, x0, x1, x16 => if x16 = true then (some 2) else ((bonsairef04_in.f x0 (wrap64 (x1 + 2)) 128 191).bind fun t130 => (if t130 = true then ((bonsairef04_in.f x0 x1 224 224).bind fun t131 => (if t131 = true then ((bonsairef04_in.f x0 (wrap64 (x1 + 1)) 160 191).bind fun t132 => (if t132 = true then (bonsairef04_sign.j1 k x0 x1 true) else ((bonsairef04_in.f x0 x1 225 236).bind fun t133 => (if t133 = true then ((bonsairef04_in.f x0 (wrap64 (x1 + 1)) 128 191).bind fun t134 => (if t134 = true then (bonsairef04_sign.j1 k x0 x1 true) else ((bonsairef04_in.f x0 x1 238 239).bind fun t135 => (if t135 = true then ((bonsairef04_in.f x0 x1 237 237).bind fun t136 => (if t136 = true then ((bonsairef04_in.f x0 (wrap64 (x1 + 1)) 128 159).bind fun t137 => (bonsairef04_sign.j1 k x0 x1 t137)) else (bonsairef04_sign.j1 k x0 x1 false))) else ((bonsairef04_in.f x0 x1 237 237).bind fun t138 => (if t138 = true then ((bonsairef04_in.f x0 (wrap64 (x1 + 1)) 128 159).bind fun t139 => (bonsairef04_sign.j1 k x0 x1 t139)) else (bonsairef04_sign.j1 k x0 x1 false))))))) else ((bonsairef04_in.f x0 x1 238 239).bind fun t140 => (if t140 = true then ((bonsairef04_in.f x0 (wrap64 (x1 + 1)) 128 191).bind fun t141 => (if t141 = true then (bonsairef04_sign.j1 k x0 x1 true) else ((bonsairef04_in.f x0 x1 237 237).bind fun t142 => (if t142 = true then ((bonsairef04_in.f x0 (wrap64 (x1 + 1)) 128 159).bind fun t143 => (bonsairef04_sign.j1 k x0 x1 t143)) else (bonsairef04_sign.j1 k x0 x1 false))))) else ((bonsairef04_in.f x0 x1 237 237).bind fun t144 => (if t144 = true then ((bonsairef04_in.f x0 (wrap64 (x1 + 1)) 128 159).bind fun t145 => (bonsairef04_sign.j1 k x0 x1 t145)) else (bonsairef04_sign.j1 k x0 x1 false))))))))) else ((bonsairef04_in.f x0 x1 225 236).bind fun t146 => (if t146 = true then ((bonsairef04_in.f x0 (wrap64 (x1 + 1)) 128 191).bind fun t147 => (if t147 = true then (bonsairef04_sign.j1 k x0 x1 true) else ((bonsairef04_in.f x0 x1 238 239).bind fun t148 => (if t148 = true then ((bonsairef04_in.f x0 x1 237 237).bind fun t149 => (if t149 = true then ((bonsairef04_in.f x0 (wrap64 (x1 + 1)) 128 159).bind fun t150 => (bonsairef04_sign.j1 k x0 x1 t150)) else (bonsairef04_sign.j1 k x0 x1 false))) else ((bonsairef04_in.f x0 x1 237 237).bind fun t151 => (if t151 = true then ((bonsairef04_in.f x0 (wrap64 (x1 + 1)) 128 159).bind fun t152 => (bonsairef04_sign.j1 k x0 x1 t152)) else (bonsairef04_sign.j1 k x0 x1 false))))))) else ((bonsairef04_in.f x0 x1 238 239).bind fun t153 => (if t153 = true then ((bonsairef04_in.f x0 (wrap64 (x1 + 1)) 128 191).bind fun t154 => (if t154 = true then (bonsairef04_sign.j1 k x0 x1 true) else ((bonsairef04_in.f x0 x1 237 237).bind fun t155 => (if t155 = true then ((bonsairef04_in.f x0 (wrap64 (x1 + 1)) 128 159).bind fun t156 => (bonsairef04_sign.j1 k x0 x1 t156)) else (bonsairef04_sign.j1 k x0 x1 false))))) else ((bonsairef04_in.f x0 x1 237 237).bind fun t157 => (if t157 = true then ((bonsairef04_in.f x0 (wrap64 (x1 + 1)) 128 159).bind fun t158 => (bonsairef04_sign.j1 k x0 x1 t158)) else (bonsairef04_sign.j1 k x0 x1 false))))))))) else (bonsairef04_sign.j1 k x0 x1 false)))
def bonsairef04_sign.j1 : Nat → ByteArray → Int → Bool → Option (Int)
  | 0, _, _, _ => none
  | k + 1, x0, x1, x64 => if x64 = true then (some 3) else ((bonsairef04_in.f x0 (wrap64 (x1 + 2)) 128 191).bind fun t159 => (if t159 = true then ((bonsairef04_in.f x0 (wrap64 (x1 + 3)) 128 191).bind fun t160 => (if t160 = true then ((bonsairef04_in.f x0 x1 240 240).bind fun t161 => (if t161 = true then ((bonsairef04_in.f x0 (wrap64 (x1 + 1)) 144 191).bind fun t162 => (if t162 = true then (some 4) else ((bonsairef04_in.f x0 x1 241 243).bind fun t163 => (if t163 = true then ((bonsairef04_in.f x0 (wrap64 (x1 + 1)) 128 191).bind fun t164 => (if t164 = true then (some 4) else ((bonsairef04_in.f x0 x1 244 244).bind fun t165 => (if t165 = true then ((bonsairef04_in.f x0 (wrap64 (x1 + 1)) 128 143).bind fun t166 => (if t166 = true then (some 4) else (some 0))) else (some 0))))) else ((bonsairef04_in.f x0 x1 244 244).bind fun t167 => (if t167 = true then ((bonsairef04_in.f x0 (wrap64 (x1 + 1)) 128 143).bind fun t168 => (if t168 = true then (some 4) else (some 0))) else (some 0))))))) else ((bonsairef04_in.f x0 x1 241 243).bind fun t169 => (if t169 = true then ((bonsairef04_in.f x0 (wrap64 (x1 + 1)) 128 191).bind fun t170 => (if t170 = true then (some 4) else ((bonsairef04_in.f x0 x1 244 244).bind fun t171 => (if t171 = true then ((bonsairef04_in.f x0 (wrap64 (x1 + 1)) 128 143).bind fun t172 => (if t172 = true then (some 4) else (some 0))) else (some 0))))) else ((bonsairef04_in.f x0 x1 244 244).bind fun t173 => (if t173 = true then ((bonsairef04_in.f x0 (wrap64 (x1 + 1)) 128 143).bind fun t174 => (if t174 = true then (some 4) else (some 0))) else (some 0))))))) else (some 0))) else (some 0)))
end
def bonsairef04_sign.f (k : Nat) (a0 : ByteArray) (a1 : Int) : Option (Int) := (bonsairef04_in.f a0 a1 0 127).bind fun t127 => (if t127 = true then (some 1) else ((bonsairef04_in.f a0 a1 194 223).bind fun t128 => (if t128 = true then ((bonsairef04_in.f a0 (wrap64 (a1 + 1)) 128 191).bind fun t129 => (bonsairef04_sign.j0 k a0 a1 t129)) else (bonsairef04_sign.j0 k a0 a1 false))))
theorem bonsairef04_sign.mono_l : ∀ k, (∀ y0 y1 y2, LeO (bonsairef04_sign.j0 k y0 y1 y2) (bonsairef04_sign.j0 (k + 1) y0 y1 y2)) ∧ (∀ y0 y1 y2, LeO (bonsairef04_sign.j1 k y0 y1 y2) (bonsairef04_sign.j1 (k + 1) y0 y1 y2))
  | 0 => ⟨fun _ _ _ r h => by simp [bonsairef04_sign.j0] at h, fun _ _ _ r h => by simp [bonsairef04_sign.j1] at h⟩
  | k + 1 => by
    obtain ⟨ih0, ih1⟩ := bonsairef04_sign.mono_l k
    refine ⟨?_, ?_⟩
    · intro y0 y1 y2
      unfold bonsairef04_sign.j0
      repeat' first
      | (with_reducible exact ih0 _ _ _)
      | (with_reducible exact ih1 _ _ _)
      | (with_reducible exact LeO.refl _)
      | (with_reducible exact LeO.none _)
      | (with_reducible refine LeO.ite ?_ ?_)
      | (with_reducible refine LeO.bind ?_ (fun _ => ?_))
      | exact ih0 _ _ _
      | exact ih1 _ _ _
      | exact LeO.none _
      | refine LeO.ite ?_ ?_
      | refine LeO.bind ?_ (fun _ => ?_)
    · intro y0 y1 y2
      unfold bonsairef04_sign.j1
      repeat' first
      | (with_reducible exact ih0 _ _ _)
      | (with_reducible exact ih1 _ _ _)
      | (with_reducible exact LeO.refl _)
      | (with_reducible exact LeO.none _)
      | (with_reducible refine LeO.ite ?_ ?_)
      | (with_reducible refine LeO.bind ?_ (fun _ => ?_))
      | exact ih0 _ _ _
      | exact ih1 _ _ _
      | exact LeO.none _
      | refine LeO.ite ?_ ?_
      | refine LeO.bind ?_ (fun _ => ?_)
theorem bonsairef04_sign.mono : ∀ a0 a1 k, LeO (bonsairef04_sign.f k a0 a1) (bonsairef04_sign.f (k + 1) a0 a1) := by
  intro a0 a1 k
  obtain ⟨ih0, ih1⟩ := bonsairef04_sign.mono_l k
  unfold bonsairef04_sign.f
  repeat' first
      | (with_reducible exact ih0 _ _ _)
      | (with_reducible exact ih1 _ _ _)
      | (with_reducible exact LeO.refl _)
      | (with_reducible exact LeO.none _)
      | (with_reducible refine LeO.ite ?_ ?_)
      | (with_reducible refine LeO.bind ?_ (fun _ => ?_))
      | exact ih0 _ _ _
      | exact ih1 _ _ _
      | exact LeO.none _
      | refine LeO.ite ?_ ?_
      | refine LeO.bind ?_ (fun _ => ?_)
set_option maxHeartbeats 8000000 in
set_option maxRecDepth 100000 in
theorem bonsairef04_sign.calls (k : Nat) (a0 : ByteArray) (a1 : Int) (r : Int) (w : World) (h : bonsairef04_sign.f k a0 a1 = some r) :
    Calls Try.prog 93 #[.string a0, .int .i64 a1] w fun e w' => e = .returned (.int .i64 r) ∧ Drawn0 w w' := by
  have H : ((bonsairef04_in.f a0 a1 0 127).bind fun t127 => (if t127 = true then (some 1) else ((bonsairef04_in.f a0 a1 194 223).bind fun t128 => (if t128 = true then ((bonsairef04_in.f a0 (wrap64 (a1 + 1)) 128 191).bind fun t129 => (bonsairef04_sign.j0 k a0 a1 t129)) else (bonsairef04_sign.j0 k a0 a1 false))))) = some r := h
  clear h
  replace H := Option.bind_eq_some_iff.mp H
  obtain ⟨t127, A30, H⟩ := H
  replace H : (if t127 = true then (some 1) else ((bonsairef04_in.f a0 a1 194 223).bind fun t128 => (if t128 = true then ((bonsairef04_in.f a0 (wrap64 (a1 + 1)) 128 191).bind fun t129 => (bonsairef04_sign.j0 k a0 a1 t129)) else (bonsairef04_sign.j0 k a0 a1 false)))) = some r := H
  have A3 := Aside0.mk A30
  clear A30
  by_cases c4 : t127 = true
  · subst c4
    have H1 : (some 1) = some r := by rw [if_pos rfl] at H; exact H
    clear H
    have H := H1
    clear H1
    obtain rfl := Option.some.inj H
    go_enter Try.func93, Try.ntmps93
    go_wp2_with (first | ((with_reducible refine gate_callee (f := 95) rfl ?_); refine goesL_ (some 7) rfl rfl Try.func95 (by kernel_rfl) rfl #[.string a0, .int .i64 a1, .int .i64 0, .int .i64 127] rfl (by (try simp only [List.map_toArray, List.map_cons, List.map_nil]); first | done | rfl | (simp only [List.length_drop, List.length_take]; rfl)) ?_; (with_reducible refine (bonsairef04_in.calls a0 a1 0 127 true _ A3.out).mono ?_); rintro e w' ⟨rfl, ⟨nd, rfl⟩⟩; refine ⟨_, rfl, ?_⟩))
    go_ret
    exact ⟨by first | rfl | (simp; done) | (simp [*]; done), by repeat (first | exact Drawn0.refl _ | apply Drawn0.step)⟩
  · replace c4 := Bool.eq_false_iff.mpr c4
    subst c4
    have H1 : ((bonsairef04_in.f a0 a1 194 223).bind fun t128 => (if t128 = true then ((bonsairef04_in.f a0 (wrap64 (a1 + 1)) 128 191).bind fun t129 => (bonsairef04_sign.j0 k a0 a1 t129)) else (bonsairef04_sign.j0 k a0 a1 false))) = some r := by rw [if_neg (show ¬ (false = true) by decide)] at H; exact H
    clear H
    have H := H1
    clear H1
    have HC5 := Aside0.mk H
    clear H
    go_enter Try.func93, Try.ntmps93
    go_upto_region 3 with (first | ((with_reducible refine gate_callee (f := 95) rfl ?_); refine goesL_ (some 7) rfl rfl Try.func95 (by kernel_rfl) rfl #[.string a0, .int .i64 a1, .int .i64 0, .int .i64 127] rfl (by (try simp only [List.map_toArray, List.map_cons, List.map_nil]); first | done | rfl | (simp only [List.length_drop, List.length_take]; rfl)) ?_; (with_reducible refine (bonsairef04_in.calls a0 a1 0 127 false _ A3.out).mono ?_); rintro e w' ⟨rfl, ⟨nd, rfl⟩⟩; refine ⟨_, rfl, ?_⟩))
    (try simp only [Act.put, List.setIfInBounds_toArray, List.set_cons_zero, List.set_cons_succ])
    go_cut [16] (fun v16 wc => ∃ (kq : Nat) (x16_4 : Bool), v16 = .bool x16_4 ∧ Aside0 (bonsairef04_sign.j0 kq a0 a1 x16_4 = some r) ∧ Aside0 (kq ≤ k) ∧ Drawn0 w wc)
    case first =>
      have H := HC5.out
      clear HC5
      replace H := Option.bind_eq_some_iff.mp H
      obtain ⟨t128, A60, H⟩ := H
      replace H : (if t128 = true then ((bonsairef04_in.f a0 (wrap64 (a1 + 1)) 128 191).bind fun t129 => (bonsairef04_sign.j0 k a0 a1 t129)) else (bonsairef04_sign.j0 k a0 a1 false)) = some r := H
      have A6 := Aside0.mk A60
      clear A60
      by_cases c7 : t128 = true
      · subst c7
        have H1 : ((bonsairef04_in.f a0 (wrap64 (a1 + 1)) 128 191).bind fun t129 => (bonsairef04_sign.j0 k a0 a1 t129)) = some r := by rw [if_pos rfl] at H; exact H
        clear H
        have H := H1
        clear H1
        replace H := Option.bind_eq_some_iff.mp H
        obtain ⟨t129, A80, H⟩ := H
        replace H : (bonsairef04_sign.j0 k a0 a1 t129) = some r := H
        have A8 := Aside0.mk A80
        clear A80
        have H' := Aside0.mk H
        clear H
        go_wp2_with (first | ((with_reducible refine gate_callee (f := 95) rfl ?_); refine goesL_ (some 10) rfl rfl Try.func95 (by kernel_rfl) rfl #[.string a0, .int .i64 a1, .int .i64 194, .int .i64 223] rfl (by (try simp only [List.map_toArray, List.map_cons, List.map_nil]); first | done | rfl | (simp only [List.length_drop, List.length_take]; rfl)) ?_; (with_reducible refine (bonsairef04_in.calls a0 a1 194 223 true _ A6.out).mono ?_); rintro e w' ⟨rfl, ⟨nd, rfl⟩⟩; refine ⟨_, rfl, ?_⟩) | (go_at_call 95; (with_reducible refine (bonsairef04_in.calls a0 (wrap64 (a1 + 1)) 128 191 t129 _ A8.out).mono ?_); rintro e w' ⟨rfl, ⟨nd, rfl⟩⟩))
        go_meet
        case rel => exact ⟨_, (t129), (by first | rfl | (simp; done) | (simp [*]; done)), H', ⟨by first | omega | exact Nat.le_refl _⟩, by repeat (first | exact Drawn0.refl _ | apply Drawn0.step)⟩
      · replace c7 := Bool.eq_false_iff.mpr c7
        subst c7
        have H1 : (bonsairef04_sign.j0 k a0 a1 false) = some r := by rw [if_neg (show ¬ (false = true) by decide)] at H; exact H
        clear H
        have H := H1
        clear H1
        have H' := Aside0.mk H
        clear H
        go_wp2_with (first | ((with_reducible refine gate_callee (f := 95) rfl ?_); refine goesL_ (some 10) rfl rfl Try.func95 (by kernel_rfl) rfl #[.string a0, .int .i64 a1, .int .i64 194, .int .i64 223] rfl (by (try simp only [List.map_toArray, List.map_cons, List.map_nil]); first | done | rfl | (simp only [List.length_drop, List.length_take]; rfl)) ?_; (with_reducible refine (bonsairef04_in.calls a0 a1 194 223 false _ A6.out).mono ?_); rintro e w' ⟨rfl, ⟨nd, rfl⟩⟩; refine ⟨_, rfl, ?_⟩))
        go_meet
        case rel => exact ⟨_, (false), (by first | rfl | (simp; done) | (simp [*]; done)), H', ⟨by first | omega | exact Nat.le_refl _⟩, by repeat (first | exact Drawn0.refl _ | apply Drawn0.step)⟩
    case rest =>
      clear HC5
      try clear p2
      try clear c4
      try clear p6
      try clear c7
      obtain ⟨kq, x16_4, rfl, HA, HJ4, ⟨mc4, rfl⟩⟩ := hcut
      cases kq with
      | zero => exact absurd HA.out (by simp [bonsairef04_sign.j0])
      | succ kj4 =>
        have H := HA.out
        clear HA
        simp only [bonsairef04_sign.j0] at H
        by_cases c9 : x16_4 = true
        · subst c9
          have H1 : (some 2) = some r := by rw [if_pos rfl] at H; exact H
          clear H
          have H := H1
          clear H1
          obtain rfl := Option.some.inj H
          go_wp2
          go_ret
          exact ⟨by first | rfl | (simp; done) | (simp [*]; done), by repeat (first | exact Drawn0.refl _ | apply Drawn0.step)⟩
        · replace c9 := Bool.eq_false_iff.mpr c9
          subst c9
          have H1 : ((bonsairef04_in.f a0 (wrap64 (a1 + 2)) 128 191).bind fun t130 => (if t130 = true then ((bonsairef04_in.f a0 a1 224 224).bind fun t131 => (if t131 = true then ((bonsairef04_in.f a0 (wrap64 (a1 + 1)) 160 191).bind fun t132 => (if t132 = true then (bonsairef04_sign.j1 kj4 a0 a1 true) else ((bonsairef04_in.f a0 a1 225 236).bind fun t133 => (if t133 = true then ((bonsairef04_in.f a0 (wrap64 (a1 + 1)) 128 191).bind fun t134 => (if t134 = true then (bonsairef04_sign.j1 kj4 a0 a1 true) else ((bonsairef04_in.f a0 a1 238 239).bind fun t135 => (if t135 = true then ((bonsairef04_in.f a0 a1 237 237).bind fun t136 => (if t136 = true then ((bonsairef04_in.f a0 (wrap64 (a1 + 1)) 128 159).bind fun t137 => (bonsairef04_sign.j1 kj4 a0 a1 t137)) else (bonsairef04_sign.j1 kj4 a0 a1 false))) else ((bonsairef04_in.f a0 a1 237 237).bind fun t138 => (if t138 = true then ((bonsairef04_in.f a0 (wrap64 (a1 + 1)) 128 159).bind fun t139 => (bonsairef04_sign.j1 kj4 a0 a1 t139)) else (bonsairef04_sign.j1 kj4 a0 a1 false))))))) else ((bonsairef04_in.f a0 a1 238 239).bind fun t140 => (if t140 = true then ((bonsairef04_in.f a0 (wrap64 (a1 + 1)) 128 191).bind fun t141 => (if t141 = true then (bonsairef04_sign.j1 kj4 a0 a1 true) else ((bonsairef04_in.f a0 a1 237 237).bind fun t142 => (if t142 = true then ((bonsairef04_in.f a0 (wrap64 (a1 + 1)) 128 159).bind fun t143 => (bonsairef04_sign.j1 kj4 a0 a1 t143)) else (bonsairef04_sign.j1 kj4 a0 a1 false))))) else ((bonsairef04_in.f a0 a1 237 237).bind fun t144 => (if t144 = true then ((bonsairef04_in.f a0 (wrap64 (a1 + 1)) 128 159).bind fun t145 => (bonsairef04_sign.j1 kj4 a0 a1 t145)) else (bonsairef04_sign.j1 kj4 a0 a1 false))))))))) else ((bonsairef04_in.f a0 a1 225 236).bind fun t146 => (if t146 = true then ((bonsairef04_in.f a0 (wrap64 (a1 + 1)) 128 191).bind fun t147 => (if t147 = true then (bonsairef04_sign.j1 kj4 a0 a1 true) else ((bonsairef04_in.f a0 a1 238 239).bind fun t148 => (if t148 = true then ((bonsairef04_in.f a0 a1 237 237).bind fun t149 => (if t149 = true then ((bonsairef04_in.f a0 (wrap64 (a1 + 1)) 128 159).bind fun t150 => (bonsairef04_sign.j1 kj4 a0 a1 t150)) else (bonsairef04_sign.j1 kj4 a0 a1 false))) else ((bonsairef04_in.f a0 a1 237 237).bind fun t151 => (if t151 = true then ((bonsairef04_in.f a0 (wrap64 (a1 + 1)) 128 159).bind fun t152 => (bonsairef04_sign.j1 kj4 a0 a1 t152)) else (bonsairef04_sign.j1 kj4 a0 a1 false))))))) else ((bonsairef04_in.f a0 a1 238 239).bind fun t153 => (if t153 = true then ((bonsairef04_in.f a0 (wrap64 (a1 + 1)) 128 191).bind fun t154 => (if t154 = true then (bonsairef04_sign.j1 kj4 a0 a1 true) else ((bonsairef04_in.f a0 a1 237 237).bind fun t155 => (if t155 = true then ((bonsairef04_in.f a0 (wrap64 (a1 + 1)) 128 159).bind fun t156 => (bonsairef04_sign.j1 kj4 a0 a1 t156)) else (bonsairef04_sign.j1 kj4 a0 a1 false))))) else ((bonsairef04_in.f a0 a1 237 237).bind fun t157 => (if t157 = true then ((bonsairef04_in.f a0 (wrap64 (a1 + 1)) 128 159).bind fun t158 => (bonsairef04_sign.j1 kj4 a0 a1 t158)) else (bonsairef04_sign.j1 kj4 a0 a1 false))))))))) else (bonsairef04_sign.j1 kj4 a0 a1 false))) = some r := by rw [if_neg (show ¬ (false = true) by decide)] at H; exact H
          clear H
          have H := H1
          clear H1
          have HC10 := Aside0.mk H
          clear H
          go_upto_region 5 with (fail)
          go_cut [64] (fun v64 wc => ∃ (kq : Nat) (x64_9 : Bool), v64 = .bool x64_9 ∧ Aside0 (bonsairef04_sign.j1 kq a0 a1 x64_9 = some r) ∧ Aside0 (kq ≤ kj4) ∧ Drawn0 w wc)
          case first =>
            have H := HC10.out
            clear HC10
            replace H := Option.bind_eq_some_iff.mp H
            obtain ⟨t130, A110, H⟩ := H
            replace H : (if t130 = true then ((bonsairef04_in.f a0 a1 224 224).bind fun t131 => (if t131 = true then ((bonsairef04_in.f a0 (wrap64 (a1 + 1)) 160 191).bind fun t132 => (if t132 = true then (bonsairef04_sign.j1 kj4 a0 a1 true) else ((bonsairef04_in.f a0 a1 225 236).bind fun t133 => (if t133 = true then ((bonsairef04_in.f a0 (wrap64 (a1 + 1)) 128 191).bind fun t134 => (if t134 = true then (bonsairef04_sign.j1 kj4 a0 a1 true) else ((bonsairef04_in.f a0 a1 238 239).bind fun t135 => (if t135 = true then ((bonsairef04_in.f a0 a1 237 237).bind fun t136 => (if t136 = true then ((bonsairef04_in.f a0 (wrap64 (a1 + 1)) 128 159).bind fun t137 => (bonsairef04_sign.j1 kj4 a0 a1 t137)) else (bonsairef04_sign.j1 kj4 a0 a1 false))) else ((bonsairef04_in.f a0 a1 237 237).bind fun t138 => (if t138 = true then ((bonsairef04_in.f a0 (wrap64 (a1 + 1)) 128 159).bind fun t139 => (bonsairef04_sign.j1 kj4 a0 a1 t139)) else (bonsairef04_sign.j1 kj4 a0 a1 false))))))) else ((bonsairef04_in.f a0 a1 238 239).bind fun t140 => (if t140 = true then ((bonsairef04_in.f a0 (wrap64 (a1 + 1)) 128 191).bind fun t141 => (if t141 = true then (bonsairef04_sign.j1 kj4 a0 a1 true) else ((bonsairef04_in.f a0 a1 237 237).bind fun t142 => (if t142 = true then ((bonsairef04_in.f a0 (wrap64 (a1 + 1)) 128 159).bind fun t143 => (bonsairef04_sign.j1 kj4 a0 a1 t143)) else (bonsairef04_sign.j1 kj4 a0 a1 false))))) else ((bonsairef04_in.f a0 a1 237 237).bind fun t144 => (if t144 = true then ((bonsairef04_in.f a0 (wrap64 (a1 + 1)) 128 159).bind fun t145 => (bonsairef04_sign.j1 kj4 a0 a1 t145)) else (bonsairef04_sign.j1 kj4 a0 a1 false))))))))) else ((bonsairef04_in.f a0 a1 225 236).bind fun t146 => (if t146 = true then ((bonsairef04_in.f a0 (wrap64 (a1 + 1)) 128 191).bind fun t147 => (if t147 = true then (bonsairef04_sign.j1 kj4 a0 a1 true) else ((bonsairef04_in.f a0 a1 238 239).bind fun t148 => (if t148 = true then ((bonsairef04_in.f a0 a1 237 237).bind fun t149 => (if t149 = true then ((bonsairef04_in.f a0 (wrap64 (a1 + 1)) 128 159).bind fun t150 => (bonsairef04_sign.j1 kj4 a0 a1 t150)) else (bonsairef04_sign.j1 kj4 a0 a1 false))) else ((bonsairef04_in.f a0 a1 237 237).bind fun t151 => (if t151 = true then ((bonsairef04_in.f a0 (wrap64 (a1 + 1)) 128 159).bind fun t152 => (bonsairef04_sign.j1 kj4 a0 a1 t152)) else (bonsairef04_sign.j1 kj4 a0 a1 false))))))) else ((bonsairef04_in.f a0 a1 238 239).bind fun t153 => (if t153 = true then ((bonsairef04_in.f a0 (wrap64 (a1 + 1)) 128 191).bind fun t154 => (if t154 = true then (bonsairef04_sign.j1 kj4 a0 a1 true) else ((bonsairef04_in.f a0 a1 237 237).bind fun t155 => (if t155 = true then ((bonsairef04_in.f a0 (wrap64 (a1 + 1)) 128 159).bind fun t156 => (bonsairef04_sign.j1 kj4 a0 a1 t156)) else (bonsairef04_sign.j1 kj4 a0 a1 false))))) else ((bonsairef04_in.f a0 a1 237 237).bind fun t157 => (if t157 = true then ((bonsairef04_in.f a0 (wrap64 (a1 + 1)) 128 159).bind fun t158 => (bonsairef04_sign.j1 kj4 a0 a1 t158)) else (bonsairef04_sign.j1 kj4 a0 a1 false))))))))) else (bonsairef04_sign.j1 kj4 a0 a1 false)) = some r := H
            have A11 := Aside0.mk A110
            clear A110
            by_cases c12 : t130 = true
            · subst c12
              have H1 : ((bonsairef04_in.f a0 a1 224 224).bind fun t131 => (if t131 = true then ((bonsairef04_in.f a0 (wrap64 (a1 + 1)) 160 191).bind fun t132 => (if t132 = true then (bonsairef04_sign.j1 kj4 a0 a1 true) else ((bonsairef04_in.f a0 a1 225 236).bind fun t133 => (if t133 = true then ((bonsairef04_in.f a0 (wrap64 (a1 + 1)) 128 191).bind fun t134 => (if t134 = true then (bonsairef04_sign.j1 kj4 a0 a1 true) else ((bonsairef04_in.f a0 a1 238 239).bind fun t135 => (if t135 = true then ((bonsairef04_in.f a0 a1 237 237).bind fun t136 => (if t136 = true then ((bonsairef04_in.f a0 (wrap64 (a1 + 1)) 128 159).bind fun t137 => (bonsairef04_sign.j1 kj4 a0 a1 t137)) else (bonsairef04_sign.j1 kj4 a0 a1 false))) else ((bonsairef04_in.f a0 a1 237 237).bind fun t138 => (if t138 = true then ((bonsairef04_in.f a0 (wrap64 (a1 + 1)) 128 159).bind fun t139 => (bonsairef04_sign.j1 kj4 a0 a1 t139)) else (bonsairef04_sign.j1 kj4 a0 a1 false))))))) else ((bonsairef04_in.f a0 a1 238 239).bind fun t140 => (if t140 = true then ((bonsairef04_in.f a0 (wrap64 (a1 + 1)) 128 191).bind fun t141 => (if t141 = true then (bonsairef04_sign.j1 kj4 a0 a1 true) else ((bonsairef04_in.f a0 a1 237 237).bind fun t142 => (if t142 = true then ((bonsairef04_in.f a0 (wrap64 (a1 + 1)) 128 159).bind fun t143 => (bonsairef04_sign.j1 kj4 a0 a1 t143)) else (bonsairef04_sign.j1 kj4 a0 a1 false))))) else ((bonsairef04_in.f a0 a1 237 237).bind fun t144 => (if t144 = true then ((bonsairef04_in.f a0 (wrap64 (a1 + 1)) 128 159).bind fun t145 => (bonsairef04_sign.j1 kj4 a0 a1 t145)) else (bonsairef04_sign.j1 kj4 a0 a1 false))))))))) else ((bonsairef04_in.f a0 a1 225 236).bind fun t146 => (if t146 = true then ((bonsairef04_in.f a0 (wrap64 (a1 + 1)) 128 191).bind fun t147 => (if t147 = true then (bonsairef04_sign.j1 kj4 a0 a1 true) else ((bonsairef04_in.f a0 a1 238 239).bind fun t148 => (if t148 = true then ((bonsairef04_in.f a0 a1 237 237).bind fun t149 => (if t149 = true then ((bonsairef04_in.f a0 (wrap64 (a1 + 1)) 128 159).bind fun t150 => (bonsairef04_sign.j1 kj4 a0 a1 t150)) else (bonsairef04_sign.j1 kj4 a0 a1 false))) else ((bonsairef04_in.f a0 a1 237 237).bind fun t151 => (if t151 = true then ((bonsairef04_in.f a0 (wrap64 (a1 + 1)) 128 159).bind fun t152 => (bonsairef04_sign.j1 kj4 a0 a1 t152)) else (bonsairef04_sign.j1 kj4 a0 a1 false))))))) else ((bonsairef04_in.f a0 a1 238 239).bind fun t153 => (if t153 = true then ((bonsairef04_in.f a0 (wrap64 (a1 + 1)) 128 191).bind fun t154 => (if t154 = true then (bonsairef04_sign.j1 kj4 a0 a1 true) else ((bonsairef04_in.f a0 a1 237 237).bind fun t155 => (if t155 = true then ((bonsairef04_in.f a0 (wrap64 (a1 + 1)) 128 159).bind fun t156 => (bonsairef04_sign.j1 kj4 a0 a1 t156)) else (bonsairef04_sign.j1 kj4 a0 a1 false))))) else ((bonsairef04_in.f a0 a1 237 237).bind fun t157 => (if t157 = true then ((bonsairef04_in.f a0 (wrap64 (a1 + 1)) 128 159).bind fun t158 => (bonsairef04_sign.j1 kj4 a0 a1 t158)) else (bonsairef04_sign.j1 kj4 a0 a1 false))))))))) = some r := by rw [if_pos rfl] at H; exact H
              clear H
              have H := H1
              clear H1
              replace H := Option.bind_eq_some_iff.mp H
              obtain ⟨t131, A130, H⟩ := H
              replace H : (if t131 = true then ((bonsairef04_in.f a0 (wrap64 (a1 + 1)) 160 191).bind fun t132 => (if t132 = true then (bonsairef04_sign.j1 kj4 a0 a1 true) else ((bonsairef04_in.f a0 a1 225 236).bind fun t133 => (if t133 = true then ((bonsairef04_in.f a0 (wrap64 (a1 + 1)) 128 191).bind fun t134 => (if t134 = true then (bonsairef04_sign.j1 kj4 a0 a1 true) else ((bonsairef04_in.f a0 a1 238 239).bind fun t135 => (if t135 = true then ((bonsairef04_in.f a0 a1 237 237).bind fun t136 => (if t136 = true then ((bonsairef04_in.f a0 (wrap64 (a1 + 1)) 128 159).bind fun t137 => (bonsairef04_sign.j1 kj4 a0 a1 t137)) else (bonsairef04_sign.j1 kj4 a0 a1 false))) else ((bonsairef04_in.f a0 a1 237 237).bind fun t138 => (if t138 = true then ((bonsairef04_in.f a0 (wrap64 (a1 + 1)) 128 159).bind fun t139 => (bonsairef04_sign.j1 kj4 a0 a1 t139)) else (bonsairef04_sign.j1 kj4 a0 a1 false))))))) else ((bonsairef04_in.f a0 a1 238 239).bind fun t140 => (if t140 = true then ((bonsairef04_in.f a0 (wrap64 (a1 + 1)) 128 191).bind fun t141 => (if t141 = true then (bonsairef04_sign.j1 kj4 a0 a1 true) else ((bonsairef04_in.f a0 a1 237 237).bind fun t142 => (if t142 = true then ((bonsairef04_in.f a0 (wrap64 (a1 + 1)) 128 159).bind fun t143 => (bonsairef04_sign.j1 kj4 a0 a1 t143)) else (bonsairef04_sign.j1 kj4 a0 a1 false))))) else ((bonsairef04_in.f a0 a1 237 237).bind fun t144 => (if t144 = true then ((bonsairef04_in.f a0 (wrap64 (a1 + 1)) 128 159).bind fun t145 => (bonsairef04_sign.j1 kj4 a0 a1 t145)) else (bonsairef04_sign.j1 kj4 a0 a1 false))))))))) else ((bonsairef04_in.f a0 a1 225 236).bind fun t146 => (if t146 = true then ((bonsairef04_in.f a0 (wrap64 (a1 + 1)) 128 191).bind fun t147 => (if t147 = true then (bonsairef04_sign.j1 kj4 a0 a1 true) else ((bonsairef04_in.f a0 a1 238 239).bind fun t148 => (if t148 = true then ((bonsairef04_in.f a0 a1 237 237).bind fun t149 => (if t149 = true then ((bonsairef04_in.f a0 (wrap64 (a1 + 1)) 128 159).bind fun t150 => (bonsairef04_sign.j1 kj4 a0 a1 t150)) else (bonsairef04_sign.j1 kj4 a0 a1 false))) else ((bonsairef04_in.f a0 a1 237 237).bind fun t151 => (if t151 = true then ((bonsairef04_in.f a0 (wrap64 (a1 + 1)) 128 159).bind fun t152 => (bonsairef04_sign.j1 kj4 a0 a1 t152)) else (bonsairef04_sign.j1 kj4 a0 a1 false))))))) else ((bonsairef04_in.f a0 a1 238 239).bind fun t153 => (if t153 = true then ((bonsairef04_in.f a0 (wrap64 (a1 + 1)) 128 191).bind fun t154 => (if t154 = true then (bonsairef04_sign.j1 kj4 a0 a1 true) else ((bonsairef04_in.f a0 a1 237 237).bind fun t155 => (if t155 = true then ((bonsairef04_in.f a0 (wrap64 (a1 + 1)) 128 159).bind fun t156 => (bonsairef04_sign.j1 kj4 a0 a1 t156)) else (bonsairef04_sign.j1 kj4 a0 a1 false))))) else ((bonsairef04_in.f a0 a1 237 237).bind fun t157 => (if t157 = true then ((bonsairef04_in.f a0 (wrap64 (a1 + 1)) 128 159).bind fun t158 => (bonsairef04_sign.j1 kj4 a0 a1 t158)) else (bonsairef04_sign.j1 kj4 a0 a1 false)))))))) = some r := H
              have A13 := Aside0.mk A130
              clear A130
              by_cases c14 : t131 = true
              · subst c14
                have H1 : ((bonsairef04_in.f a0 (wrap64 (a1 + 1)) 160 191).bind fun t132 => (if t132 = true then (bonsairef04_sign.j1 kj4 a0 a1 true) else ((bonsairef04_in.f a0 a1 225 236).bind fun t133 => (if t133 = true then ((bonsairef04_in.f a0 (wrap64 (a1 + 1)) 128 191).bind fun t134 => (if t134 = true then (bonsairef04_sign.j1 kj4 a0 a1 true) else ((bonsairef04_in.f a0 a1 238 239).bind fun t135 => (if t135 = true then ((bonsairef04_in.f a0 a1 237 237).bind fun t136 => (if t136 = true then ((bonsairef04_in.f a0 (wrap64 (a1 + 1)) 128 159).bind fun t137 => (bonsairef04_sign.j1 kj4 a0 a1 t137)) else (bonsairef04_sign.j1 kj4 a0 a1 false))) else ((bonsairef04_in.f a0 a1 237 237).bind fun t138 => (if t138 = true then ((bonsairef04_in.f a0 (wrap64 (a1 + 1)) 128 159).bind fun t139 => (bonsairef04_sign.j1 kj4 a0 a1 t139)) else (bonsairef04_sign.j1 kj4 a0 a1 false))))))) else ((bonsairef04_in.f a0 a1 238 239).bind fun t140 => (if t140 = true then ((bonsairef04_in.f a0 (wrap64 (a1 + 1)) 128 191).bind fun t141 => (if t141 = true then (bonsairef04_sign.j1 kj4 a0 a1 true) else ((bonsairef04_in.f a0 a1 237 237).bind fun t142 => (if t142 = true then ((bonsairef04_in.f a0 (wrap64 (a1 + 1)) 128 159).bind fun t143 => (bonsairef04_sign.j1 kj4 a0 a1 t143)) else (bonsairef04_sign.j1 kj4 a0 a1 false))))) else ((bonsairef04_in.f a0 a1 237 237).bind fun t144 => (if t144 = true then ((bonsairef04_in.f a0 (wrap64 (a1 + 1)) 128 159).bind fun t145 => (bonsairef04_sign.j1 kj4 a0 a1 t145)) else (bonsairef04_sign.j1 kj4 a0 a1 false))))))))) = some r := by rw [if_pos rfl] at H; exact H
                clear H
                have H := H1
                clear H1
                replace H := Option.bind_eq_some_iff.mp H
                obtain ⟨t132, A150, H⟩ := H
                replace H : (if t132 = true then (bonsairef04_sign.j1 kj4 a0 a1 true) else ((bonsairef04_in.f a0 a1 225 236).bind fun t133 => (if t133 = true then ((bonsairef04_in.f a0 (wrap64 (a1 + 1)) 128 191).bind fun t134 => (if t134 = true then (bonsairef04_sign.j1 kj4 a0 a1 true) else ((bonsairef04_in.f a0 a1 238 239).bind fun t135 => (if t135 = true then ((bonsairef04_in.f a0 a1 237 237).bind fun t136 => (if t136 = true then ((bonsairef04_in.f a0 (wrap64 (a1 + 1)) 128 159).bind fun t137 => (bonsairef04_sign.j1 kj4 a0 a1 t137)) else (bonsairef04_sign.j1 kj4 a0 a1 false))) else ((bonsairef04_in.f a0 a1 237 237).bind fun t138 => (if t138 = true then ((bonsairef04_in.f a0 (wrap64 (a1 + 1)) 128 159).bind fun t139 => (bonsairef04_sign.j1 kj4 a0 a1 t139)) else (bonsairef04_sign.j1 kj4 a0 a1 false))))))) else ((bonsairef04_in.f a0 a1 238 239).bind fun t140 => (if t140 = true then ((bonsairef04_in.f a0 (wrap64 (a1 + 1)) 128 191).bind fun t141 => (if t141 = true then (bonsairef04_sign.j1 kj4 a0 a1 true) else ((bonsairef04_in.f a0 a1 237 237).bind fun t142 => (if t142 = true then ((bonsairef04_in.f a0 (wrap64 (a1 + 1)) 128 159).bind fun t143 => (bonsairef04_sign.j1 kj4 a0 a1 t143)) else (bonsairef04_sign.j1 kj4 a0 a1 false))))) else ((bonsairef04_in.f a0 a1 237 237).bind fun t144 => (if t144 = true then ((bonsairef04_in.f a0 (wrap64 (a1 + 1)) 128 159).bind fun t145 => (bonsairef04_sign.j1 kj4 a0 a1 t145)) else (bonsairef04_sign.j1 kj4 a0 a1 false)))))))) = some r := H
                have A15 := Aside0.mk A150
                clear A150
                by_cases c16 : t132 = true
                · subst c16
                  have H1 : (bonsairef04_sign.j1 kj4 a0 a1 true) = some r := by rw [if_pos rfl] at H; exact H
                  clear H
                  have H := H1
                  clear H1
                  have H' := Aside0.mk H
                  clear H
                  go_wp2_with (first | ((with_reducible refine gate_callee (f := 95) rfl ?_); refine goesL_ (some 20) rfl rfl Try.func95 (by kernel_rfl) rfl #[.string a0, .int .i64 (wrap64 (a1 + 2)), .int .i64 128, .int .i64 191] rfl (by (try simp only [List.map_toArray, List.map_cons, List.map_nil]); first | done | rfl | (simp only [List.length_drop, List.length_take]; rfl)) ?_; (with_reducible refine (bonsairef04_in.calls a0 (wrap64 (a1 + 2)) 128 191 true _ A11.out).mono ?_); rintro e w' ⟨rfl, ⟨nd, rfl⟩⟩; refine ⟨_, rfl, ?_⟩) | (go_at_call 95; (with_reducible refine (bonsairef04_in.calls a0 a1 224 224 true _ A13.out).mono ?_); rintro e w' ⟨rfl, ⟨nd, rfl⟩⟩) | (go_at_call 95; (with_reducible refine (bonsairef04_in.calls a0 (wrap64 (a1 + 1)) 160 191 true _ A15.out).mono ?_); rintro e w' ⟨rfl, ⟨nd, rfl⟩⟩))
                  go_meet
                  case rel => exact ⟨_, (true), (by first | rfl | (simp; done) | (simp [*]; done)), H', ⟨by have := HJ4.out; first | omega | exact Nat.le_refl _⟩, by repeat (first | exact Drawn0.refl _ | apply Drawn0.step)⟩
                · replace c16 := Bool.eq_false_iff.mpr c16
                  subst c16
                  have H1 : ((bonsairef04_in.f a0 a1 225 236).bind fun t133 => (if t133 = true then ((bonsairef04_in.f a0 (wrap64 (a1 + 1)) 128 191).bind fun t134 => (if t134 = true then (bonsairef04_sign.j1 kj4 a0 a1 true) else ((bonsairef04_in.f a0 a1 238 239).bind fun t135 => (if t135 = true then ((bonsairef04_in.f a0 a1 237 237).bind fun t136 => (if t136 = true then ((bonsairef04_in.f a0 (wrap64 (a1 + 1)) 128 159).bind fun t137 => (bonsairef04_sign.j1 kj4 a0 a1 t137)) else (bonsairef04_sign.j1 kj4 a0 a1 false))) else ((bonsairef04_in.f a0 a1 237 237).bind fun t138 => (if t138 = true then ((bonsairef04_in.f a0 (wrap64 (a1 + 1)) 128 159).bind fun t139 => (bonsairef04_sign.j1 kj4 a0 a1 t139)) else (bonsairef04_sign.j1 kj4 a0 a1 false))))))) else ((bonsairef04_in.f a0 a1 238 239).bind fun t140 => (if t140 = true then ((bonsairef04_in.f a0 (wrap64 (a1 + 1)) 128 191).bind fun t141 => (if t141 = true then (bonsairef04_sign.j1 kj4 a0 a1 true) else ((bonsairef04_in.f a0 a1 237 237).bind fun t142 => (if t142 = true then ((bonsairef04_in.f a0 (wrap64 (a1 + 1)) 128 159).bind fun t143 => (bonsairef04_sign.j1 kj4 a0 a1 t143)) else (bonsairef04_sign.j1 kj4 a0 a1 false))))) else ((bonsairef04_in.f a0 a1 237 237).bind fun t144 => (if t144 = true then ((bonsairef04_in.f a0 (wrap64 (a1 + 1)) 128 159).bind fun t145 => (bonsairef04_sign.j1 kj4 a0 a1 t145)) else (bonsairef04_sign.j1 kj4 a0 a1 false))))))) = some r := by rw [if_neg (show ¬ (false = true) by decide)] at H; exact H
                  clear H
                  have H := H1
                  clear H1
                  replace H := Option.bind_eq_some_iff.mp H
                  obtain ⟨t133, A170, H⟩ := H
                  replace H : (if t133 = true then ((bonsairef04_in.f a0 (wrap64 (a1 + 1)) 128 191).bind fun t134 => (if t134 = true then (bonsairef04_sign.j1 kj4 a0 a1 true) else ((bonsairef04_in.f a0 a1 238 239).bind fun t135 => (if t135 = true then ((bonsairef04_in.f a0 a1 237 237).bind fun t136 => (if t136 = true then ((bonsairef04_in.f a0 (wrap64 (a1 + 1)) 128 159).bind fun t137 => (bonsairef04_sign.j1 kj4 a0 a1 t137)) else (bonsairef04_sign.j1 kj4 a0 a1 false))) else ((bonsairef04_in.f a0 a1 237 237).bind fun t138 => (if t138 = true then ((bonsairef04_in.f a0 (wrap64 (a1 + 1)) 128 159).bind fun t139 => (bonsairef04_sign.j1 kj4 a0 a1 t139)) else (bonsairef04_sign.j1 kj4 a0 a1 false))))))) else ((bonsairef04_in.f a0 a1 238 239).bind fun t140 => (if t140 = true then ((bonsairef04_in.f a0 (wrap64 (a1 + 1)) 128 191).bind fun t141 => (if t141 = true then (bonsairef04_sign.j1 kj4 a0 a1 true) else ((bonsairef04_in.f a0 a1 237 237).bind fun t142 => (if t142 = true then ((bonsairef04_in.f a0 (wrap64 (a1 + 1)) 128 159).bind fun t143 => (bonsairef04_sign.j1 kj4 a0 a1 t143)) else (bonsairef04_sign.j1 kj4 a0 a1 false))))) else ((bonsairef04_in.f a0 a1 237 237).bind fun t144 => (if t144 = true then ((bonsairef04_in.f a0 (wrap64 (a1 + 1)) 128 159).bind fun t145 => (bonsairef04_sign.j1 kj4 a0 a1 t145)) else (bonsairef04_sign.j1 kj4 a0 a1 false)))))) = some r := H
                  have A17 := Aside0.mk A170
                  clear A170
                  by_cases c18 : t133 = true
                  · subst c18
                    have H1 : ((bonsairef04_in.f a0 (wrap64 (a1 + 1)) 128 191).bind fun t134 => (if t134 = true then (bonsairef04_sign.j1 kj4 a0 a1 true) else ((bonsairef04_in.f a0 a1 238 239).bind fun t135 => (if t135 = true then ((bonsairef04_in.f a0 a1 237 237).bind fun t136 => (if t136 = true then ((bonsairef04_in.f a0 (wrap64 (a1 + 1)) 128 159).bind fun t137 => (bonsairef04_sign.j1 kj4 a0 a1 t137)) else (bonsairef04_sign.j1 kj4 a0 a1 false))) else ((bonsairef04_in.f a0 a1 237 237).bind fun t138 => (if t138 = true then ((bonsairef04_in.f a0 (wrap64 (a1 + 1)) 128 159).bind fun t139 => (bonsairef04_sign.j1 kj4 a0 a1 t139)) else (bonsairef04_sign.j1 kj4 a0 a1 false))))))) = some r := by rw [if_pos rfl] at H; exact H
                    clear H
                    have H := H1
                    clear H1
                    replace H := Option.bind_eq_some_iff.mp H
                    obtain ⟨t134, A190, H⟩ := H
                    replace H : (if t134 = true then (bonsairef04_sign.j1 kj4 a0 a1 true) else ((bonsairef04_in.f a0 a1 238 239).bind fun t135 => (if t135 = true then ((bonsairef04_in.f a0 a1 237 237).bind fun t136 => (if t136 = true then ((bonsairef04_in.f a0 (wrap64 (a1 + 1)) 128 159).bind fun t137 => (bonsairef04_sign.j1 kj4 a0 a1 t137)) else (bonsairef04_sign.j1 kj4 a0 a1 false))) else ((bonsairef04_in.f a0 a1 237 237).bind fun t138 => (if t138 = true then ((bonsairef04_in.f a0 (wrap64 (a1 + 1)) 128 159).bind fun t139 => (bonsairef04_sign.j1 kj4 a0 a1 t139)) else (bonsairef04_sign.j1 kj4 a0 a1 false)))))) = some r := H
                    have A19 := Aside0.mk A190
                    clear A190
                    by_cases c20 : t134 = true
                    · subst c20
                      have H1 : (bonsairef04_sign.j1 kj4 a0 a1 true) = some r := by rw [if_pos rfl] at H; exact H
                      clear H
                      have H := H1
                      clear H1
                      have H' := Aside0.mk H
                      clear H
                      go_wp2_with (first | ((with_reducible refine gate_callee (f := 95) rfl ?_); refine goesL_ (some 20) rfl rfl Try.func95 (by kernel_rfl) rfl #[.string a0, .int .i64 (wrap64 (a1 + 2)), .int .i64 128, .int .i64 191] rfl (by (try simp only [List.map_toArray, List.map_cons, List.map_nil]); first | done | rfl | (simp only [List.length_drop, List.length_take]; rfl)) ?_; (with_reducible refine (bonsairef04_in.calls a0 (wrap64 (a1 + 2)) 128 191 true _ A11.out).mono ?_); rintro e w' ⟨rfl, ⟨nd, rfl⟩⟩; refine ⟨_, rfl, ?_⟩) | (go_at_call 95; (with_reducible refine (bonsairef04_in.calls a0 a1 224 224 true _ A13.out).mono ?_); rintro e w' ⟨rfl, ⟨nd, rfl⟩⟩) | (go_at_call 95; (with_reducible refine (bonsairef04_in.calls a0 (wrap64 (a1 + 1)) 160 191 false _ A15.out).mono ?_); rintro e w' ⟨rfl, ⟨nd, rfl⟩⟩) | (go_at_call 95; (with_reducible refine (bonsairef04_in.calls a0 a1 225 236 true _ A17.out).mono ?_); rintro e w' ⟨rfl, ⟨nd, rfl⟩⟩) | (go_at_call 95; (with_reducible refine (bonsairef04_in.calls a0 (wrap64 (a1 + 1)) 128 191 true _ A19.out).mono ?_); rintro e w' ⟨rfl, ⟨nd, rfl⟩⟩))
                      go_meet
                      case rel => exact ⟨_, (true), (by first | rfl | (simp; done) | (simp [*]; done)), H', ⟨by have := HJ4.out; first | omega | exact Nat.le_refl _⟩, by repeat (first | exact Drawn0.refl _ | apply Drawn0.step)⟩
                    · replace c20 := Bool.eq_false_iff.mpr c20
                      subst c20
                      have H1 : ((bonsairef04_in.f a0 a1 238 239).bind fun t135 => (if t135 = true then ((bonsairef04_in.f a0 a1 237 237).bind fun t136 => (if t136 = true then ((bonsairef04_in.f a0 (wrap64 (a1 + 1)) 128 159).bind fun t137 => (bonsairef04_sign.j1 kj4 a0 a1 t137)) else (bonsairef04_sign.j1 kj4 a0 a1 false))) else ((bonsairef04_in.f a0 a1 237 237).bind fun t138 => (if t138 = true then ((bonsairef04_in.f a0 (wrap64 (a1 + 1)) 128 159).bind fun t139 => (bonsairef04_sign.j1 kj4 a0 a1 t139)) else (bonsairef04_sign.j1 kj4 a0 a1 false))))) = some r := by rw [if_neg (show ¬ (false = true) by decide)] at H; exact H
                      clear H
                      have H := H1
                      clear H1
                      replace H := Option.bind_eq_some_iff.mp H
                      obtain ⟨t135, A210, H⟩ := H
                      replace H : (if t135 = true then ((bonsairef04_in.f a0 a1 237 237).bind fun t136 => (if t136 = true then ((bonsairef04_in.f a0 (wrap64 (a1 + 1)) 128 159).bind fun t137 => (bonsairef04_sign.j1 kj4 a0 a1 t137)) else (bonsairef04_sign.j1 kj4 a0 a1 false))) else ((bonsairef04_in.f a0 a1 237 237).bind fun t138 => (if t138 = true then ((bonsairef04_in.f a0 (wrap64 (a1 + 1)) 128 159).bind fun t139 => (bonsairef04_sign.j1 kj4 a0 a1 t139)) else (bonsairef04_sign.j1 kj4 a0 a1 false)))) = some r := H
                      have A21 := Aside0.mk A210
                      clear A210
                      by_cases c22 : t135 = true
                      · subst c22
                        have H1 : ((bonsairef04_in.f a0 a1 237 237).bind fun t136 => (if t136 = true then ((bonsairef04_in.f a0 (wrap64 (a1 + 1)) 128 159).bind fun t137 => (bonsairef04_sign.j1 kj4 a0 a1 t137)) else (bonsairef04_sign.j1 kj4 a0 a1 false))) = some r := by rw [if_pos rfl] at H; exact H
                        clear H
                        have H := H1
                        clear H1
                        replace H := Option.bind_eq_some_iff.mp H
                        obtain ⟨t136, A230, H⟩ := H
                        replace H : (if t136 = true then ((bonsairef04_in.f a0 (wrap64 (a1 + 1)) 128 159).bind fun t137 => (bonsairef04_sign.j1 kj4 a0 a1 t137)) else (bonsairef04_sign.j1 kj4 a0 a1 false)) = some r := H
                        have A23 := Aside0.mk A230
                        clear A230
                        by_cases c24 : t136 = true
                        · subst c24
                          have H1 : ((bonsairef04_in.f a0 (wrap64 (a1 + 1)) 128 159).bind fun t137 => (bonsairef04_sign.j1 kj4 a0 a1 t137)) = some r := by rw [if_pos rfl] at H; exact H
                          clear H
                          have H := H1
                          clear H1
                          replace H := Option.bind_eq_some_iff.mp H
                          obtain ⟨t137, A250, H⟩ := H
                          replace H : (bonsairef04_sign.j1 kj4 a0 a1 t137) = some r := H
                          have A25 := Aside0.mk A250
                          clear A250
                          have H' := Aside0.mk H
                          clear H
                          go_wp2_with (first | ((with_reducible refine gate_callee (f := 95) rfl ?_); refine goesL_ (some 20) rfl rfl Try.func95 (by kernel_rfl) rfl #[.string a0, .int .i64 (wrap64 (a1 + 2)), .int .i64 128, .int .i64 191] rfl (by (try simp only [List.map_toArray, List.map_cons, List.map_nil]); first | done | rfl | (simp only [List.length_drop, List.length_take]; rfl)) ?_; (with_reducible refine (bonsairef04_in.calls a0 (wrap64 (a1 + 2)) 128 191 true _ A11.out).mono ?_); rintro e w' ⟨rfl, ⟨nd, rfl⟩⟩; refine ⟨_, rfl, ?_⟩) | (go_at_call 95; (with_reducible refine (bonsairef04_in.calls a0 a1 224 224 true _ A13.out).mono ?_); rintro e w' ⟨rfl, ⟨nd, rfl⟩⟩) | (go_at_call 95; (with_reducible refine (bonsairef04_in.calls a0 (wrap64 (a1 + 1)) 160 191 false _ A15.out).mono ?_); rintro e w' ⟨rfl, ⟨nd, rfl⟩⟩) | (go_at_call 95; (with_reducible refine (bonsairef04_in.calls a0 a1 225 236 true _ A17.out).mono ?_); rintro e w' ⟨rfl, ⟨nd, rfl⟩⟩) | (go_at_call 95; (with_reducible refine (bonsairef04_in.calls a0 (wrap64 (a1 + 1)) 128 191 false _ A19.out).mono ?_); rintro e w' ⟨rfl, ⟨nd, rfl⟩⟩) | (go_at_call 95; (with_reducible refine (bonsairef04_in.calls a0 a1 238 239 true _ A21.out).mono ?_); rintro e w' ⟨rfl, ⟨nd, rfl⟩⟩) | (go_at_call 95; (with_reducible refine (bonsairef04_in.calls a0 a1 237 237 true _ A23.out).mono ?_); rintro e w' ⟨rfl, ⟨nd, rfl⟩⟩) | (go_at_call 95; (with_reducible refine (bonsairef04_in.calls a0 (wrap64 (a1 + 1)) 128 159 t137 _ A25.out).mono ?_); rintro e w' ⟨rfl, ⟨nd, rfl⟩⟩))
                          go_meet
                          case rel => exact ⟨_, (t137), (by first | rfl | (simp; done) | (simp [*]; done)), H', ⟨by have := HJ4.out; first | omega | exact Nat.le_refl _⟩, by repeat (first | exact Drawn0.refl _ | apply Drawn0.step)⟩
                        · replace c24 := Bool.eq_false_iff.mpr c24
                          subst c24
                          have H1 : (bonsairef04_sign.j1 kj4 a0 a1 false) = some r := by rw [if_neg (show ¬ (false = true) by decide)] at H; exact H
                          clear H
                          have H := H1
                          clear H1
                          have H' := Aside0.mk H
                          clear H
                          go_wp2_with (first | ((with_reducible refine gate_callee (f := 95) rfl ?_); refine goesL_ (some 20) rfl rfl Try.func95 (by kernel_rfl) rfl #[.string a0, .int .i64 (wrap64 (a1 + 2)), .int .i64 128, .int .i64 191] rfl (by (try simp only [List.map_toArray, List.map_cons, List.map_nil]); first | done | rfl | (simp only [List.length_drop, List.length_take]; rfl)) ?_; (with_reducible refine (bonsairef04_in.calls a0 (wrap64 (a1 + 2)) 128 191 true _ A11.out).mono ?_); rintro e w' ⟨rfl, ⟨nd, rfl⟩⟩; refine ⟨_, rfl, ?_⟩) | (go_at_call 95; (with_reducible refine (bonsairef04_in.calls a0 a1 224 224 true _ A13.out).mono ?_); rintro e w' ⟨rfl, ⟨nd, rfl⟩⟩) | (go_at_call 95; (with_reducible refine (bonsairef04_in.calls a0 (wrap64 (a1 + 1)) 160 191 false _ A15.out).mono ?_); rintro e w' ⟨rfl, ⟨nd, rfl⟩⟩) | (go_at_call 95; (with_reducible refine (bonsairef04_in.calls a0 a1 225 236 true _ A17.out).mono ?_); rintro e w' ⟨rfl, ⟨nd, rfl⟩⟩) | (go_at_call 95; (with_reducible refine (bonsairef04_in.calls a0 (wrap64 (a1 + 1)) 128 191 false _ A19.out).mono ?_); rintro e w' ⟨rfl, ⟨nd, rfl⟩⟩) | (go_at_call 95; (with_reducible refine (bonsairef04_in.calls a0 a1 238 239 true _ A21.out).mono ?_); rintro e w' ⟨rfl, ⟨nd, rfl⟩⟩) | (go_at_call 95; (with_reducible refine (bonsairef04_in.calls a0 a1 237 237 false _ A23.out).mono ?_); rintro e w' ⟨rfl, ⟨nd, rfl⟩⟩))
                          go_meet
                          case rel => exact ⟨_, (false), (by first | rfl | (simp; done) | (simp [*]; done)), H', ⟨by have := HJ4.out; first | omega | exact Nat.le_refl _⟩, by repeat (first | exact Drawn0.refl _ | apply Drawn0.step)⟩
                      · replace c22 := Bool.eq_false_iff.mpr c22
                        subst c22
                        have H1 : ((bonsairef04_in.f a0 a1 237 237).bind fun t138 => (if t138 = true then ((bonsairef04_in.f a0 (wrap64 (a1 + 1)) 128 159).bind fun t139 => (bonsairef04_sign.j1 kj4 a0 a1 t139)) else (bonsairef04_sign.j1 kj4 a0 a1 false))) = some r := by rw [if_neg (show ¬ (false = true) by decide)] at H; exact H
                        clear H
                        have H := H1
                        clear H1
                        replace H := Option.bind_eq_some_iff.mp H
                        obtain ⟨t138, A260, H⟩ := H
                        replace H : (if t138 = true then ((bonsairef04_in.f a0 (wrap64 (a1 + 1)) 128 159).bind fun t139 => (bonsairef04_sign.j1 kj4 a0 a1 t139)) else (bonsairef04_sign.j1 kj4 a0 a1 false)) = some r := H
                        have A26 := Aside0.mk A260
                        clear A260
                        by_cases c27 : t138 = true
                        · subst c27
                          have H1 : ((bonsairef04_in.f a0 (wrap64 (a1 + 1)) 128 159).bind fun t139 => (bonsairef04_sign.j1 kj4 a0 a1 t139)) = some r := by rw [if_pos rfl] at H; exact H
                          clear H
                          have H := H1
                          clear H1
                          replace H := Option.bind_eq_some_iff.mp H
                          obtain ⟨t139, A280, H⟩ := H
                          replace H : (bonsairef04_sign.j1 kj4 a0 a1 t139) = some r := H
                          have A28 := Aside0.mk A280
                          clear A280
                          have H' := Aside0.mk H
                          clear H
                          go_wp2_with (first | ((with_reducible refine gate_callee (f := 95) rfl ?_); refine goesL_ (some 20) rfl rfl Try.func95 (by kernel_rfl) rfl #[.string a0, .int .i64 (wrap64 (a1 + 2)), .int .i64 128, .int .i64 191] rfl (by (try simp only [List.map_toArray, List.map_cons, List.map_nil]); first | done | rfl | (simp only [List.length_drop, List.length_take]; rfl)) ?_; (with_reducible refine (bonsairef04_in.calls a0 (wrap64 (a1 + 2)) 128 191 true _ A11.out).mono ?_); rintro e w' ⟨rfl, ⟨nd, rfl⟩⟩; refine ⟨_, rfl, ?_⟩) | (go_at_call 95; (with_reducible refine (bonsairef04_in.calls a0 a1 224 224 true _ A13.out).mono ?_); rintro e w' ⟨rfl, ⟨nd, rfl⟩⟩) | (go_at_call 95; (with_reducible refine (bonsairef04_in.calls a0 (wrap64 (a1 + 1)) 160 191 false _ A15.out).mono ?_); rintro e w' ⟨rfl, ⟨nd, rfl⟩⟩) | (go_at_call 95; (with_reducible refine (bonsairef04_in.calls a0 a1 225 236 true _ A17.out).mono ?_); rintro e w' ⟨rfl, ⟨nd, rfl⟩⟩) | (go_at_call 95; (with_reducible refine (bonsairef04_in.calls a0 (wrap64 (a1 + 1)) 128 191 false _ A19.out).mono ?_); rintro e w' ⟨rfl, ⟨nd, rfl⟩⟩) | (go_at_call 95; (with_reducible refine (bonsairef04_in.calls a0 a1 238 239 false _ A21.out).mono ?_); rintro e w' ⟨rfl, ⟨nd, rfl⟩⟩) | (go_at_call 95; (with_reducible refine (bonsairef04_in.calls a0 a1 237 237 true _ A26.out).mono ?_); rintro e w' ⟨rfl, ⟨nd, rfl⟩⟩) | (go_at_call 95; (with_reducible refine (bonsairef04_in.calls a0 (wrap64 (a1 + 1)) 128 159 t139 _ A28.out).mono ?_); rintro e w' ⟨rfl, ⟨nd, rfl⟩⟩))
                          go_meet
                          case rel => exact ⟨_, (t139), (by first | rfl | (simp; done) | (simp [*]; done)), H', ⟨by have := HJ4.out; first | omega | exact Nat.le_refl _⟩, by repeat (first | exact Drawn0.refl _ | apply Drawn0.step)⟩
                        · replace c27 := Bool.eq_false_iff.mpr c27
                          subst c27
                          have H1 : (bonsairef04_sign.j1 kj4 a0 a1 false) = some r := by rw [if_neg (show ¬ (false = true) by decide)] at H; exact H
                          clear H
                          have H := H1
                          clear H1
                          have H' := Aside0.mk H
                          clear H
                          go_wp2_with (first | ((with_reducible refine gate_callee (f := 95) rfl ?_); refine goesL_ (some 20) rfl rfl Try.func95 (by kernel_rfl) rfl #[.string a0, .int .i64 (wrap64 (a1 + 2)), .int .i64 128, .int .i64 191] rfl (by (try simp only [List.map_toArray, List.map_cons, List.map_nil]); first | done | rfl | (simp only [List.length_drop, List.length_take]; rfl)) ?_; (with_reducible refine (bonsairef04_in.calls a0 (wrap64 (a1 + 2)) 128 191 true _ A11.out).mono ?_); rintro e w' ⟨rfl, ⟨nd, rfl⟩⟩; refine ⟨_, rfl, ?_⟩) | (go_at_call 95; (with_reducible refine (bonsairef04_in.calls a0 a1 224 224 true _ A13.out).mono ?_); rintro e w' ⟨rfl, ⟨nd, rfl⟩⟩) | (go_at_call 95; (with_reducible refine (bonsairef04_in.calls a0 (wrap64 (a1 + 1)) 160 191 false _ A15.out).mono ?_); rintro e w' ⟨rfl, ⟨nd, rfl⟩⟩) | (go_at_call 95; (with_reducible refine (bonsairef04_in.calls a0 a1 225 236 true _ A17.out).mono ?_); rintro e w' ⟨rfl, ⟨nd, rfl⟩⟩) | (go_at_call 95; (with_reducible refine (bonsairef04_in.calls a0 (wrap64 (a1 + 1)) 128 191 false _ A19.out).mono ?_); rintro e w' ⟨rfl, ⟨nd, rfl⟩⟩) | (go_at_call 95; (with_reducible refine (bonsairef04_in.calls a0 a1 238 239 false _ A21.out).mono ?_); rintro e w' ⟨rfl, ⟨nd, rfl⟩⟩) | (go_at_call 95; (with_reducible refine (bonsairef04_in.calls a0 a1 237 237 false _ A26.out).mono ?_); rintro e w' ⟨rfl, ⟨nd, rfl⟩⟩))
                          go_meet
                          case rel => exact ⟨_, (false), (by first | rfl | (simp; done) | (simp [*]; done)), H', ⟨by have := HJ4.out; first | omega | exact Nat.le_refl _⟩, by repeat (first | exact Drawn0.refl _ | apply Drawn0.step)⟩
                  · replace c18 := Bool.eq_false_iff.mpr c18
                    subst c18
                    have H1 : ((bonsairef04_in.f a0 a1 238 239).bind fun t140 => (if t140 = true then ((bonsairef04_in.f a0 (wrap64 (a1 + 1)) 128 191).bind fun t141 => (if t141 = true then (bonsairef04_sign.j1 kj4 a0 a1 true) else ((bonsairef04_in.f a0 a1 237 237).bind fun t142 => (if t142 = true then ((bonsairef04_in.f a0 (wrap64 (a1 + 1)) 128 159).bind fun t143 => (bonsairef04_sign.j1 kj4 a0 a1 t143)) else (bonsairef04_sign.j1 kj4 a0 a1 false))))) else ((bonsairef04_in.f a0 a1 237 237).bind fun t144 => (if t144 = true then ((bonsairef04_in.f a0 (wrap64 (a1 + 1)) 128 159).bind fun t145 => (bonsairef04_sign.j1 kj4 a0 a1 t145)) else (bonsairef04_sign.j1 kj4 a0 a1 false))))) = some r := by rw [if_neg (show ¬ (false = true) by decide)] at H; exact H
                    clear H
                    have H := H1
                    clear H1
                    replace H := Option.bind_eq_some_iff.mp H
                    obtain ⟨t140, A290, H⟩ := H
                    replace H : (if t140 = true then ((bonsairef04_in.f a0 (wrap64 (a1 + 1)) 128 191).bind fun t141 => (if t141 = true then (bonsairef04_sign.j1 kj4 a0 a1 true) else ((bonsairef04_in.f a0 a1 237 237).bind fun t142 => (if t142 = true then ((bonsairef04_in.f a0 (wrap64 (a1 + 1)) 128 159).bind fun t143 => (bonsairef04_sign.j1 kj4 a0 a1 t143)) else (bonsairef04_sign.j1 kj4 a0 a1 false))))) else ((bonsairef04_in.f a0 a1 237 237).bind fun t144 => (if t144 = true then ((bonsairef04_in.f a0 (wrap64 (a1 + 1)) 128 159).bind fun t145 => (bonsairef04_sign.j1 kj4 a0 a1 t145)) else (bonsairef04_sign.j1 kj4 a0 a1 false)))) = some r := H
                    have A29 := Aside0.mk A290
                    clear A290
                    by_cases c30 : t140 = true
                    · subst c30
                      have H1 : ((bonsairef04_in.f a0 (wrap64 (a1 + 1)) 128 191).bind fun t141 => (if t141 = true then (bonsairef04_sign.j1 kj4 a0 a1 true) else ((bonsairef04_in.f a0 a1 237 237).bind fun t142 => (if t142 = true then ((bonsairef04_in.f a0 (wrap64 (a1 + 1)) 128 159).bind fun t143 => (bonsairef04_sign.j1 kj4 a0 a1 t143)) else (bonsairef04_sign.j1 kj4 a0 a1 false))))) = some r := by rw [if_pos rfl] at H; exact H
                      clear H
                      have H := H1
                      clear H1
                      replace H := Option.bind_eq_some_iff.mp H
                      obtain ⟨t141, A310, H⟩ := H
                      replace H : (if t141 = true then (bonsairef04_sign.j1 kj4 a0 a1 true) else ((bonsairef04_in.f a0 a1 237 237).bind fun t142 => (if t142 = true then ((bonsairef04_in.f a0 (wrap64 (a1 + 1)) 128 159).bind fun t143 => (bonsairef04_sign.j1 kj4 a0 a1 t143)) else (bonsairef04_sign.j1 kj4 a0 a1 false)))) = some r := H
                      have A31 := Aside0.mk A310
                      clear A310
                      by_cases c32 : t141 = true
                      · subst c32
                        have H1 : (bonsairef04_sign.j1 kj4 a0 a1 true) = some r := by rw [if_pos rfl] at H; exact H
                        clear H
                        have H := H1
                        clear H1
                        have H' := Aside0.mk H
                        clear H
                        go_wp2_with (first | ((with_reducible refine gate_callee (f := 95) rfl ?_); refine goesL_ (some 20) rfl rfl Try.func95 (by kernel_rfl) rfl #[.string a0, .int .i64 (wrap64 (a1 + 2)), .int .i64 128, .int .i64 191] rfl (by (try simp only [List.map_toArray, List.map_cons, List.map_nil]); first | done | rfl | (simp only [List.length_drop, List.length_take]; rfl)) ?_; (with_reducible refine (bonsairef04_in.calls a0 (wrap64 (a1 + 2)) 128 191 true _ A11.out).mono ?_); rintro e w' ⟨rfl, ⟨nd, rfl⟩⟩; refine ⟨_, rfl, ?_⟩) | (go_at_call 95; (with_reducible refine (bonsairef04_in.calls a0 a1 224 224 true _ A13.out).mono ?_); rintro e w' ⟨rfl, ⟨nd, rfl⟩⟩) | (go_at_call 95; (with_reducible refine (bonsairef04_in.calls a0 (wrap64 (a1 + 1)) 160 191 false _ A15.out).mono ?_); rintro e w' ⟨rfl, ⟨nd, rfl⟩⟩) | (go_at_call 95; (with_reducible refine (bonsairef04_in.calls a0 a1 225 236 false _ A17.out).mono ?_); rintro e w' ⟨rfl, ⟨nd, rfl⟩⟩) | (go_at_call 95; (with_reducible refine (bonsairef04_in.calls a0 a1 238 239 true _ A29.out).mono ?_); rintro e w' ⟨rfl, ⟨nd, rfl⟩⟩) | (go_at_call 95; (with_reducible refine (bonsairef04_in.calls a0 (wrap64 (a1 + 1)) 128 191 true _ A31.out).mono ?_); rintro e w' ⟨rfl, ⟨nd, rfl⟩⟩))
                        go_meet
                        case rel => exact ⟨_, (true), (by first | rfl | (simp; done) | (simp [*]; done)), H', ⟨by have := HJ4.out; first | omega | exact Nat.le_refl _⟩, by repeat (first | exact Drawn0.refl _ | apply Drawn0.step)⟩
                      · replace c32 := Bool.eq_false_iff.mpr c32
                        subst c32
                        have H1 : ((bonsairef04_in.f a0 a1 237 237).bind fun t142 => (if t142 = true then ((bonsairef04_in.f a0 (wrap64 (a1 + 1)) 128 159).bind fun t143 => (bonsairef04_sign.j1 kj4 a0 a1 t143)) else (bonsairef04_sign.j1 kj4 a0 a1 false))) = some r := by rw [if_neg (show ¬ (false = true) by decide)] at H; exact H
                        clear H
                        have H := H1
                        clear H1
                        replace H := Option.bind_eq_some_iff.mp H
                        obtain ⟨t142, A330, H⟩ := H
                        replace H : (if t142 = true then ((bonsairef04_in.f a0 (wrap64 (a1 + 1)) 128 159).bind fun t143 => (bonsairef04_sign.j1 kj4 a0 a1 t143)) else (bonsairef04_sign.j1 kj4 a0 a1 false)) = some r := H
                        have A33 := Aside0.mk A330
                        clear A330
                        by_cases c34 : t142 = true
                        · subst c34
                          have H1 : ((bonsairef04_in.f a0 (wrap64 (a1 + 1)) 128 159).bind fun t143 => (bonsairef04_sign.j1 kj4 a0 a1 t143)) = some r := by rw [if_pos rfl] at H; exact H
                          clear H
                          have H := H1
                          clear H1
                          replace H := Option.bind_eq_some_iff.mp H
                          obtain ⟨t143, A350, H⟩ := H
                          replace H : (bonsairef04_sign.j1 kj4 a0 a1 t143) = some r := H
                          have A35 := Aside0.mk A350
                          clear A350
                          have H' := Aside0.mk H
                          clear H
                          go_wp2_with (first | ((with_reducible refine gate_callee (f := 95) rfl ?_); refine goesL_ (some 20) rfl rfl Try.func95 (by kernel_rfl) rfl #[.string a0, .int .i64 (wrap64 (a1 + 2)), .int .i64 128, .int .i64 191] rfl (by (try simp only [List.map_toArray, List.map_cons, List.map_nil]); first | done | rfl | (simp only [List.length_drop, List.length_take]; rfl)) ?_; (with_reducible refine (bonsairef04_in.calls a0 (wrap64 (a1 + 2)) 128 191 true _ A11.out).mono ?_); rintro e w' ⟨rfl, ⟨nd, rfl⟩⟩; refine ⟨_, rfl, ?_⟩) | (go_at_call 95; (with_reducible refine (bonsairef04_in.calls a0 a1 224 224 true _ A13.out).mono ?_); rintro e w' ⟨rfl, ⟨nd, rfl⟩⟩) | (go_at_call 95; (with_reducible refine (bonsairef04_in.calls a0 (wrap64 (a1 + 1)) 160 191 false _ A15.out).mono ?_); rintro e w' ⟨rfl, ⟨nd, rfl⟩⟩) | (go_at_call 95; (with_reducible refine (bonsairef04_in.calls a0 a1 225 236 false _ A17.out).mono ?_); rintro e w' ⟨rfl, ⟨nd, rfl⟩⟩) | (go_at_call 95; (with_reducible refine (bonsairef04_in.calls a0 a1 238 239 true _ A29.out).mono ?_); rintro e w' ⟨rfl, ⟨nd, rfl⟩⟩) | (go_at_call 95; (with_reducible refine (bonsairef04_in.calls a0 (wrap64 (a1 + 1)) 128 191 false _ A31.out).mono ?_); rintro e w' ⟨rfl, ⟨nd, rfl⟩⟩) | (go_at_call 95; (with_reducible refine (bonsairef04_in.calls a0 a1 237 237 true _ A33.out).mono ?_); rintro e w' ⟨rfl, ⟨nd, rfl⟩⟩) | (go_at_call 95; (with_reducible refine (bonsairef04_in.calls a0 (wrap64 (a1 + 1)) 128 159 t143 _ A35.out).mono ?_); rintro e w' ⟨rfl, ⟨nd, rfl⟩⟩))
                          go_meet
                          case rel => exact ⟨_, (t143), (by first | rfl | (simp; done) | (simp [*]; done)), H', ⟨by have := HJ4.out; first | omega | exact Nat.le_refl _⟩, by repeat (first | exact Drawn0.refl _ | apply Drawn0.step)⟩
                        · replace c34 := Bool.eq_false_iff.mpr c34
                          subst c34
                          have H1 : (bonsairef04_sign.j1 kj4 a0 a1 false) = some r := by rw [if_neg (show ¬ (false = true) by decide)] at H; exact H
                          clear H
                          have H := H1
                          clear H1
                          have H' := Aside0.mk H
                          clear H
                          go_wp2_with (first | ((with_reducible refine gate_callee (f := 95) rfl ?_); refine goesL_ (some 20) rfl rfl Try.func95 (by kernel_rfl) rfl #[.string a0, .int .i64 (wrap64 (a1 + 2)), .int .i64 128, .int .i64 191] rfl (by (try simp only [List.map_toArray, List.map_cons, List.map_nil]); first | done | rfl | (simp only [List.length_drop, List.length_take]; rfl)) ?_; (with_reducible refine (bonsairef04_in.calls a0 (wrap64 (a1 + 2)) 128 191 true _ A11.out).mono ?_); rintro e w' ⟨rfl, ⟨nd, rfl⟩⟩; refine ⟨_, rfl, ?_⟩) | (go_at_call 95; (with_reducible refine (bonsairef04_in.calls a0 a1 224 224 true _ A13.out).mono ?_); rintro e w' ⟨rfl, ⟨nd, rfl⟩⟩) | (go_at_call 95; (with_reducible refine (bonsairef04_in.calls a0 (wrap64 (a1 + 1)) 160 191 false _ A15.out).mono ?_); rintro e w' ⟨rfl, ⟨nd, rfl⟩⟩) | (go_at_call 95; (with_reducible refine (bonsairef04_in.calls a0 a1 225 236 false _ A17.out).mono ?_); rintro e w' ⟨rfl, ⟨nd, rfl⟩⟩) | (go_at_call 95; (with_reducible refine (bonsairef04_in.calls a0 a1 238 239 true _ A29.out).mono ?_); rintro e w' ⟨rfl, ⟨nd, rfl⟩⟩) | (go_at_call 95; (with_reducible refine (bonsairef04_in.calls a0 (wrap64 (a1 + 1)) 128 191 false _ A31.out).mono ?_); rintro e w' ⟨rfl, ⟨nd, rfl⟩⟩) | (go_at_call 95; (with_reducible refine (bonsairef04_in.calls a0 a1 237 237 false _ A33.out).mono ?_); rintro e w' ⟨rfl, ⟨nd, rfl⟩⟩))
                          go_meet
                          case rel => exact ⟨_, (false), (by first | rfl | (simp; done) | (simp [*]; done)), H', ⟨by have := HJ4.out; first | omega | exact Nat.le_refl _⟩, by repeat (first | exact Drawn0.refl _ | apply Drawn0.step)⟩
                    · replace c30 := Bool.eq_false_iff.mpr c30
                      subst c30
                      have H1 : ((bonsairef04_in.f a0 a1 237 237).bind fun t144 => (if t144 = true then ((bonsairef04_in.f a0 (wrap64 (a1 + 1)) 128 159).bind fun t145 => (bonsairef04_sign.j1 kj4 a0 a1 t145)) else (bonsairef04_sign.j1 kj4 a0 a1 false))) = some r := by rw [if_neg (show ¬ (false = true) by decide)] at H; exact H
                      clear H
                      have H := H1
                      clear H1
                      replace H := Option.bind_eq_some_iff.mp H
                      obtain ⟨t144, A360, H⟩ := H
                      replace H : (if t144 = true then ((bonsairef04_in.f a0 (wrap64 (a1 + 1)) 128 159).bind fun t145 => (bonsairef04_sign.j1 kj4 a0 a1 t145)) else (bonsairef04_sign.j1 kj4 a0 a1 false)) = some r := H
                      have A36 := Aside0.mk A360
                      clear A360
                      by_cases c37 : t144 = true
                      · subst c37
                        have H1 : ((bonsairef04_in.f a0 (wrap64 (a1 + 1)) 128 159).bind fun t145 => (bonsairef04_sign.j1 kj4 a0 a1 t145)) = some r := by rw [if_pos rfl] at H; exact H
                        clear H
                        have H := H1
                        clear H1
                        replace H := Option.bind_eq_some_iff.mp H
                        obtain ⟨t145, A380, H⟩ := H
                        replace H : (bonsairef04_sign.j1 kj4 a0 a1 t145) = some r := H
                        have A38 := Aside0.mk A380
                        clear A380
                        have H' := Aside0.mk H
                        clear H
                        go_wp2_with (first | ((with_reducible refine gate_callee (f := 95) rfl ?_); refine goesL_ (some 20) rfl rfl Try.func95 (by kernel_rfl) rfl #[.string a0, .int .i64 (wrap64 (a1 + 2)), .int .i64 128, .int .i64 191] rfl (by (try simp only [List.map_toArray, List.map_cons, List.map_nil]); first | done | rfl | (simp only [List.length_drop, List.length_take]; rfl)) ?_; (with_reducible refine (bonsairef04_in.calls a0 (wrap64 (a1 + 2)) 128 191 true _ A11.out).mono ?_); rintro e w' ⟨rfl, ⟨nd, rfl⟩⟩; refine ⟨_, rfl, ?_⟩) | (go_at_call 95; (with_reducible refine (bonsairef04_in.calls a0 a1 224 224 true _ A13.out).mono ?_); rintro e w' ⟨rfl, ⟨nd, rfl⟩⟩) | (go_at_call 95; (with_reducible refine (bonsairef04_in.calls a0 (wrap64 (a1 + 1)) 160 191 false _ A15.out).mono ?_); rintro e w' ⟨rfl, ⟨nd, rfl⟩⟩) | (go_at_call 95; (with_reducible refine (bonsairef04_in.calls a0 a1 225 236 false _ A17.out).mono ?_); rintro e w' ⟨rfl, ⟨nd, rfl⟩⟩) | (go_at_call 95; (with_reducible refine (bonsairef04_in.calls a0 a1 238 239 false _ A29.out).mono ?_); rintro e w' ⟨rfl, ⟨nd, rfl⟩⟩) | (go_at_call 95; (with_reducible refine (bonsairef04_in.calls a0 a1 237 237 true _ A36.out).mono ?_); rintro e w' ⟨rfl, ⟨nd, rfl⟩⟩) | (go_at_call 95; (with_reducible refine (bonsairef04_in.calls a0 (wrap64 (a1 + 1)) 128 159 t145 _ A38.out).mono ?_); rintro e w' ⟨rfl, ⟨nd, rfl⟩⟩))
                        go_meet
                        case rel => exact ⟨_, (t145), (by first | rfl | (simp; done) | (simp [*]; done)), H', ⟨by have := HJ4.out; first | omega | exact Nat.le_refl _⟩, by repeat (first | exact Drawn0.refl _ | apply Drawn0.step)⟩
                      · replace c37 := Bool.eq_false_iff.mpr c37
                        subst c37
                        have H1 : (bonsairef04_sign.j1 kj4 a0 a1 false) = some r := by rw [if_neg (show ¬ (false = true) by decide)] at H; exact H
                        clear H
                        have H := H1
                        clear H1
                        have H' := Aside0.mk H
                        clear H
                        go_wp2_with (first | ((with_reducible refine gate_callee (f := 95) rfl ?_); refine goesL_ (some 20) rfl rfl Try.func95 (by kernel_rfl) rfl #[.string a0, .int .i64 (wrap64 (a1 + 2)), .int .i64 128, .int .i64 191] rfl (by (try simp only [List.map_toArray, List.map_cons, List.map_nil]); first | done | rfl | (simp only [List.length_drop, List.length_take]; rfl)) ?_; (with_reducible refine (bonsairef04_in.calls a0 (wrap64 (a1 + 2)) 128 191 true _ A11.out).mono ?_); rintro e w' ⟨rfl, ⟨nd, rfl⟩⟩; refine ⟨_, rfl, ?_⟩) | (go_at_call 95; (with_reducible refine (bonsairef04_in.calls a0 a1 224 224 true _ A13.out).mono ?_); rintro e w' ⟨rfl, ⟨nd, rfl⟩⟩) | (go_at_call 95; (with_reducible refine (bonsairef04_in.calls a0 (wrap64 (a1 + 1)) 160 191 false _ A15.out).mono ?_); rintro e w' ⟨rfl, ⟨nd, rfl⟩⟩) | (go_at_call 95; (with_reducible refine (bonsairef04_in.calls a0 a1 225 236 false _ A17.out).mono ?_); rintro e w' ⟨rfl, ⟨nd, rfl⟩⟩) | (go_at_call 95; (with_reducible refine (bonsairef04_in.calls a0 a1 238 239 false _ A29.out).mono ?_); rintro e w' ⟨rfl, ⟨nd, rfl⟩⟩) | (go_at_call 95; (with_reducible refine (bonsairef04_in.calls a0 a1 237 237 false _ A36.out).mono ?_); rintro e w' ⟨rfl, ⟨nd, rfl⟩⟩))
                        go_meet
                        case rel => exact ⟨_, (false), (by first | rfl | (simp; done) | (simp [*]; done)), H', ⟨by have := HJ4.out; first | omega | exact Nat.le_refl _⟩, by repeat (first | exact Drawn0.refl _ | apply Drawn0.step)⟩
              · replace c14 := Bool.eq_false_iff.mpr c14
                subst c14
                have H1 : ((bonsairef04_in.f a0 a1 225 236).bind fun t146 => (if t146 = true then ((bonsairef04_in.f a0 (wrap64 (a1 + 1)) 128 191).bind fun t147 => (if t147 = true then (bonsairef04_sign.j1 kj4 a0 a1 true) else ((bonsairef04_in.f a0 a1 238 239).bind fun t148 => (if t148 = true then ((bonsairef04_in.f a0 a1 237 237).bind fun t149 => (if t149 = true then ((bonsairef04_in.f a0 (wrap64 (a1 + 1)) 128 159).bind fun t150 => (bonsairef04_sign.j1 kj4 a0 a1 t150)) else (bonsairef04_sign.j1 kj4 a0 a1 false))) else ((bonsairef04_in.f a0 a1 237 237).bind fun t151 => (if t151 = true then ((bonsairef04_in.f a0 (wrap64 (a1 + 1)) 128 159).bind fun t152 => (bonsairef04_sign.j1 kj4 a0 a1 t152)) else (bonsairef04_sign.j1 kj4 a0 a1 false))))))) else ((bonsairef04_in.f a0 a1 238 239).bind fun t153 => (if t153 = true then ((bonsairef04_in.f a0 (wrap64 (a1 + 1)) 128 191).bind fun t154 => (if t154 = true then (bonsairef04_sign.j1 kj4 a0 a1 true) else ((bonsairef04_in.f a0 a1 237 237).bind fun t155 => (if t155 = true then ((bonsairef04_in.f a0 (wrap64 (a1 + 1)) 128 159).bind fun t156 => (bonsairef04_sign.j1 kj4 a0 a1 t156)) else (bonsairef04_sign.j1 kj4 a0 a1 false))))) else ((bonsairef04_in.f a0 a1 237 237).bind fun t157 => (if t157 = true then ((bonsairef04_in.f a0 (wrap64 (a1 + 1)) 128 159).bind fun t158 => (bonsairef04_sign.j1 kj4 a0 a1 t158)) else (bonsairef04_sign.j1 kj4 a0 a1 false))))))) = some r := by rw [if_neg (show ¬ (false = true) by decide)] at H; exact H
                clear H
                have H := H1
                clear H1
                replace H := Option.bind_eq_some_iff.mp H
                obtain ⟨t146, A390, H⟩ := H
                replace H : (if t146 = true then ((bonsairef04_in.f a0 (wrap64 (a1 + 1)) 128 191).bind fun t147 => (if t147 = true then (bonsairef04_sign.j1 kj4 a0 a1 true) else ((bonsairef04_in.f a0 a1 238 239).bind fun t148 => (if t148 = true then ((bonsairef04_in.f a0 a1 237 237).bind fun t149 => (if t149 = true then ((bonsairef04_in.f a0 (wrap64 (a1 + 1)) 128 159).bind fun t150 => (bonsairef04_sign.j1 kj4 a0 a1 t150)) else (bonsairef04_sign.j1 kj4 a0 a1 false))) else ((bonsairef04_in.f a0 a1 237 237).bind fun t151 => (if t151 = true then ((bonsairef04_in.f a0 (wrap64 (a1 + 1)) 128 159).bind fun t152 => (bonsairef04_sign.j1 kj4 a0 a1 t152)) else (bonsairef04_sign.j1 kj4 a0 a1 false))))))) else ((bonsairef04_in.f a0 a1 238 239).bind fun t153 => (if t153 = true then ((bonsairef04_in.f a0 (wrap64 (a1 + 1)) 128 191).bind fun t154 => (if t154 = true then (bonsairef04_sign.j1 kj4 a0 a1 true) else ((bonsairef04_in.f a0 a1 237 237).bind fun t155 => (if t155 = true then ((bonsairef04_in.f a0 (wrap64 (a1 + 1)) 128 159).bind fun t156 => (bonsairef04_sign.j1 kj4 a0 a1 t156)) else (bonsairef04_sign.j1 kj4 a0 a1 false))))) else ((bonsairef04_in.f a0 a1 237 237).bind fun t157 => (if t157 = true then ((bonsairef04_in.f a0 (wrap64 (a1 + 1)) 128 159).bind fun t158 => (bonsairef04_sign.j1 kj4 a0 a1 t158)) else (bonsairef04_sign.j1 kj4 a0 a1 false)))))) = some r := H
                have A39 := Aside0.mk A390
                clear A390
                by_cases c40 : t146 = true
                · subst c40
                  have H1 : ((bonsairef04_in.f a0 (wrap64 (a1 + 1)) 128 191).bind fun t147 => (if t147 = true then (bonsairef04_sign.j1 kj4 a0 a1 true) else ((bonsairef04_in.f a0 a1 238 239).bind fun t148 => (if t148 = true then ((bonsairef04_in.f a0 a1 237 237).bind fun t149 => (if t149 = true then ((bonsairef04_in.f a0 (wrap64 (a1 + 1)) 128 159).bind fun t150 => (bonsairef04_sign.j1 kj4 a0 a1 t150)) else (bonsairef04_sign.j1 kj4 a0 a1 false))) else ((bonsairef04_in.f a0 a1 237 237).bind fun t151 => (if t151 = true then ((bonsairef04_in.f a0 (wrap64 (a1 + 1)) 128 159).bind fun t152 => (bonsairef04_sign.j1 kj4 a0 a1 t152)) else (bonsairef04_sign.j1 kj4 a0 a1 false))))))) = some r := by rw [if_pos rfl] at H; exact H
                  clear H
                  have H := H1
                  clear H1
                  replace H := Option.bind_eq_some_iff.mp H
                  obtain ⟨t147, A410, H⟩ := H
                  replace H : (if t147 = true then (bonsairef04_sign.j1 kj4 a0 a1 true) else ((bonsairef04_in.f a0 a1 238 239).bind fun t148 => (if t148 = true then ((bonsairef04_in.f a0 a1 237 237).bind fun t149 => (if t149 = true then ((bonsairef04_in.f a0 (wrap64 (a1 + 1)) 128 159).bind fun t150 => (bonsairef04_sign.j1 kj4 a0 a1 t150)) else (bonsairef04_sign.j1 kj4 a0 a1 false))) else ((bonsairef04_in.f a0 a1 237 237).bind fun t151 => (if t151 = true then ((bonsairef04_in.f a0 (wrap64 (a1 + 1)) 128 159).bind fun t152 => (bonsairef04_sign.j1 kj4 a0 a1 t152)) else (bonsairef04_sign.j1 kj4 a0 a1 false)))))) = some r := H
                  have A41 := Aside0.mk A410
                  clear A410
                  by_cases c42 : t147 = true
                  · subst c42
                    have H1 : (bonsairef04_sign.j1 kj4 a0 a1 true) = some r := by rw [if_pos rfl] at H; exact H
                    clear H
                    have H := H1
                    clear H1
                    have H' := Aside0.mk H
                    clear H
                    go_wp2_with (first | ((with_reducible refine gate_callee (f := 95) rfl ?_); refine goesL_ (some 20) rfl rfl Try.func95 (by kernel_rfl) rfl #[.string a0, .int .i64 (wrap64 (a1 + 2)), .int .i64 128, .int .i64 191] rfl (by (try simp only [List.map_toArray, List.map_cons, List.map_nil]); first | done | rfl | (simp only [List.length_drop, List.length_take]; rfl)) ?_; (with_reducible refine (bonsairef04_in.calls a0 (wrap64 (a1 + 2)) 128 191 true _ A11.out).mono ?_); rintro e w' ⟨rfl, ⟨nd, rfl⟩⟩; refine ⟨_, rfl, ?_⟩) | (go_at_call 95; (with_reducible refine (bonsairef04_in.calls a0 a1 224 224 false _ A13.out).mono ?_); rintro e w' ⟨rfl, ⟨nd, rfl⟩⟩) | (go_at_call 95; (with_reducible refine (bonsairef04_in.calls a0 a1 225 236 true _ A39.out).mono ?_); rintro e w' ⟨rfl, ⟨nd, rfl⟩⟩) | (go_at_call 95; (with_reducible refine (bonsairef04_in.calls a0 (wrap64 (a1 + 1)) 128 191 true _ A41.out).mono ?_); rintro e w' ⟨rfl, ⟨nd, rfl⟩⟩))
                    go_meet
                    case rel => exact ⟨_, (true), (by first | rfl | (simp; done) | (simp [*]; done)), H', ⟨by have := HJ4.out; first | omega | exact Nat.le_refl _⟩, by repeat (first | exact Drawn0.refl _ | apply Drawn0.step)⟩
                  · replace c42 := Bool.eq_false_iff.mpr c42
                    subst c42
                    have H1 : ((bonsairef04_in.f a0 a1 238 239).bind fun t148 => (if t148 = true then ((bonsairef04_in.f a0 a1 237 237).bind fun t149 => (if t149 = true then ((bonsairef04_in.f a0 (wrap64 (a1 + 1)) 128 159).bind fun t150 => (bonsairef04_sign.j1 kj4 a0 a1 t150)) else (bonsairef04_sign.j1 kj4 a0 a1 false))) else ((bonsairef04_in.f a0 a1 237 237).bind fun t151 => (if t151 = true then ((bonsairef04_in.f a0 (wrap64 (a1 + 1)) 128 159).bind fun t152 => (bonsairef04_sign.j1 kj4 a0 a1 t152)) else (bonsairef04_sign.j1 kj4 a0 a1 false))))) = some r := by rw [if_neg (show ¬ (false = true) by decide)] at H; exact H
                    clear H
                    have H := H1
                    clear H1
                    replace H := Option.bind_eq_some_iff.mp H
                    obtain ⟨t148, A430, H⟩ := H
                    replace H : (if t148 = true then ((bonsairef04_in.f a0 a1 237 237).bind fun t149 => (if t149 = true then ((bonsairef04_in.f a0 (wrap64 (a1 + 1)) 128 159).bind fun t150 => (bonsairef04_sign.j1 kj4 a0 a1 t150)) else (bonsairef04_sign.j1 kj4 a0 a1 false))) else ((bonsairef04_in.f a0 a1 237 237).bind fun t151 => (if t151 = true then ((bonsairef04_in.f a0 (wrap64 (a1 + 1)) 128 159).bind fun t152 => (bonsairef04_sign.j1 kj4 a0 a1 t152)) else (bonsairef04_sign.j1 kj4 a0 a1 false)))) = some r := H
                    have A43 := Aside0.mk A430
                    clear A430
                    by_cases c44 : t148 = true
                    · subst c44
                      have H1 : ((bonsairef04_in.f a0 a1 237 237).bind fun t149 => (if t149 = true then ((bonsairef04_in.f a0 (wrap64 (a1 + 1)) 128 159).bind fun t150 => (bonsairef04_sign.j1 kj4 a0 a1 t150)) else (bonsairef04_sign.j1 kj4 a0 a1 false))) = some r := by rw [if_pos rfl] at H; exact H
                      clear H
                      have H := H1
                      clear H1
                      replace H := Option.bind_eq_some_iff.mp H
                      obtain ⟨t149, A450, H⟩ := H
                      replace H : (if t149 = true then ((bonsairef04_in.f a0 (wrap64 (a1 + 1)) 128 159).bind fun t150 => (bonsairef04_sign.j1 kj4 a0 a1 t150)) else (bonsairef04_sign.j1 kj4 a0 a1 false)) = some r := H
                      have A45 := Aside0.mk A450
                      clear A450
                      by_cases c46 : t149 = true
                      · subst c46
                        have H1 : ((bonsairef04_in.f a0 (wrap64 (a1 + 1)) 128 159).bind fun t150 => (bonsairef04_sign.j1 kj4 a0 a1 t150)) = some r := by rw [if_pos rfl] at H; exact H
                        clear H
                        have H := H1
                        clear H1
                        replace H := Option.bind_eq_some_iff.mp H
                        obtain ⟨t150, A470, H⟩ := H
                        replace H : (bonsairef04_sign.j1 kj4 a0 a1 t150) = some r := H
                        have A47 := Aside0.mk A470
                        clear A470
                        have H' := Aside0.mk H
                        clear H
                        go_wp2_with (first | ((with_reducible refine gate_callee (f := 95) rfl ?_); refine goesL_ (some 20) rfl rfl Try.func95 (by kernel_rfl) rfl #[.string a0, .int .i64 (wrap64 (a1 + 2)), .int .i64 128, .int .i64 191] rfl (by (try simp only [List.map_toArray, List.map_cons, List.map_nil]); first | done | rfl | (simp only [List.length_drop, List.length_take]; rfl)) ?_; (with_reducible refine (bonsairef04_in.calls a0 (wrap64 (a1 + 2)) 128 191 true _ A11.out).mono ?_); rintro e w' ⟨rfl, ⟨nd, rfl⟩⟩; refine ⟨_, rfl, ?_⟩) | (go_at_call 95; (with_reducible refine (bonsairef04_in.calls a0 a1 224 224 false _ A13.out).mono ?_); rintro e w' ⟨rfl, ⟨nd, rfl⟩⟩) | (go_at_call 95; (with_reducible refine (bonsairef04_in.calls a0 a1 225 236 true _ A39.out).mono ?_); rintro e w' ⟨rfl, ⟨nd, rfl⟩⟩) | (go_at_call 95; (with_reducible refine (bonsairef04_in.calls a0 (wrap64 (a1 + 1)) 128 191 false _ A41.out).mono ?_); rintro e w' ⟨rfl, ⟨nd, rfl⟩⟩) | (go_at_call 95; (with_reducible refine (bonsairef04_in.calls a0 a1 238 239 true _ A43.out).mono ?_); rintro e w' ⟨rfl, ⟨nd, rfl⟩⟩) | (go_at_call 95; (with_reducible refine (bonsairef04_in.calls a0 a1 237 237 true _ A45.out).mono ?_); rintro e w' ⟨rfl, ⟨nd, rfl⟩⟩) | (go_at_call 95; (with_reducible refine (bonsairef04_in.calls a0 (wrap64 (a1 + 1)) 128 159 t150 _ A47.out).mono ?_); rintro e w' ⟨rfl, ⟨nd, rfl⟩⟩))
                        go_meet
                        case rel => exact ⟨_, (t150), (by first | rfl | (simp; done) | (simp [*]; done)), H', ⟨by have := HJ4.out; first | omega | exact Nat.le_refl _⟩, by repeat (first | exact Drawn0.refl _ | apply Drawn0.step)⟩
                      · replace c46 := Bool.eq_false_iff.mpr c46
                        subst c46
                        have H1 : (bonsairef04_sign.j1 kj4 a0 a1 false) = some r := by rw [if_neg (show ¬ (false = true) by decide)] at H; exact H
                        clear H
                        have H := H1
                        clear H1
                        have H' := Aside0.mk H
                        clear H
                        go_wp2_with (first | ((with_reducible refine gate_callee (f := 95) rfl ?_); refine goesL_ (some 20) rfl rfl Try.func95 (by kernel_rfl) rfl #[.string a0, .int .i64 (wrap64 (a1 + 2)), .int .i64 128, .int .i64 191] rfl (by (try simp only [List.map_toArray, List.map_cons, List.map_nil]); first | done | rfl | (simp only [List.length_drop, List.length_take]; rfl)) ?_; (with_reducible refine (bonsairef04_in.calls a0 (wrap64 (a1 + 2)) 128 191 true _ A11.out).mono ?_); rintro e w' ⟨rfl, ⟨nd, rfl⟩⟩; refine ⟨_, rfl, ?_⟩) | (go_at_call 95; (with_reducible refine (bonsairef04_in.calls a0 a1 224 224 false _ A13.out).mono ?_); rintro e w' ⟨rfl, ⟨nd, rfl⟩⟩) | (go_at_call 95; (with_reducible refine (bonsairef04_in.calls a0 a1 225 236 true _ A39.out).mono ?_); rintro e w' ⟨rfl, ⟨nd, rfl⟩⟩) | (go_at_call 95; (with_reducible refine (bonsairef04_in.calls a0 (wrap64 (a1 + 1)) 128 191 false _ A41.out).mono ?_); rintro e w' ⟨rfl, ⟨nd, rfl⟩⟩) | (go_at_call 95; (with_reducible refine (bonsairef04_in.calls a0 a1 238 239 true _ A43.out).mono ?_); rintro e w' ⟨rfl, ⟨nd, rfl⟩⟩) | (go_at_call 95; (with_reducible refine (bonsairef04_in.calls a0 a1 237 237 false _ A45.out).mono ?_); rintro e w' ⟨rfl, ⟨nd, rfl⟩⟩))
                        go_meet
                        case rel => exact ⟨_, (false), (by first | rfl | (simp; done) | (simp [*]; done)), H', ⟨by have := HJ4.out; first | omega | exact Nat.le_refl _⟩, by repeat (first | exact Drawn0.refl _ | apply Drawn0.step)⟩
                    · replace c44 := Bool.eq_false_iff.mpr c44
                      subst c44
                      have H1 : ((bonsairef04_in.f a0 a1 237 237).bind fun t151 => (if t151 = true then ((bonsairef04_in.f a0 (wrap64 (a1 + 1)) 128 159).bind fun t152 => (bonsairef04_sign.j1 kj4 a0 a1 t152)) else (bonsairef04_sign.j1 kj4 a0 a1 false))) = some r := by rw [if_neg (show ¬ (false = true) by decide)] at H; exact H
                      clear H
                      have H := H1
                      clear H1
                      replace H := Option.bind_eq_some_iff.mp H
                      obtain ⟨t151, A480, H⟩ := H
                      replace H : (if t151 = true then ((bonsairef04_in.f a0 (wrap64 (a1 + 1)) 128 159).bind fun t152 => (bonsairef04_sign.j1 kj4 a0 a1 t152)) else (bonsairef04_sign.j1 kj4 a0 a1 false)) = some r := H
                      have A48 := Aside0.mk A480
                      clear A480
                      by_cases c49 : t151 = true
                      · subst c49
                        have H1 : ((bonsairef04_in.f a0 (wrap64 (a1 + 1)) 128 159).bind fun t152 => (bonsairef04_sign.j1 kj4 a0 a1 t152)) = some r := by rw [if_pos rfl] at H; exact H
                        clear H
                        have H := H1
                        clear H1
                        replace H := Option.bind_eq_some_iff.mp H
                        obtain ⟨t152, A500, H⟩ := H
                        replace H : (bonsairef04_sign.j1 kj4 a0 a1 t152) = some r := H
                        have A50 := Aside0.mk A500
                        clear A500
                        have H' := Aside0.mk H
                        clear H
                        go_wp2_with (first | ((with_reducible refine gate_callee (f := 95) rfl ?_); refine goesL_ (some 20) rfl rfl Try.func95 (by kernel_rfl) rfl #[.string a0, .int .i64 (wrap64 (a1 + 2)), .int .i64 128, .int .i64 191] rfl (by (try simp only [List.map_toArray, List.map_cons, List.map_nil]); first | done | rfl | (simp only [List.length_drop, List.length_take]; rfl)) ?_; (with_reducible refine (bonsairef04_in.calls a0 (wrap64 (a1 + 2)) 128 191 true _ A11.out).mono ?_); rintro e w' ⟨rfl, ⟨nd, rfl⟩⟩; refine ⟨_, rfl, ?_⟩) | (go_at_call 95; (with_reducible refine (bonsairef04_in.calls a0 a1 224 224 false _ A13.out).mono ?_); rintro e w' ⟨rfl, ⟨nd, rfl⟩⟩) | (go_at_call 95; (with_reducible refine (bonsairef04_in.calls a0 a1 225 236 true _ A39.out).mono ?_); rintro e w' ⟨rfl, ⟨nd, rfl⟩⟩) | (go_at_call 95; (with_reducible refine (bonsairef04_in.calls a0 (wrap64 (a1 + 1)) 128 191 false _ A41.out).mono ?_); rintro e w' ⟨rfl, ⟨nd, rfl⟩⟩) | (go_at_call 95; (with_reducible refine (bonsairef04_in.calls a0 a1 238 239 false _ A43.out).mono ?_); rintro e w' ⟨rfl, ⟨nd, rfl⟩⟩) | (go_at_call 95; (with_reducible refine (bonsairef04_in.calls a0 a1 237 237 true _ A48.out).mono ?_); rintro e w' ⟨rfl, ⟨nd, rfl⟩⟩) | (go_at_call 95; (with_reducible refine (bonsairef04_in.calls a0 (wrap64 (a1 + 1)) 128 159 t152 _ A50.out).mono ?_); rintro e w' ⟨rfl, ⟨nd, rfl⟩⟩))
                        go_meet
                        case rel => exact ⟨_, (t152), (by first | rfl | (simp; done) | (simp [*]; done)), H', ⟨by have := HJ4.out; first | omega | exact Nat.le_refl _⟩, by repeat (first | exact Drawn0.refl _ | apply Drawn0.step)⟩
                      · replace c49 := Bool.eq_false_iff.mpr c49
                        subst c49
                        have H1 : (bonsairef04_sign.j1 kj4 a0 a1 false) = some r := by rw [if_neg (show ¬ (false = true) by decide)] at H; exact H
                        clear H
                        have H := H1
                        clear H1
                        have H' := Aside0.mk H
                        clear H
                        go_wp2_with (first | ((with_reducible refine gate_callee (f := 95) rfl ?_); refine goesL_ (some 20) rfl rfl Try.func95 (by kernel_rfl) rfl #[.string a0, .int .i64 (wrap64 (a1 + 2)), .int .i64 128, .int .i64 191] rfl (by (try simp only [List.map_toArray, List.map_cons, List.map_nil]); first | done | rfl | (simp only [List.length_drop, List.length_take]; rfl)) ?_; (with_reducible refine (bonsairef04_in.calls a0 (wrap64 (a1 + 2)) 128 191 true _ A11.out).mono ?_); rintro e w' ⟨rfl, ⟨nd, rfl⟩⟩; refine ⟨_, rfl, ?_⟩) | (go_at_call 95; (with_reducible refine (bonsairef04_in.calls a0 a1 224 224 false _ A13.out).mono ?_); rintro e w' ⟨rfl, ⟨nd, rfl⟩⟩) | (go_at_call 95; (with_reducible refine (bonsairef04_in.calls a0 a1 225 236 true _ A39.out).mono ?_); rintro e w' ⟨rfl, ⟨nd, rfl⟩⟩) | (go_at_call 95; (with_reducible refine (bonsairef04_in.calls a0 (wrap64 (a1 + 1)) 128 191 false _ A41.out).mono ?_); rintro e w' ⟨rfl, ⟨nd, rfl⟩⟩) | (go_at_call 95; (with_reducible refine (bonsairef04_in.calls a0 a1 238 239 false _ A43.out).mono ?_); rintro e w' ⟨rfl, ⟨nd, rfl⟩⟩) | (go_at_call 95; (with_reducible refine (bonsairef04_in.calls a0 a1 237 237 false _ A48.out).mono ?_); rintro e w' ⟨rfl, ⟨nd, rfl⟩⟩))
                        go_meet
                        case rel => exact ⟨_, (false), (by first | rfl | (simp; done) | (simp [*]; done)), H', ⟨by have := HJ4.out; first | omega | exact Nat.le_refl _⟩, by repeat (first | exact Drawn0.refl _ | apply Drawn0.step)⟩
                · replace c40 := Bool.eq_false_iff.mpr c40
                  subst c40
                  have H1 : ((bonsairef04_in.f a0 a1 238 239).bind fun t153 => (if t153 = true then ((bonsairef04_in.f a0 (wrap64 (a1 + 1)) 128 191).bind fun t154 => (if t154 = true then (bonsairef04_sign.j1 kj4 a0 a1 true) else ((bonsairef04_in.f a0 a1 237 237).bind fun t155 => (if t155 = true then ((bonsairef04_in.f a0 (wrap64 (a1 + 1)) 128 159).bind fun t156 => (bonsairef04_sign.j1 kj4 a0 a1 t156)) else (bonsairef04_sign.j1 kj4 a0 a1 false))))) else ((bonsairef04_in.f a0 a1 237 237).bind fun t157 => (if t157 = true then ((bonsairef04_in.f a0 (wrap64 (a1 + 1)) 128 159).bind fun t158 => (bonsairef04_sign.j1 kj4 a0 a1 t158)) else (bonsairef04_sign.j1 kj4 a0 a1 false))))) = some r := by rw [if_neg (show ¬ (false = true) by decide)] at H; exact H
                  clear H
                  have H := H1
                  clear H1
                  replace H := Option.bind_eq_some_iff.mp H
                  obtain ⟨t153, A510, H⟩ := H
                  replace H : (if t153 = true then ((bonsairef04_in.f a0 (wrap64 (a1 + 1)) 128 191).bind fun t154 => (if t154 = true then (bonsairef04_sign.j1 kj4 a0 a1 true) else ((bonsairef04_in.f a0 a1 237 237).bind fun t155 => (if t155 = true then ((bonsairef04_in.f a0 (wrap64 (a1 + 1)) 128 159).bind fun t156 => (bonsairef04_sign.j1 kj4 a0 a1 t156)) else (bonsairef04_sign.j1 kj4 a0 a1 false))))) else ((bonsairef04_in.f a0 a1 237 237).bind fun t157 => (if t157 = true then ((bonsairef04_in.f a0 (wrap64 (a1 + 1)) 128 159).bind fun t158 => (bonsairef04_sign.j1 kj4 a0 a1 t158)) else (bonsairef04_sign.j1 kj4 a0 a1 false)))) = some r := H
                  have A51 := Aside0.mk A510
                  clear A510
                  by_cases c52 : t153 = true
                  · subst c52
                    have H1 : ((bonsairef04_in.f a0 (wrap64 (a1 + 1)) 128 191).bind fun t154 => (if t154 = true then (bonsairef04_sign.j1 kj4 a0 a1 true) else ((bonsairef04_in.f a0 a1 237 237).bind fun t155 => (if t155 = true then ((bonsairef04_in.f a0 (wrap64 (a1 + 1)) 128 159).bind fun t156 => (bonsairef04_sign.j1 kj4 a0 a1 t156)) else (bonsairef04_sign.j1 kj4 a0 a1 false))))) = some r := by rw [if_pos rfl] at H; exact H
                    clear H
                    have H := H1
                    clear H1
                    replace H := Option.bind_eq_some_iff.mp H
                    obtain ⟨t154, A530, H⟩ := H
                    replace H : (if t154 = true then (bonsairef04_sign.j1 kj4 a0 a1 true) else ((bonsairef04_in.f a0 a1 237 237).bind fun t155 => (if t155 = true then ((bonsairef04_in.f a0 (wrap64 (a1 + 1)) 128 159).bind fun t156 => (bonsairef04_sign.j1 kj4 a0 a1 t156)) else (bonsairef04_sign.j1 kj4 a0 a1 false)))) = some r := H
                    have A53 := Aside0.mk A530
                    clear A530
                    by_cases c54 : t154 = true
                    · subst c54
                      have H1 : (bonsairef04_sign.j1 kj4 a0 a1 true) = some r := by rw [if_pos rfl] at H; exact H
                      clear H
                      have H := H1
                      clear H1
                      have H' := Aside0.mk H
                      clear H
                      go_wp2_with (first | ((with_reducible refine gate_callee (f := 95) rfl ?_); refine goesL_ (some 20) rfl rfl Try.func95 (by kernel_rfl) rfl #[.string a0, .int .i64 (wrap64 (a1 + 2)), .int .i64 128, .int .i64 191] rfl (by (try simp only [List.map_toArray, List.map_cons, List.map_nil]); first | done | rfl | (simp only [List.length_drop, List.length_take]; rfl)) ?_; (with_reducible refine (bonsairef04_in.calls a0 (wrap64 (a1 + 2)) 128 191 true _ A11.out).mono ?_); rintro e w' ⟨rfl, ⟨nd, rfl⟩⟩; refine ⟨_, rfl, ?_⟩) | (go_at_call 95; (with_reducible refine (bonsairef04_in.calls a0 a1 224 224 false _ A13.out).mono ?_); rintro e w' ⟨rfl, ⟨nd, rfl⟩⟩) | (go_at_call 95; (with_reducible refine (bonsairef04_in.calls a0 a1 225 236 false _ A39.out).mono ?_); rintro e w' ⟨rfl, ⟨nd, rfl⟩⟩) | (go_at_call 95; (with_reducible refine (bonsairef04_in.calls a0 a1 238 239 true _ A51.out).mono ?_); rintro e w' ⟨rfl, ⟨nd, rfl⟩⟩) | (go_at_call 95; (with_reducible refine (bonsairef04_in.calls a0 (wrap64 (a1 + 1)) 128 191 true _ A53.out).mono ?_); rintro e w' ⟨rfl, ⟨nd, rfl⟩⟩))
                      go_meet
                      case rel => exact ⟨_, (true), (by first | rfl | (simp; done) | (simp [*]; done)), H', ⟨by have := HJ4.out; first | omega | exact Nat.le_refl _⟩, by repeat (first | exact Drawn0.refl _ | apply Drawn0.step)⟩
                    · replace c54 := Bool.eq_false_iff.mpr c54
                      subst c54
                      have H1 : ((bonsairef04_in.f a0 a1 237 237).bind fun t155 => (if t155 = true then ((bonsairef04_in.f a0 (wrap64 (a1 + 1)) 128 159).bind fun t156 => (bonsairef04_sign.j1 kj4 a0 a1 t156)) else (bonsairef04_sign.j1 kj4 a0 a1 false))) = some r := by rw [if_neg (show ¬ (false = true) by decide)] at H; exact H
                      clear H
                      have H := H1
                      clear H1
                      replace H := Option.bind_eq_some_iff.mp H
                      obtain ⟨t155, A550, H⟩ := H
                      replace H : (if t155 = true then ((bonsairef04_in.f a0 (wrap64 (a1 + 1)) 128 159).bind fun t156 => (bonsairef04_sign.j1 kj4 a0 a1 t156)) else (bonsairef04_sign.j1 kj4 a0 a1 false)) = some r := H
                      have A55 := Aside0.mk A550
                      clear A550
                      by_cases c56 : t155 = true
                      · subst c56
                        have H1 : ((bonsairef04_in.f a0 (wrap64 (a1 + 1)) 128 159).bind fun t156 => (bonsairef04_sign.j1 kj4 a0 a1 t156)) = some r := by rw [if_pos rfl] at H; exact H
                        clear H
                        have H := H1
                        clear H1
                        replace H := Option.bind_eq_some_iff.mp H
                        obtain ⟨t156, A570, H⟩ := H
                        replace H : (bonsairef04_sign.j1 kj4 a0 a1 t156) = some r := H
                        have A57 := Aside0.mk A570
                        clear A570
                        have H' := Aside0.mk H
                        clear H
                        go_wp2_with (first | ((with_reducible refine gate_callee (f := 95) rfl ?_); refine goesL_ (some 20) rfl rfl Try.func95 (by kernel_rfl) rfl #[.string a0, .int .i64 (wrap64 (a1 + 2)), .int .i64 128, .int .i64 191] rfl (by (try simp only [List.map_toArray, List.map_cons, List.map_nil]); first | done | rfl | (simp only [List.length_drop, List.length_take]; rfl)) ?_; (with_reducible refine (bonsairef04_in.calls a0 (wrap64 (a1 + 2)) 128 191 true _ A11.out).mono ?_); rintro e w' ⟨rfl, ⟨nd, rfl⟩⟩; refine ⟨_, rfl, ?_⟩) | (go_at_call 95; (with_reducible refine (bonsairef04_in.calls a0 a1 224 224 false _ A13.out).mono ?_); rintro e w' ⟨rfl, ⟨nd, rfl⟩⟩) | (go_at_call 95; (with_reducible refine (bonsairef04_in.calls a0 a1 225 236 false _ A39.out).mono ?_); rintro e w' ⟨rfl, ⟨nd, rfl⟩⟩) | (go_at_call 95; (with_reducible refine (bonsairef04_in.calls a0 a1 238 239 true _ A51.out).mono ?_); rintro e w' ⟨rfl, ⟨nd, rfl⟩⟩) | (go_at_call 95; (with_reducible refine (bonsairef04_in.calls a0 (wrap64 (a1 + 1)) 128 191 false _ A53.out).mono ?_); rintro e w' ⟨rfl, ⟨nd, rfl⟩⟩) | (go_at_call 95; (with_reducible refine (bonsairef04_in.calls a0 a1 237 237 true _ A55.out).mono ?_); rintro e w' ⟨rfl, ⟨nd, rfl⟩⟩) | (go_at_call 95; (with_reducible refine (bonsairef04_in.calls a0 (wrap64 (a1 + 1)) 128 159 t156 _ A57.out).mono ?_); rintro e w' ⟨rfl, ⟨nd, rfl⟩⟩))
                        go_meet
                        case rel => exact ⟨_, (t156), (by first | rfl | (simp; done) | (simp [*]; done)), H', ⟨by have := HJ4.out; first | omega | exact Nat.le_refl _⟩, by repeat (first | exact Drawn0.refl _ | apply Drawn0.step)⟩
                      · replace c56 := Bool.eq_false_iff.mpr c56
                        subst c56
                        have H1 : (bonsairef04_sign.j1 kj4 a0 a1 false) = some r := by rw [if_neg (show ¬ (false = true) by decide)] at H; exact H
                        clear H
                        have H := H1
                        clear H1
                        have H' := Aside0.mk H
                        clear H
                        go_wp2_with (first | ((with_reducible refine gate_callee (f := 95) rfl ?_); refine goesL_ (some 20) rfl rfl Try.func95 (by kernel_rfl) rfl #[.string a0, .int .i64 (wrap64 (a1 + 2)), .int .i64 128, .int .i64 191] rfl (by (try simp only [List.map_toArray, List.map_cons, List.map_nil]); first | done | rfl | (simp only [List.length_drop, List.length_take]; rfl)) ?_; (with_reducible refine (bonsairef04_in.calls a0 (wrap64 (a1 + 2)) 128 191 true _ A11.out).mono ?_); rintro e w' ⟨rfl, ⟨nd, rfl⟩⟩; refine ⟨_, rfl, ?_⟩) | (go_at_call 95; (with_reducible refine (bonsairef04_in.calls a0 a1 224 224 false _ A13.out).mono ?_); rintro e w' ⟨rfl, ⟨nd, rfl⟩⟩) | (go_at_call 95; (with_reducible refine (bonsairef04_in.calls a0 a1 225 236 false _ A39.out).mono ?_); rintro e w' ⟨rfl, ⟨nd, rfl⟩⟩) | (go_at_call 95; (with_reducible refine (bonsairef04_in.calls a0 a1 238 239 true _ A51.out).mono ?_); rintro e w' ⟨rfl, ⟨nd, rfl⟩⟩) | (go_at_call 95; (with_reducible refine (bonsairef04_in.calls a0 (wrap64 (a1 + 1)) 128 191 false _ A53.out).mono ?_); rintro e w' ⟨rfl, ⟨nd, rfl⟩⟩) | (go_at_call 95; (with_reducible refine (bonsairef04_in.calls a0 a1 237 237 false _ A55.out).mono ?_); rintro e w' ⟨rfl, ⟨nd, rfl⟩⟩))
                        go_meet
                        case rel => exact ⟨_, (false), (by first | rfl | (simp; done) | (simp [*]; done)), H', ⟨by have := HJ4.out; first | omega | exact Nat.le_refl _⟩, by repeat (first | exact Drawn0.refl _ | apply Drawn0.step)⟩
                  · replace c52 := Bool.eq_false_iff.mpr c52
                    subst c52
                    have H1 : ((bonsairef04_in.f a0 a1 237 237).bind fun t157 => (if t157 = true then ((bonsairef04_in.f a0 (wrap64 (a1 + 1)) 128 159).bind fun t158 => (bonsairef04_sign.j1 kj4 a0 a1 t158)) else (bonsairef04_sign.j1 kj4 a0 a1 false))) = some r := by rw [if_neg (show ¬ (false = true) by decide)] at H; exact H
                    clear H
                    have H := H1
                    clear H1
                    replace H := Option.bind_eq_some_iff.mp H
                    obtain ⟨t157, A580, H⟩ := H
                    replace H : (if t157 = true then ((bonsairef04_in.f a0 (wrap64 (a1 + 1)) 128 159).bind fun t158 => (bonsairef04_sign.j1 kj4 a0 a1 t158)) else (bonsairef04_sign.j1 kj4 a0 a1 false)) = some r := H
                    have A58 := Aside0.mk A580
                    clear A580
                    by_cases c59 : t157 = true
                    · subst c59
                      have H1 : ((bonsairef04_in.f a0 (wrap64 (a1 + 1)) 128 159).bind fun t158 => (bonsairef04_sign.j1 kj4 a0 a1 t158)) = some r := by rw [if_pos rfl] at H; exact H
                      clear H
                      have H := H1
                      clear H1
                      replace H := Option.bind_eq_some_iff.mp H
                      obtain ⟨t158, A600, H⟩ := H
                      replace H : (bonsairef04_sign.j1 kj4 a0 a1 t158) = some r := H
                      have A60 := Aside0.mk A600
                      clear A600
                      have H' := Aside0.mk H
                      clear H
                      go_wp2_with (first | ((with_reducible refine gate_callee (f := 95) rfl ?_); refine goesL_ (some 20) rfl rfl Try.func95 (by kernel_rfl) rfl #[.string a0, .int .i64 (wrap64 (a1 + 2)), .int .i64 128, .int .i64 191] rfl (by (try simp only [List.map_toArray, List.map_cons, List.map_nil]); first | done | rfl | (simp only [List.length_drop, List.length_take]; rfl)) ?_; (with_reducible refine (bonsairef04_in.calls a0 (wrap64 (a1 + 2)) 128 191 true _ A11.out).mono ?_); rintro e w' ⟨rfl, ⟨nd, rfl⟩⟩; refine ⟨_, rfl, ?_⟩) | (go_at_call 95; (with_reducible refine (bonsairef04_in.calls a0 a1 224 224 false _ A13.out).mono ?_); rintro e w' ⟨rfl, ⟨nd, rfl⟩⟩) | (go_at_call 95; (with_reducible refine (bonsairef04_in.calls a0 a1 225 236 false _ A39.out).mono ?_); rintro e w' ⟨rfl, ⟨nd, rfl⟩⟩) | (go_at_call 95; (with_reducible refine (bonsairef04_in.calls a0 a1 238 239 false _ A51.out).mono ?_); rintro e w' ⟨rfl, ⟨nd, rfl⟩⟩) | (go_at_call 95; (with_reducible refine (bonsairef04_in.calls a0 a1 237 237 true _ A58.out).mono ?_); rintro e w' ⟨rfl, ⟨nd, rfl⟩⟩) | (go_at_call 95; (with_reducible refine (bonsairef04_in.calls a0 (wrap64 (a1 + 1)) 128 159 t158 _ A60.out).mono ?_); rintro e w' ⟨rfl, ⟨nd, rfl⟩⟩))
                      go_meet
                      case rel => exact ⟨_, (t158), (by first | rfl | (simp; done) | (simp [*]; done)), H', ⟨by have := HJ4.out; first | omega | exact Nat.le_refl _⟩, by repeat (first | exact Drawn0.refl _ | apply Drawn0.step)⟩
                    · replace c59 := Bool.eq_false_iff.mpr c59
                      subst c59
                      have H1 : (bonsairef04_sign.j1 kj4 a0 a1 false) = some r := by rw [if_neg (show ¬ (false = true) by decide)] at H; exact H
                      clear H
                      have H := H1
                      clear H1
                      have H' := Aside0.mk H
                      clear H
                      go_wp2_with (first | ((with_reducible refine gate_callee (f := 95) rfl ?_); refine goesL_ (some 20) rfl rfl Try.func95 (by kernel_rfl) rfl #[.string a0, .int .i64 (wrap64 (a1 + 2)), .int .i64 128, .int .i64 191] rfl (by (try simp only [List.map_toArray, List.map_cons, List.map_nil]); first | done | rfl | (simp only [List.length_drop, List.length_take]; rfl)) ?_; (with_reducible refine (bonsairef04_in.calls a0 (wrap64 (a1 + 2)) 128 191 true _ A11.out).mono ?_); rintro e w' ⟨rfl, ⟨nd, rfl⟩⟩; refine ⟨_, rfl, ?_⟩) | (go_at_call 95; (with_reducible refine (bonsairef04_in.calls a0 a1 224 224 false _ A13.out).mono ?_); rintro e w' ⟨rfl, ⟨nd, rfl⟩⟩) | (go_at_call 95; (with_reducible refine (bonsairef04_in.calls a0 a1 225 236 false _ A39.out).mono ?_); rintro e w' ⟨rfl, ⟨nd, rfl⟩⟩) | (go_at_call 95; (with_reducible refine (bonsairef04_in.calls a0 a1 238 239 false _ A51.out).mono ?_); rintro e w' ⟨rfl, ⟨nd, rfl⟩⟩) | (go_at_call 95; (with_reducible refine (bonsairef04_in.calls a0 a1 237 237 false _ A58.out).mono ?_); rintro e w' ⟨rfl, ⟨nd, rfl⟩⟩))
                      go_meet
                      case rel => exact ⟨_, (false), (by first | rfl | (simp; done) | (simp [*]; done)), H', ⟨by have := HJ4.out; first | omega | exact Nat.le_refl _⟩, by repeat (first | exact Drawn0.refl _ | apply Drawn0.step)⟩
            · replace c12 := Bool.eq_false_iff.mpr c12
              subst c12
              have H1 : (bonsairef04_sign.j1 kj4 a0 a1 false) = some r := by rw [if_neg (show ¬ (false = true) by decide)] at H; exact H
              clear H
              have H := H1
              clear H1
              have H' := Aside0.mk H
              clear H
              go_wp2_with (first | ((with_reducible refine gate_callee (f := 95) rfl ?_); refine goesL_ (some 20) rfl rfl Try.func95 (by kernel_rfl) rfl #[.string a0, .int .i64 (wrap64 (a1 + 2)), .int .i64 128, .int .i64 191] rfl (by (try simp only [List.map_toArray, List.map_cons, List.map_nil]); first | done | rfl | (simp only [List.length_drop, List.length_take]; rfl)) ?_; (with_reducible refine (bonsairef04_in.calls a0 (wrap64 (a1 + 2)) 128 191 false _ A11.out).mono ?_); rintro e w' ⟨rfl, ⟨nd, rfl⟩⟩; refine ⟨_, rfl, ?_⟩))
              go_meet
              case rel => exact ⟨_, (false), (by first | rfl | (simp; done) | (simp [*]; done)), H', ⟨by have := HJ4.out; first | omega | exact Nat.le_refl _⟩, by repeat (first | exact Drawn0.refl _ | apply Drawn0.step)⟩
          case rest =>
            clear HC10
            try clear c1
            try clear c2
            try clear p2
            try clear c3
            try clear c4
            try clear c5
            try clear p6
            try clear c7
            try clear c9
            try clear c12
            try clear c14
            try clear c16
            try clear c18
            try clear c20
            try clear c22
            try clear c24
            try clear c27
            try clear c30
            try clear c32
            try clear c34
            try clear c37
            try clear c40
            try clear c42
            try clear c44
            try clear c46
            try clear c49
            try clear c52
            try clear c54
            try clear c56
            try clear c59
            try clear p2
            try clear p6
            obtain ⟨kq, x64_9, rfl, HA, HJ9, ⟨mc9, rfl⟩⟩ := hcut
            cases kq with
            | zero => exact absurd HA.out (by simp [bonsairef04_sign.j1])
            | succ kj9 =>
              have H := HA.out
              clear HA
              simp only [bonsairef04_sign.j1] at H
              by_cases c61 : x64_9 = true
              · subst c61
                have H1 : (some 3) = some r := by rw [if_pos rfl] at H; exact H
                clear H
                have H := H1
                clear H1
                obtain rfl := Option.some.inj H
                go_wp2
                go_ret
                exact ⟨by first | rfl | (simp; done) | (simp [*]; done), by repeat (first | exact Drawn0.refl _ | apply Drawn0.step)⟩
              · replace c61 := Bool.eq_false_iff.mpr c61
                subst c61
                have H1 : ((bonsairef04_in.f a0 (wrap64 (a1 + 2)) 128 191).bind fun t159 => (if t159 = true then ((bonsairef04_in.f a0 (wrap64 (a1 + 3)) 128 191).bind fun t160 => (if t160 = true then ((bonsairef04_in.f a0 a1 240 240).bind fun t161 => (if t161 = true then ((bonsairef04_in.f a0 (wrap64 (a1 + 1)) 144 191).bind fun t162 => (if t162 = true then (some 4) else ((bonsairef04_in.f a0 a1 241 243).bind fun t163 => (if t163 = true then ((bonsairef04_in.f a0 (wrap64 (a1 + 1)) 128 191).bind fun t164 => (if t164 = true then (some 4) else ((bonsairef04_in.f a0 a1 244 244).bind fun t165 => (if t165 = true then ((bonsairef04_in.f a0 (wrap64 (a1 + 1)) 128 143).bind fun t166 => (if t166 = true then (some 4) else (some 0))) else (some 0))))) else ((bonsairef04_in.f a0 a1 244 244).bind fun t167 => (if t167 = true then ((bonsairef04_in.f a0 (wrap64 (a1 + 1)) 128 143).bind fun t168 => (if t168 = true then (some 4) else (some 0))) else (some 0))))))) else ((bonsairef04_in.f a0 a1 241 243).bind fun t169 => (if t169 = true then ((bonsairef04_in.f a0 (wrap64 (a1 + 1)) 128 191).bind fun t170 => (if t170 = true then (some 4) else ((bonsairef04_in.f a0 a1 244 244).bind fun t171 => (if t171 = true then ((bonsairef04_in.f a0 (wrap64 (a1 + 1)) 128 143).bind fun t172 => (if t172 = true then (some 4) else (some 0))) else (some 0))))) else ((bonsairef04_in.f a0 a1 244 244).bind fun t173 => (if t173 = true then ((bonsairef04_in.f a0 (wrap64 (a1 + 1)) 128 143).bind fun t174 => (if t174 = true then (some 4) else (some 0))) else (some 0))))))) else (some 0))) else (some 0))) = some r := by rw [if_neg (show ¬ (false = true) by decide)] at H; exact H
                clear H
                have H := H1
                clear H1
                replace H := Option.bind_eq_some_iff.mp H
                obtain ⟨t159, A620, H⟩ := H
                replace H : (if t159 = true then ((bonsairef04_in.f a0 (wrap64 (a1 + 3)) 128 191).bind fun t160 => (if t160 = true then ((bonsairef04_in.f a0 a1 240 240).bind fun t161 => (if t161 = true then ((bonsairef04_in.f a0 (wrap64 (a1 + 1)) 144 191).bind fun t162 => (if t162 = true then (some 4) else ((bonsairef04_in.f a0 a1 241 243).bind fun t163 => (if t163 = true then ((bonsairef04_in.f a0 (wrap64 (a1 + 1)) 128 191).bind fun t164 => (if t164 = true then (some 4) else ((bonsairef04_in.f a0 a1 244 244).bind fun t165 => (if t165 = true then ((bonsairef04_in.f a0 (wrap64 (a1 + 1)) 128 143).bind fun t166 => (if t166 = true then (some 4) else (some 0))) else (some 0))))) else ((bonsairef04_in.f a0 a1 244 244).bind fun t167 => (if t167 = true then ((bonsairef04_in.f a0 (wrap64 (a1 + 1)) 128 143).bind fun t168 => (if t168 = true then (some 4) else (some 0))) else (some 0))))))) else ((bonsairef04_in.f a0 a1 241 243).bind fun t169 => (if t169 = true then ((bonsairef04_in.f a0 (wrap64 (a1 + 1)) 128 191).bind fun t170 => (if t170 = true then (some 4) else ((bonsairef04_in.f a0 a1 244 244).bind fun t171 => (if t171 = true then ((bonsairef04_in.f a0 (wrap64 (a1 + 1)) 128 143).bind fun t172 => (if t172 = true then (some 4) else (some 0))) else (some 0))))) else ((bonsairef04_in.f a0 a1 244 244).bind fun t173 => (if t173 = true then ((bonsairef04_in.f a0 (wrap64 (a1 + 1)) 128 143).bind fun t174 => (if t174 = true then (some 4) else (some 0))) else (some 0))))))) else (some 0))) else (some 0)) = some r := H
                have A62 := Aside0.mk A620
                clear A620
                by_cases c63 : t159 = true
                · subst c63
                  have H1 : ((bonsairef04_in.f a0 (wrap64 (a1 + 3)) 128 191).bind fun t160 => (if t160 = true then ((bonsairef04_in.f a0 a1 240 240).bind fun t161 => (if t161 = true then ((bonsairef04_in.f a0 (wrap64 (a1 + 1)) 144 191).bind fun t162 => (if t162 = true then (some 4) else ((bonsairef04_in.f a0 a1 241 243).bind fun t163 => (if t163 = true then ((bonsairef04_in.f a0 (wrap64 (a1 + 1)) 128 191).bind fun t164 => (if t164 = true then (some 4) else ((bonsairef04_in.f a0 a1 244 244).bind fun t165 => (if t165 = true then ((bonsairef04_in.f a0 (wrap64 (a1 + 1)) 128 143).bind fun t166 => (if t166 = true then (some 4) else (some 0))) else (some 0))))) else ((bonsairef04_in.f a0 a1 244 244).bind fun t167 => (if t167 = true then ((bonsairef04_in.f a0 (wrap64 (a1 + 1)) 128 143).bind fun t168 => (if t168 = true then (some 4) else (some 0))) else (some 0))))))) else ((bonsairef04_in.f a0 a1 241 243).bind fun t169 => (if t169 = true then ((bonsairef04_in.f a0 (wrap64 (a1 + 1)) 128 191).bind fun t170 => (if t170 = true then (some 4) else ((bonsairef04_in.f a0 a1 244 244).bind fun t171 => (if t171 = true then ((bonsairef04_in.f a0 (wrap64 (a1 + 1)) 128 143).bind fun t172 => (if t172 = true then (some 4) else (some 0))) else (some 0))))) else ((bonsairef04_in.f a0 a1 244 244).bind fun t173 => (if t173 = true then ((bonsairef04_in.f a0 (wrap64 (a1 + 1)) 128 143).bind fun t174 => (if t174 = true then (some 4) else (some 0))) else (some 0))))))) else (some 0))) = some r := by rw [if_pos rfl] at H; exact H
                  clear H
                  have H := H1
                  clear H1
                  replace H := Option.bind_eq_some_iff.mp H
                  obtain ⟨t160, A640, H⟩ := H
                  replace H : (if t160 = true then ((bonsairef04_in.f a0 a1 240 240).bind fun t161 => (if t161 = true then ((bonsairef04_in.f a0 (wrap64 (a1 + 1)) 144 191).bind fun t162 => (if t162 = true then (some 4) else ((bonsairef04_in.f a0 a1 241 243).bind fun t163 => (if t163 = true then ((bonsairef04_in.f a0 (wrap64 (a1 + 1)) 128 191).bind fun t164 => (if t164 = true then (some 4) else ((bonsairef04_in.f a0 a1 244 244).bind fun t165 => (if t165 = true then ((bonsairef04_in.f a0 (wrap64 (a1 + 1)) 128 143).bind fun t166 => (if t166 = true then (some 4) else (some 0))) else (some 0))))) else ((bonsairef04_in.f a0 a1 244 244).bind fun t167 => (if t167 = true then ((bonsairef04_in.f a0 (wrap64 (a1 + 1)) 128 143).bind fun t168 => (if t168 = true then (some 4) else (some 0))) else (some 0))))))) else ((bonsairef04_in.f a0 a1 241 243).bind fun t169 => (if t169 = true then ((bonsairef04_in.f a0 (wrap64 (a1 + 1)) 128 191).bind fun t170 => (if t170 = true then (some 4) else ((bonsairef04_in.f a0 a1 244 244).bind fun t171 => (if t171 = true then ((bonsairef04_in.f a0 (wrap64 (a1 + 1)) 128 143).bind fun t172 => (if t172 = true then (some 4) else (some 0))) else (some 0))))) else ((bonsairef04_in.f a0 a1 244 244).bind fun t173 => (if t173 = true then ((bonsairef04_in.f a0 (wrap64 (a1 + 1)) 128 143).bind fun t174 => (if t174 = true then (some 4) else (some 0))) else (some 0))))))) else (some 0)) = some r := H
                  have A64 := Aside0.mk A640
                  clear A640
                  by_cases c65 : t160 = true
                  · subst c65
                    have H1 : ((bonsairef04_in.f a0 a1 240 240).bind fun t161 => (if t161 = true then ((bonsairef04_in.f a0 (wrap64 (a1 + 1)) 144 191).bind fun t162 => (if t162 = true then (some 4) else ((bonsairef04_in.f a0 a1 241 243).bind fun t163 => (if t163 = true then ((bonsairef04_in.f a0 (wrap64 (a1 + 1)) 128 191).bind fun t164 => (if t164 = true then (some 4) else ((bonsairef04_in.f a0 a1 244 244).bind fun t165 => (if t165 = true then ((bonsairef04_in.f a0 (wrap64 (a1 + 1)) 128 143).bind fun t166 => (if t166 = true then (some 4) else (some 0))) else (some 0))))) else ((bonsairef04_in.f a0 a1 244 244).bind fun t167 => (if t167 = true then ((bonsairef04_in.f a0 (wrap64 (a1 + 1)) 128 143).bind fun t168 => (if t168 = true then (some 4) else (some 0))) else (some 0))))))) else ((bonsairef04_in.f a0 a1 241 243).bind fun t169 => (if t169 = true then ((bonsairef04_in.f a0 (wrap64 (a1 + 1)) 128 191).bind fun t170 => (if t170 = true then (some 4) else ((bonsairef04_in.f a0 a1 244 244).bind fun t171 => (if t171 = true then ((bonsairef04_in.f a0 (wrap64 (a1 + 1)) 128 143).bind fun t172 => (if t172 = true then (some 4) else (some 0))) else (some 0))))) else ((bonsairef04_in.f a0 a1 244 244).bind fun t173 => (if t173 = true then ((bonsairef04_in.f a0 (wrap64 (a1 + 1)) 128 143).bind fun t174 => (if t174 = true then (some 4) else (some 0))) else (some 0))))))) = some r := by rw [if_pos rfl] at H; exact H
                    clear H
                    have H := H1
                    clear H1
                    replace H := Option.bind_eq_some_iff.mp H
                    obtain ⟨t161, A660, H⟩ := H
                    replace H : (if t161 = true then ((bonsairef04_in.f a0 (wrap64 (a1 + 1)) 144 191).bind fun t162 => (if t162 = true then (some 4) else ((bonsairef04_in.f a0 a1 241 243).bind fun t163 => (if t163 = true then ((bonsairef04_in.f a0 (wrap64 (a1 + 1)) 128 191).bind fun t164 => (if t164 = true then (some 4) else ((bonsairef04_in.f a0 a1 244 244).bind fun t165 => (if t165 = true then ((bonsairef04_in.f a0 (wrap64 (a1 + 1)) 128 143).bind fun t166 => (if t166 = true then (some 4) else (some 0))) else (some 0))))) else ((bonsairef04_in.f a0 a1 244 244).bind fun t167 => (if t167 = true then ((bonsairef04_in.f a0 (wrap64 (a1 + 1)) 128 143).bind fun t168 => (if t168 = true then (some 4) else (some 0))) else (some 0))))))) else ((bonsairef04_in.f a0 a1 241 243).bind fun t169 => (if t169 = true then ((bonsairef04_in.f a0 (wrap64 (a1 + 1)) 128 191).bind fun t170 => (if t170 = true then (some 4) else ((bonsairef04_in.f a0 a1 244 244).bind fun t171 => (if t171 = true then ((bonsairef04_in.f a0 (wrap64 (a1 + 1)) 128 143).bind fun t172 => (if t172 = true then (some 4) else (some 0))) else (some 0))))) else ((bonsairef04_in.f a0 a1 244 244).bind fun t173 => (if t173 = true then ((bonsairef04_in.f a0 (wrap64 (a1 + 1)) 128 143).bind fun t174 => (if t174 = true then (some 4) else (some 0))) else (some 0)))))) = some r := H
                    have A66 := Aside0.mk A660
                    clear A660
                    by_cases c67 : t161 = true
                    · subst c67
                      have H1 : ((bonsairef04_in.f a0 (wrap64 (a1 + 1)) 144 191).bind fun t162 => (if t162 = true then (some 4) else ((bonsairef04_in.f a0 a1 241 243).bind fun t163 => (if t163 = true then ((bonsairef04_in.f a0 (wrap64 (a1 + 1)) 128 191).bind fun t164 => (if t164 = true then (some 4) else ((bonsairef04_in.f a0 a1 244 244).bind fun t165 => (if t165 = true then ((bonsairef04_in.f a0 (wrap64 (a1 + 1)) 128 143).bind fun t166 => (if t166 = true then (some 4) else (some 0))) else (some 0))))) else ((bonsairef04_in.f a0 a1 244 244).bind fun t167 => (if t167 = true then ((bonsairef04_in.f a0 (wrap64 (a1 + 1)) 128 143).bind fun t168 => (if t168 = true then (some 4) else (some 0))) else (some 0))))))) = some r := by rw [if_pos rfl] at H; exact H
                      clear H
                      have H := H1
                      clear H1
                      replace H := Option.bind_eq_some_iff.mp H
                      obtain ⟨t162, A680, H⟩ := H
                      replace H : (if t162 = true then (some 4) else ((bonsairef04_in.f a0 a1 241 243).bind fun t163 => (if t163 = true then ((bonsairef04_in.f a0 (wrap64 (a1 + 1)) 128 191).bind fun t164 => (if t164 = true then (some 4) else ((bonsairef04_in.f a0 a1 244 244).bind fun t165 => (if t165 = true then ((bonsairef04_in.f a0 (wrap64 (a1 + 1)) 128 143).bind fun t166 => (if t166 = true then (some 4) else (some 0))) else (some 0))))) else ((bonsairef04_in.f a0 a1 244 244).bind fun t167 => (if t167 = true then ((bonsairef04_in.f a0 (wrap64 (a1 + 1)) 128 143).bind fun t168 => (if t168 = true then (some 4) else (some 0))) else (some 0)))))) = some r := H
                      have A68 := Aside0.mk A680
                      clear A680
                      by_cases c69 : t162 = true
                      · subst c69
                        have H1 : (some 4) = some r := by rw [if_pos rfl] at H; exact H
                        clear H
                        have H := H1
                        clear H1
                        obtain rfl := Option.some.inj H
                        go_wp2_with (first | ((with_reducible refine gate_callee (f := 95) rfl ?_); refine goesL_ (some 68) rfl rfl Try.func95 (by kernel_rfl) rfl #[.string a0, .int .i64 (wrap64 (a1 + 2)), .int .i64 128, .int .i64 191] rfl (by (try simp only [List.map_toArray, List.map_cons, List.map_nil]); first | done | rfl | (simp only [List.length_drop, List.length_take]; rfl)) ?_; (with_reducible refine (bonsairef04_in.calls a0 (wrap64 (a1 + 2)) 128 191 true _ A62.out).mono ?_); rintro e w' ⟨rfl, ⟨nd, rfl⟩⟩; refine ⟨_, rfl, ?_⟩) | (go_at_call 95; (with_reducible refine (bonsairef04_in.calls a0 (wrap64 (a1 + 3)) 128 191 true _ A64.out).mono ?_); rintro e w' ⟨rfl, ⟨nd, rfl⟩⟩) | (go_at_call 95; (with_reducible refine (bonsairef04_in.calls a0 a1 240 240 true _ A66.out).mono ?_); rintro e w' ⟨rfl, ⟨nd, rfl⟩⟩) | (go_at_call 95; (with_reducible refine (bonsairef04_in.calls a0 (wrap64 (a1 + 1)) 144 191 true _ A68.out).mono ?_); rintro e w' ⟨rfl, ⟨nd, rfl⟩⟩))
                        go_ret
                        exact ⟨by first | rfl | (simp; done) | (simp [*]; done), by repeat (first | exact Drawn0.refl _ | apply Drawn0.step)⟩
                      · replace c69 := Bool.eq_false_iff.mpr c69
                        subst c69
                        have H1 : ((bonsairef04_in.f a0 a1 241 243).bind fun t163 => (if t163 = true then ((bonsairef04_in.f a0 (wrap64 (a1 + 1)) 128 191).bind fun t164 => (if t164 = true then (some 4) else ((bonsairef04_in.f a0 a1 244 244).bind fun t165 => (if t165 = true then ((bonsairef04_in.f a0 (wrap64 (a1 + 1)) 128 143).bind fun t166 => (if t166 = true then (some 4) else (some 0))) else (some 0))))) else ((bonsairef04_in.f a0 a1 244 244).bind fun t167 => (if t167 = true then ((bonsairef04_in.f a0 (wrap64 (a1 + 1)) 128 143).bind fun t168 => (if t168 = true then (some 4) else (some 0))) else (some 0))))) = some r := by rw [if_neg (show ¬ (false = true) by decide)] at H; exact H
                        clear H
                        have H := H1
                        clear H1
                        replace H := Option.bind_eq_some_iff.mp H
                        obtain ⟨t163, A700, H⟩ := H
                        replace H : (if t163 = true then ((bonsairef04_in.f a0 (wrap64 (a1 + 1)) 128 191).bind fun t164 => (if t164 = true then (some 4) else ((bonsairef04_in.f a0 a1 244 244).bind fun t165 => (if t165 = true then ((bonsairef04_in.f a0 (wrap64 (a1 + 1)) 128 143).bind fun t166 => (if t166 = true then (some 4) else (some 0))) else (some 0))))) else ((bonsairef04_in.f a0 a1 244 244).bind fun t167 => (if t167 = true then ((bonsairef04_in.f a0 (wrap64 (a1 + 1)) 128 143).bind fun t168 => (if t168 = true then (some 4) else (some 0))) else (some 0)))) = some r := H
                        have A70 := Aside0.mk A700
                        clear A700
                        by_cases c71 : t163 = true
                        · subst c71
                          have H1 : ((bonsairef04_in.f a0 (wrap64 (a1 + 1)) 128 191).bind fun t164 => (if t164 = true then (some 4) else ((bonsairef04_in.f a0 a1 244 244).bind fun t165 => (if t165 = true then ((bonsairef04_in.f a0 (wrap64 (a1 + 1)) 128 143).bind fun t166 => (if t166 = true then (some 4) else (some 0))) else (some 0))))) = some r := by rw [if_pos rfl] at H; exact H
                          clear H
                          have H := H1
                          clear H1
                          replace H := Option.bind_eq_some_iff.mp H
                          obtain ⟨t164, A720, H⟩ := H
                          replace H : (if t164 = true then (some 4) else ((bonsairef04_in.f a0 a1 244 244).bind fun t165 => (if t165 = true then ((bonsairef04_in.f a0 (wrap64 (a1 + 1)) 128 143).bind fun t166 => (if t166 = true then (some 4) else (some 0))) else (some 0)))) = some r := H
                          have A72 := Aside0.mk A720
                          clear A720
                          by_cases c73 : t164 = true
                          · subst c73
                            have H1 : (some 4) = some r := by rw [if_pos rfl] at H; exact H
                            clear H
                            have H := H1
                            clear H1
                            obtain rfl := Option.some.inj H
                            go_wp2_with (first | ((with_reducible refine gate_callee (f := 95) rfl ?_); refine goesL_ (some 68) rfl rfl Try.func95 (by kernel_rfl) rfl #[.string a0, .int .i64 (wrap64 (a1 + 2)), .int .i64 128, .int .i64 191] rfl (by (try simp only [List.map_toArray, List.map_cons, List.map_nil]); first | done | rfl | (simp only [List.length_drop, List.length_take]; rfl)) ?_; (with_reducible refine (bonsairef04_in.calls a0 (wrap64 (a1 + 2)) 128 191 true _ A62.out).mono ?_); rintro e w' ⟨rfl, ⟨nd, rfl⟩⟩; refine ⟨_, rfl, ?_⟩) | (go_at_call 95; (with_reducible refine (bonsairef04_in.calls a0 (wrap64 (a1 + 3)) 128 191 true _ A64.out).mono ?_); rintro e w' ⟨rfl, ⟨nd, rfl⟩⟩) | (go_at_call 95; (with_reducible refine (bonsairef04_in.calls a0 a1 240 240 true _ A66.out).mono ?_); rintro e w' ⟨rfl, ⟨nd, rfl⟩⟩) | (go_at_call 95; (with_reducible refine (bonsairef04_in.calls a0 (wrap64 (a1 + 1)) 144 191 false _ A68.out).mono ?_); rintro e w' ⟨rfl, ⟨nd, rfl⟩⟩) | (go_at_call 95; (with_reducible refine (bonsairef04_in.calls a0 a1 241 243 true _ A70.out).mono ?_); rintro e w' ⟨rfl, ⟨nd, rfl⟩⟩) | (go_at_call 95; (with_reducible refine (bonsairef04_in.calls a0 (wrap64 (a1 + 1)) 128 191 true _ A72.out).mono ?_); rintro e w' ⟨rfl, ⟨nd, rfl⟩⟩))
                            go_ret
                            exact ⟨by first | rfl | (simp; done) | (simp [*]; done), by repeat (first | exact Drawn0.refl _ | apply Drawn0.step)⟩
                          · replace c73 := Bool.eq_false_iff.mpr c73
                            subst c73
                            have H1 : ((bonsairef04_in.f a0 a1 244 244).bind fun t165 => (if t165 = true then ((bonsairef04_in.f a0 (wrap64 (a1 + 1)) 128 143).bind fun t166 => (if t166 = true then (some 4) else (some 0))) else (some 0))) = some r := by rw [if_neg (show ¬ (false = true) by decide)] at H; exact H
                            clear H
                            have H := H1
                            clear H1
                            replace H := Option.bind_eq_some_iff.mp H
                            obtain ⟨t165, A740, H⟩ := H
                            replace H : (if t165 = true then ((bonsairef04_in.f a0 (wrap64 (a1 + 1)) 128 143).bind fun t166 => (if t166 = true then (some 4) else (some 0))) else (some 0)) = some r := H
                            have A74 := Aside0.mk A740
                            clear A740
                            by_cases c75 : t165 = true
                            · subst c75
                              have H1 : ((bonsairef04_in.f a0 (wrap64 (a1 + 1)) 128 143).bind fun t166 => (if t166 = true then (some 4) else (some 0))) = some r := by rw [if_pos rfl] at H; exact H
                              clear H
                              have H := H1
                              clear H1
                              replace H := Option.bind_eq_some_iff.mp H
                              obtain ⟨t166, A760, H⟩ := H
                              replace H : (if t166 = true then (some 4) else (some 0)) = some r := H
                              have A76 := Aside0.mk A760
                              clear A760
                              by_cases c77 : t166 = true
                              · subst c77
                                have H1 : (some 4) = some r := by rw [if_pos rfl] at H; exact H
                                clear H
                                have H := H1
                                clear H1
                                obtain rfl := Option.some.inj H
                                go_wp2_with (first | ((with_reducible refine gate_callee (f := 95) rfl ?_); refine goesL_ (some 68) rfl rfl Try.func95 (by kernel_rfl) rfl #[.string a0, .int .i64 (wrap64 (a1 + 2)), .int .i64 128, .int .i64 191] rfl (by (try simp only [List.map_toArray, List.map_cons, List.map_nil]); first | done | rfl | (simp only [List.length_drop, List.length_take]; rfl)) ?_; (with_reducible refine (bonsairef04_in.calls a0 (wrap64 (a1 + 2)) 128 191 true _ A62.out).mono ?_); rintro e w' ⟨rfl, ⟨nd, rfl⟩⟩; refine ⟨_, rfl, ?_⟩) | (go_at_call 95; (with_reducible refine (bonsairef04_in.calls a0 (wrap64 (a1 + 3)) 128 191 true _ A64.out).mono ?_); rintro e w' ⟨rfl, ⟨nd, rfl⟩⟩) | (go_at_call 95; (with_reducible refine (bonsairef04_in.calls a0 a1 240 240 true _ A66.out).mono ?_); rintro e w' ⟨rfl, ⟨nd, rfl⟩⟩) | (go_at_call 95; (with_reducible refine (bonsairef04_in.calls a0 (wrap64 (a1 + 1)) 144 191 false _ A68.out).mono ?_); rintro e w' ⟨rfl, ⟨nd, rfl⟩⟩) | (go_at_call 95; (with_reducible refine (bonsairef04_in.calls a0 a1 241 243 true _ A70.out).mono ?_); rintro e w' ⟨rfl, ⟨nd, rfl⟩⟩) | (go_at_call 95; (with_reducible refine (bonsairef04_in.calls a0 (wrap64 (a1 + 1)) 128 191 false _ A72.out).mono ?_); rintro e w' ⟨rfl, ⟨nd, rfl⟩⟩) | (go_at_call 95; (with_reducible refine (bonsairef04_in.calls a0 a1 244 244 true _ A74.out).mono ?_); rintro e w' ⟨rfl, ⟨nd, rfl⟩⟩) | (go_at_call 95; (with_reducible refine (bonsairef04_in.calls a0 (wrap64 (a1 + 1)) 128 143 true _ A76.out).mono ?_); rintro e w' ⟨rfl, ⟨nd, rfl⟩⟩))
                                go_ret
                                exact ⟨by first | rfl | (simp; done) | (simp [*]; done), by repeat (first | exact Drawn0.refl _ | apply Drawn0.step)⟩
                              · replace c77 := Bool.eq_false_iff.mpr c77
                                subst c77
                                have H1 : (some 0) = some r := by rw [if_neg (show ¬ (false = true) by decide)] at H; exact H
                                clear H
                                have H := H1
                                clear H1
                                obtain rfl := Option.some.inj H
                                go_wp2_with (first | ((with_reducible refine gate_callee (f := 95) rfl ?_); refine goesL_ (some 68) rfl rfl Try.func95 (by kernel_rfl) rfl #[.string a0, .int .i64 (wrap64 (a1 + 2)), .int .i64 128, .int .i64 191] rfl (by (try simp only [List.map_toArray, List.map_cons, List.map_nil]); first | done | rfl | (simp only [List.length_drop, List.length_take]; rfl)) ?_; (with_reducible refine (bonsairef04_in.calls a0 (wrap64 (a1 + 2)) 128 191 true _ A62.out).mono ?_); rintro e w' ⟨rfl, ⟨nd, rfl⟩⟩; refine ⟨_, rfl, ?_⟩) | (go_at_call 95; (with_reducible refine (bonsairef04_in.calls a0 (wrap64 (a1 + 3)) 128 191 true _ A64.out).mono ?_); rintro e w' ⟨rfl, ⟨nd, rfl⟩⟩) | (go_at_call 95; (with_reducible refine (bonsairef04_in.calls a0 a1 240 240 true _ A66.out).mono ?_); rintro e w' ⟨rfl, ⟨nd, rfl⟩⟩) | (go_at_call 95; (with_reducible refine (bonsairef04_in.calls a0 (wrap64 (a1 + 1)) 144 191 false _ A68.out).mono ?_); rintro e w' ⟨rfl, ⟨nd, rfl⟩⟩) | (go_at_call 95; (with_reducible refine (bonsairef04_in.calls a0 a1 241 243 true _ A70.out).mono ?_); rintro e w' ⟨rfl, ⟨nd, rfl⟩⟩) | (go_at_call 95; (with_reducible refine (bonsairef04_in.calls a0 (wrap64 (a1 + 1)) 128 191 false _ A72.out).mono ?_); rintro e w' ⟨rfl, ⟨nd, rfl⟩⟩) | (go_at_call 95; (with_reducible refine (bonsairef04_in.calls a0 a1 244 244 true _ A74.out).mono ?_); rintro e w' ⟨rfl, ⟨nd, rfl⟩⟩) | (go_at_call 95; (with_reducible refine (bonsairef04_in.calls a0 (wrap64 (a1 + 1)) 128 143 false _ A76.out).mono ?_); rintro e w' ⟨rfl, ⟨nd, rfl⟩⟩))
                                go_ret
                                exact ⟨by first | rfl | (simp; done) | (simp [*]; done), by repeat (first | exact Drawn0.refl _ | apply Drawn0.step)⟩
                            · replace c75 := Bool.eq_false_iff.mpr c75
                              subst c75
                              have H1 : (some 0) = some r := by rw [if_neg (show ¬ (false = true) by decide)] at H; exact H
                              clear H
                              have H := H1
                              clear H1
                              obtain rfl := Option.some.inj H
                              go_wp2_with (first | ((with_reducible refine gate_callee (f := 95) rfl ?_); refine goesL_ (some 68) rfl rfl Try.func95 (by kernel_rfl) rfl #[.string a0, .int .i64 (wrap64 (a1 + 2)), .int .i64 128, .int .i64 191] rfl (by (try simp only [List.map_toArray, List.map_cons, List.map_nil]); first | done | rfl | (simp only [List.length_drop, List.length_take]; rfl)) ?_; (with_reducible refine (bonsairef04_in.calls a0 (wrap64 (a1 + 2)) 128 191 true _ A62.out).mono ?_); rintro e w' ⟨rfl, ⟨nd, rfl⟩⟩; refine ⟨_, rfl, ?_⟩) | (go_at_call 95; (with_reducible refine (bonsairef04_in.calls a0 (wrap64 (a1 + 3)) 128 191 true _ A64.out).mono ?_); rintro e w' ⟨rfl, ⟨nd, rfl⟩⟩) | (go_at_call 95; (with_reducible refine (bonsairef04_in.calls a0 a1 240 240 true _ A66.out).mono ?_); rintro e w' ⟨rfl, ⟨nd, rfl⟩⟩) | (go_at_call 95; (with_reducible refine (bonsairef04_in.calls a0 (wrap64 (a1 + 1)) 144 191 false _ A68.out).mono ?_); rintro e w' ⟨rfl, ⟨nd, rfl⟩⟩) | (go_at_call 95; (with_reducible refine (bonsairef04_in.calls a0 a1 241 243 true _ A70.out).mono ?_); rintro e w' ⟨rfl, ⟨nd, rfl⟩⟩) | (go_at_call 95; (with_reducible refine (bonsairef04_in.calls a0 (wrap64 (a1 + 1)) 128 191 false _ A72.out).mono ?_); rintro e w' ⟨rfl, ⟨nd, rfl⟩⟩) | (go_at_call 95; (with_reducible refine (bonsairef04_in.calls a0 a1 244 244 false _ A74.out).mono ?_); rintro e w' ⟨rfl, ⟨nd, rfl⟩⟩))
                              go_ret
                              exact ⟨by first | rfl | (simp; done) | (simp [*]; done), by repeat (first | exact Drawn0.refl _ | apply Drawn0.step)⟩
                        · replace c71 := Bool.eq_false_iff.mpr c71
                          subst c71
                          have H1 : ((bonsairef04_in.f a0 a1 244 244).bind fun t167 => (if t167 = true then ((bonsairef04_in.f a0 (wrap64 (a1 + 1)) 128 143).bind fun t168 => (if t168 = true then (some 4) else (some 0))) else (some 0))) = some r := by rw [if_neg (show ¬ (false = true) by decide)] at H; exact H
                          clear H
                          have H := H1
                          clear H1
                          replace H := Option.bind_eq_some_iff.mp H
                          obtain ⟨t167, A780, H⟩ := H
                          replace H : (if t167 = true then ((bonsairef04_in.f a0 (wrap64 (a1 + 1)) 128 143).bind fun t168 => (if t168 = true then (some 4) else (some 0))) else (some 0)) = some r := H
                          have A78 := Aside0.mk A780
                          clear A780
                          by_cases c79 : t167 = true
                          · subst c79
                            have H1 : ((bonsairef04_in.f a0 (wrap64 (a1 + 1)) 128 143).bind fun t168 => (if t168 = true then (some 4) else (some 0))) = some r := by rw [if_pos rfl] at H; exact H
                            clear H
                            have H := H1
                            clear H1
                            replace H := Option.bind_eq_some_iff.mp H
                            obtain ⟨t168, A800, H⟩ := H
                            replace H : (if t168 = true then (some 4) else (some 0)) = some r := H
                            have A80 := Aside0.mk A800
                            clear A800
                            by_cases c81 : t168 = true
                            · subst c81
                              have H1 : (some 4) = some r := by rw [if_pos rfl] at H; exact H
                              clear H
                              have H := H1
                              clear H1
                              obtain rfl := Option.some.inj H
                              go_wp2_with (first | ((with_reducible refine gate_callee (f := 95) rfl ?_); refine goesL_ (some 68) rfl rfl Try.func95 (by kernel_rfl) rfl #[.string a0, .int .i64 (wrap64 (a1 + 2)), .int .i64 128, .int .i64 191] rfl (by (try simp only [List.map_toArray, List.map_cons, List.map_nil]); first | done | rfl | (simp only [List.length_drop, List.length_take]; rfl)) ?_; (with_reducible refine (bonsairef04_in.calls a0 (wrap64 (a1 + 2)) 128 191 true _ A62.out).mono ?_); rintro e w' ⟨rfl, ⟨nd, rfl⟩⟩; refine ⟨_, rfl, ?_⟩) | (go_at_call 95; (with_reducible refine (bonsairef04_in.calls a0 (wrap64 (a1 + 3)) 128 191 true _ A64.out).mono ?_); rintro e w' ⟨rfl, ⟨nd, rfl⟩⟩) | (go_at_call 95; (with_reducible refine (bonsairef04_in.calls a0 a1 240 240 true _ A66.out).mono ?_); rintro e w' ⟨rfl, ⟨nd, rfl⟩⟩) | (go_at_call 95; (with_reducible refine (bonsairef04_in.calls a0 (wrap64 (a1 + 1)) 144 191 false _ A68.out).mono ?_); rintro e w' ⟨rfl, ⟨nd, rfl⟩⟩) | (go_at_call 95; (with_reducible refine (bonsairef04_in.calls a0 a1 241 243 false _ A70.out).mono ?_); rintro e w' ⟨rfl, ⟨nd, rfl⟩⟩) | (go_at_call 95; (with_reducible refine (bonsairef04_in.calls a0 a1 244 244 true _ A78.out).mono ?_); rintro e w' ⟨rfl, ⟨nd, rfl⟩⟩) | (go_at_call 95; (with_reducible refine (bonsairef04_in.calls a0 (wrap64 (a1 + 1)) 128 143 true _ A80.out).mono ?_); rintro e w' ⟨rfl, ⟨nd, rfl⟩⟩))
                              go_ret
                              exact ⟨by first | rfl | (simp; done) | (simp [*]; done), by repeat (first | exact Drawn0.refl _ | apply Drawn0.step)⟩
                            · replace c81 := Bool.eq_false_iff.mpr c81
                              subst c81
                              have H1 : (some 0) = some r := by rw [if_neg (show ¬ (false = true) by decide)] at H; exact H
                              clear H
                              have H := H1
                              clear H1
                              obtain rfl := Option.some.inj H
                              go_wp2_with (first | ((with_reducible refine gate_callee (f := 95) rfl ?_); refine goesL_ (some 68) rfl rfl Try.func95 (by kernel_rfl) rfl #[.string a0, .int .i64 (wrap64 (a1 + 2)), .int .i64 128, .int .i64 191] rfl (by (try simp only [List.map_toArray, List.map_cons, List.map_nil]); first | done | rfl | (simp only [List.length_drop, List.length_take]; rfl)) ?_; (with_reducible refine (bonsairef04_in.calls a0 (wrap64 (a1 + 2)) 128 191 true _ A62.out).mono ?_); rintro e w' ⟨rfl, ⟨nd, rfl⟩⟩; refine ⟨_, rfl, ?_⟩) | (go_at_call 95; (with_reducible refine (bonsairef04_in.calls a0 (wrap64 (a1 + 3)) 128 191 true _ A64.out).mono ?_); rintro e w' ⟨rfl, ⟨nd, rfl⟩⟩) | (go_at_call 95; (with_reducible refine (bonsairef04_in.calls a0 a1 240 240 true _ A66.out).mono ?_); rintro e w' ⟨rfl, ⟨nd, rfl⟩⟩) | (go_at_call 95; (with_reducible refine (bonsairef04_in.calls a0 (wrap64 (a1 + 1)) 144 191 false _ A68.out).mono ?_); rintro e w' ⟨rfl, ⟨nd, rfl⟩⟩) | (go_at_call 95; (with_reducible refine (bonsairef04_in.calls a0 a1 241 243 false _ A70.out).mono ?_); rintro e w' ⟨rfl, ⟨nd, rfl⟩⟩) | (go_at_call 95; (with_reducible refine (bonsairef04_in.calls a0 a1 244 244 true _ A78.out).mono ?_); rintro e w' ⟨rfl, ⟨nd, rfl⟩⟩) | (go_at_call 95; (with_reducible refine (bonsairef04_in.calls a0 (wrap64 (a1 + 1)) 128 143 false _ A80.out).mono ?_); rintro e w' ⟨rfl, ⟨nd, rfl⟩⟩))
                              go_ret
                              exact ⟨by first | rfl | (simp; done) | (simp [*]; done), by repeat (first | exact Drawn0.refl _ | apply Drawn0.step)⟩
                          · replace c79 := Bool.eq_false_iff.mpr c79
                            subst c79
                            have H1 : (some 0) = some r := by rw [if_neg (show ¬ (false = true) by decide)] at H; exact H
                            clear H
                            have H := H1
                            clear H1
                            obtain rfl := Option.some.inj H
                            go_wp2_with (first | ((with_reducible refine gate_callee (f := 95) rfl ?_); refine goesL_ (some 68) rfl rfl Try.func95 (by kernel_rfl) rfl #[.string a0, .int .i64 (wrap64 (a1 + 2)), .int .i64 128, .int .i64 191] rfl (by (try simp only [List.map_toArray, List.map_cons, List.map_nil]); first | done | rfl | (simp only [List.length_drop, List.length_take]; rfl)) ?_; (with_reducible refine (bonsairef04_in.calls a0 (wrap64 (a1 + 2)) 128 191 true _ A62.out).mono ?_); rintro e w' ⟨rfl, ⟨nd, rfl⟩⟩; refine ⟨_, rfl, ?_⟩) | (go_at_call 95; (with_reducible refine (bonsairef04_in.calls a0 (wrap64 (a1 + 3)) 128 191 true _ A64.out).mono ?_); rintro e w' ⟨rfl, ⟨nd, rfl⟩⟩) | (go_at_call 95; (with_reducible refine (bonsairef04_in.calls a0 a1 240 240 true _ A66.out).mono ?_); rintro e w' ⟨rfl, ⟨nd, rfl⟩⟩) | (go_at_call 95; (with_reducible refine (bonsairef04_in.calls a0 (wrap64 (a1 + 1)) 144 191 false _ A68.out).mono ?_); rintro e w' ⟨rfl, ⟨nd, rfl⟩⟩) | (go_at_call 95; (with_reducible refine (bonsairef04_in.calls a0 a1 241 243 false _ A70.out).mono ?_); rintro e w' ⟨rfl, ⟨nd, rfl⟩⟩) | (go_at_call 95; (with_reducible refine (bonsairef04_in.calls a0 a1 244 244 false _ A78.out).mono ?_); rintro e w' ⟨rfl, ⟨nd, rfl⟩⟩))
                            go_ret
                            exact ⟨by first | rfl | (simp; done) | (simp [*]; done), by repeat (first | exact Drawn0.refl _ | apply Drawn0.step)⟩
                    · replace c67 := Bool.eq_false_iff.mpr c67
                      subst c67
                      have H1 : ((bonsairef04_in.f a0 a1 241 243).bind fun t169 => (if t169 = true then ((bonsairef04_in.f a0 (wrap64 (a1 + 1)) 128 191).bind fun t170 => (if t170 = true then (some 4) else ((bonsairef04_in.f a0 a1 244 244).bind fun t171 => (if t171 = true then ((bonsairef04_in.f a0 (wrap64 (a1 + 1)) 128 143).bind fun t172 => (if t172 = true then (some 4) else (some 0))) else (some 0))))) else ((bonsairef04_in.f a0 a1 244 244).bind fun t173 => (if t173 = true then ((bonsairef04_in.f a0 (wrap64 (a1 + 1)) 128 143).bind fun t174 => (if t174 = true then (some 4) else (some 0))) else (some 0))))) = some r := by rw [if_neg (show ¬ (false = true) by decide)] at H; exact H
                      clear H
                      have H := H1
                      clear H1
                      replace H := Option.bind_eq_some_iff.mp H
                      obtain ⟨t169, A820, H⟩ := H
                      replace H : (if t169 = true then ((bonsairef04_in.f a0 (wrap64 (a1 + 1)) 128 191).bind fun t170 => (if t170 = true then (some 4) else ((bonsairef04_in.f a0 a1 244 244).bind fun t171 => (if t171 = true then ((bonsairef04_in.f a0 (wrap64 (a1 + 1)) 128 143).bind fun t172 => (if t172 = true then (some 4) else (some 0))) else (some 0))))) else ((bonsairef04_in.f a0 a1 244 244).bind fun t173 => (if t173 = true then ((bonsairef04_in.f a0 (wrap64 (a1 + 1)) 128 143).bind fun t174 => (if t174 = true then (some 4) else (some 0))) else (some 0)))) = some r := H
                      have A82 := Aside0.mk A820
                      clear A820
                      by_cases c83 : t169 = true
                      · subst c83
                        have H1 : ((bonsairef04_in.f a0 (wrap64 (a1 + 1)) 128 191).bind fun t170 => (if t170 = true then (some 4) else ((bonsairef04_in.f a0 a1 244 244).bind fun t171 => (if t171 = true then ((bonsairef04_in.f a0 (wrap64 (a1 + 1)) 128 143).bind fun t172 => (if t172 = true then (some 4) else (some 0))) else (some 0))))) = some r := by rw [if_pos rfl] at H; exact H
                        clear H
                        have H := H1
                        clear H1
                        replace H := Option.bind_eq_some_iff.mp H
                        obtain ⟨t170, A840, H⟩ := H
                        replace H : (if t170 = true then (some 4) else ((bonsairef04_in.f a0 a1 244 244).bind fun t171 => (if t171 = true then ((bonsairef04_in.f a0 (wrap64 (a1 + 1)) 128 143).bind fun t172 => (if t172 = true then (some 4) else (some 0))) else (some 0)))) = some r := H
                        have A84 := Aside0.mk A840
                        clear A840
                        by_cases c85 : t170 = true
                        · subst c85
                          have H1 : (some 4) = some r := by rw [if_pos rfl] at H; exact H
                          clear H
                          have H := H1
                          clear H1
                          obtain rfl := Option.some.inj H
                          go_wp2_with (first | ((with_reducible refine gate_callee (f := 95) rfl ?_); refine goesL_ (some 68) rfl rfl Try.func95 (by kernel_rfl) rfl #[.string a0, .int .i64 (wrap64 (a1 + 2)), .int .i64 128, .int .i64 191] rfl (by (try simp only [List.map_toArray, List.map_cons, List.map_nil]); first | done | rfl | (simp only [List.length_drop, List.length_take]; rfl)) ?_; (with_reducible refine (bonsairef04_in.calls a0 (wrap64 (a1 + 2)) 128 191 true _ A62.out).mono ?_); rintro e w' ⟨rfl, ⟨nd, rfl⟩⟩; refine ⟨_, rfl, ?_⟩) | (go_at_call 95; (with_reducible refine (bonsairef04_in.calls a0 (wrap64 (a1 + 3)) 128 191 true _ A64.out).mono ?_); rintro e w' ⟨rfl, ⟨nd, rfl⟩⟩) | (go_at_call 95; (with_reducible refine (bonsairef04_in.calls a0 a1 240 240 false _ A66.out).mono ?_); rintro e w' ⟨rfl, ⟨nd, rfl⟩⟩) | (go_at_call 95; (with_reducible refine (bonsairef04_in.calls a0 a1 241 243 true _ A82.out).mono ?_); rintro e w' ⟨rfl, ⟨nd, rfl⟩⟩) | (go_at_call 95; (with_reducible refine (bonsairef04_in.calls a0 (wrap64 (a1 + 1)) 128 191 true _ A84.out).mono ?_); rintro e w' ⟨rfl, ⟨nd, rfl⟩⟩))
                          go_ret
                          exact ⟨by first | rfl | (simp; done) | (simp [*]; done), by repeat (first | exact Drawn0.refl _ | apply Drawn0.step)⟩
                        · replace c85 := Bool.eq_false_iff.mpr c85
                          subst c85
                          have H1 : ((bonsairef04_in.f a0 a1 244 244).bind fun t171 => (if t171 = true then ((bonsairef04_in.f a0 (wrap64 (a1 + 1)) 128 143).bind fun t172 => (if t172 = true then (some 4) else (some 0))) else (some 0))) = some r := by rw [if_neg (show ¬ (false = true) by decide)] at H; exact H
                          clear H
                          have H := H1
                          clear H1
                          replace H := Option.bind_eq_some_iff.mp H
                          obtain ⟨t171, A860, H⟩ := H
                          replace H : (if t171 = true then ((bonsairef04_in.f a0 (wrap64 (a1 + 1)) 128 143).bind fun t172 => (if t172 = true then (some 4) else (some 0))) else (some 0)) = some r := H
                          have A86 := Aside0.mk A860
                          clear A860
                          by_cases c87 : t171 = true
                          · subst c87
                            have H1 : ((bonsairef04_in.f a0 (wrap64 (a1 + 1)) 128 143).bind fun t172 => (if t172 = true then (some 4) else (some 0))) = some r := by rw [if_pos rfl] at H; exact H
                            clear H
                            have H := H1
                            clear H1
                            replace H := Option.bind_eq_some_iff.mp H
                            obtain ⟨t172, A880, H⟩ := H
                            replace H : (if t172 = true then (some 4) else (some 0)) = some r := H
                            have A88 := Aside0.mk A880
                            clear A880
                            by_cases c89 : t172 = true
                            · subst c89
                              have H1 : (some 4) = some r := by rw [if_pos rfl] at H; exact H
                              clear H
                              have H := H1
                              clear H1
                              obtain rfl := Option.some.inj H
                              go_wp2_with (first | ((with_reducible refine gate_callee (f := 95) rfl ?_); refine goesL_ (some 68) rfl rfl Try.func95 (by kernel_rfl) rfl #[.string a0, .int .i64 (wrap64 (a1 + 2)), .int .i64 128, .int .i64 191] rfl (by (try simp only [List.map_toArray, List.map_cons, List.map_nil]); first | done | rfl | (simp only [List.length_drop, List.length_take]; rfl)) ?_; (with_reducible refine (bonsairef04_in.calls a0 (wrap64 (a1 + 2)) 128 191 true _ A62.out).mono ?_); rintro e w' ⟨rfl, ⟨nd, rfl⟩⟩; refine ⟨_, rfl, ?_⟩) | (go_at_call 95; (with_reducible refine (bonsairef04_in.calls a0 (wrap64 (a1 + 3)) 128 191 true _ A64.out).mono ?_); rintro e w' ⟨rfl, ⟨nd, rfl⟩⟩) | (go_at_call 95; (with_reducible refine (bonsairef04_in.calls a0 a1 240 240 false _ A66.out).mono ?_); rintro e w' ⟨rfl, ⟨nd, rfl⟩⟩) | (go_at_call 95; (with_reducible refine (bonsairef04_in.calls a0 a1 241 243 true _ A82.out).mono ?_); rintro e w' ⟨rfl, ⟨nd, rfl⟩⟩) | (go_at_call 95; (with_reducible refine (bonsairef04_in.calls a0 (wrap64 (a1 + 1)) 128 191 false _ A84.out).mono ?_); rintro e w' ⟨rfl, ⟨nd, rfl⟩⟩) | (go_at_call 95; (with_reducible refine (bonsairef04_in.calls a0 a1 244 244 true _ A86.out).mono ?_); rintro e w' ⟨rfl, ⟨nd, rfl⟩⟩) | (go_at_call 95; (with_reducible refine (bonsairef04_in.calls a0 (wrap64 (a1 + 1)) 128 143 true _ A88.out).mono ?_); rintro e w' ⟨rfl, ⟨nd, rfl⟩⟩))
                              go_ret
                              exact ⟨by first | rfl | (simp; done) | (simp [*]; done), by repeat (first | exact Drawn0.refl _ | apply Drawn0.step)⟩
                            · replace c89 := Bool.eq_false_iff.mpr c89
                              subst c89
                              have H1 : (some 0) = some r := by rw [if_neg (show ¬ (false = true) by decide)] at H; exact H
                              clear H
                              have H := H1
                              clear H1
                              obtain rfl := Option.some.inj H
                              go_wp2_with (first | ((with_reducible refine gate_callee (f := 95) rfl ?_); refine goesL_ (some 68) rfl rfl Try.func95 (by kernel_rfl) rfl #[.string a0, .int .i64 (wrap64 (a1 + 2)), .int .i64 128, .int .i64 191] rfl (by (try simp only [List.map_toArray, List.map_cons, List.map_nil]); first | done | rfl | (simp only [List.length_drop, List.length_take]; rfl)) ?_; (with_reducible refine (bonsairef04_in.calls a0 (wrap64 (a1 + 2)) 128 191 true _ A62.out).mono ?_); rintro e w' ⟨rfl, ⟨nd, rfl⟩⟩; refine ⟨_, rfl, ?_⟩) | (go_at_call 95; (with_reducible refine (bonsairef04_in.calls a0 (wrap64 (a1 + 3)) 128 191 true _ A64.out).mono ?_); rintro e w' ⟨rfl, ⟨nd, rfl⟩⟩) | (go_at_call 95; (with_reducible refine (bonsairef04_in.calls a0 a1 240 240 false _ A66.out).mono ?_); rintro e w' ⟨rfl, ⟨nd, rfl⟩⟩) | (go_at_call 95; (with_reducible refine (bonsairef04_in.calls a0 a1 241 243 true _ A82.out).mono ?_); rintro e w' ⟨rfl, ⟨nd, rfl⟩⟩) | (go_at_call 95; (with_reducible refine (bonsairef04_in.calls a0 (wrap64 (a1 + 1)) 128 191 false _ A84.out).mono ?_); rintro e w' ⟨rfl, ⟨nd, rfl⟩⟩) | (go_at_call 95; (with_reducible refine (bonsairef04_in.calls a0 a1 244 244 true _ A86.out).mono ?_); rintro e w' ⟨rfl, ⟨nd, rfl⟩⟩) | (go_at_call 95; (with_reducible refine (bonsairef04_in.calls a0 (wrap64 (a1 + 1)) 128 143 false _ A88.out).mono ?_); rintro e w' ⟨rfl, ⟨nd, rfl⟩⟩))
                              go_ret
                              exact ⟨by first | rfl | (simp; done) | (simp [*]; done), by repeat (first | exact Drawn0.refl _ | apply Drawn0.step)⟩
                          · replace c87 := Bool.eq_false_iff.mpr c87
                            subst c87
                            have H1 : (some 0) = some r := by rw [if_neg (show ¬ (false = true) by decide)] at H; exact H
                            clear H
                            have H := H1
                            clear H1
                            obtain rfl := Option.some.inj H
                            go_wp2_with (first | ((with_reducible refine gate_callee (f := 95) rfl ?_); refine goesL_ (some 68) rfl rfl Try.func95 (by kernel_rfl) rfl #[.string a0, .int .i64 (wrap64 (a1 + 2)), .int .i64 128, .int .i64 191] rfl (by (try simp only [List.map_toArray, List.map_cons, List.map_nil]); first | done | rfl | (simp only [List.length_drop, List.length_take]; rfl)) ?_; (with_reducible refine (bonsairef04_in.calls a0 (wrap64 (a1 + 2)) 128 191 true _ A62.out).mono ?_); rintro e w' ⟨rfl, ⟨nd, rfl⟩⟩; refine ⟨_, rfl, ?_⟩) | (go_at_call 95; (with_reducible refine (bonsairef04_in.calls a0 (wrap64 (a1 + 3)) 128 191 true _ A64.out).mono ?_); rintro e w' ⟨rfl, ⟨nd, rfl⟩⟩) | (go_at_call 95; (with_reducible refine (bonsairef04_in.calls a0 a1 240 240 false _ A66.out).mono ?_); rintro e w' ⟨rfl, ⟨nd, rfl⟩⟩) | (go_at_call 95; (with_reducible refine (bonsairef04_in.calls a0 a1 241 243 true _ A82.out).mono ?_); rintro e w' ⟨rfl, ⟨nd, rfl⟩⟩) | (go_at_call 95; (with_reducible refine (bonsairef04_in.calls a0 (wrap64 (a1 + 1)) 128 191 false _ A84.out).mono ?_); rintro e w' ⟨rfl, ⟨nd, rfl⟩⟩) | (go_at_call 95; (with_reducible refine (bonsairef04_in.calls a0 a1 244 244 false _ A86.out).mono ?_); rintro e w' ⟨rfl, ⟨nd, rfl⟩⟩))
                            go_ret
                            exact ⟨by first | rfl | (simp; done) | (simp [*]; done), by repeat (first | exact Drawn0.refl _ | apply Drawn0.step)⟩
                      · replace c83 := Bool.eq_false_iff.mpr c83
                        subst c83
                        have H1 : ((bonsairef04_in.f a0 a1 244 244).bind fun t173 => (if t173 = true then ((bonsairef04_in.f a0 (wrap64 (a1 + 1)) 128 143).bind fun t174 => (if t174 = true then (some 4) else (some 0))) else (some 0))) = some r := by rw [if_neg (show ¬ (false = true) by decide)] at H; exact H
                        clear H
                        have H := H1
                        clear H1
                        replace H := Option.bind_eq_some_iff.mp H
                        obtain ⟨t173, A900, H⟩ := H
                        replace H : (if t173 = true then ((bonsairef04_in.f a0 (wrap64 (a1 + 1)) 128 143).bind fun t174 => (if t174 = true then (some 4) else (some 0))) else (some 0)) = some r := H
                        have A90 := Aside0.mk A900
                        clear A900
                        by_cases c91 : t173 = true
                        · subst c91
                          have H1 : ((bonsairef04_in.f a0 (wrap64 (a1 + 1)) 128 143).bind fun t174 => (if t174 = true then (some 4) else (some 0))) = some r := by rw [if_pos rfl] at H; exact H
                          clear H
                          have H := H1
                          clear H1
                          replace H := Option.bind_eq_some_iff.mp H
                          obtain ⟨t174, A920, H⟩ := H
                          replace H : (if t174 = true then (some 4) else (some 0)) = some r := H
                          have A92 := Aside0.mk A920
                          clear A920
                          by_cases c93 : t174 = true
                          · subst c93
                            have H1 : (some 4) = some r := by rw [if_pos rfl] at H; exact H
                            clear H
                            have H := H1
                            clear H1
                            obtain rfl := Option.some.inj H
                            go_wp2_with (first | ((with_reducible refine gate_callee (f := 95) rfl ?_); refine goesL_ (some 68) rfl rfl Try.func95 (by kernel_rfl) rfl #[.string a0, .int .i64 (wrap64 (a1 + 2)), .int .i64 128, .int .i64 191] rfl (by (try simp only [List.map_toArray, List.map_cons, List.map_nil]); first | done | rfl | (simp only [List.length_drop, List.length_take]; rfl)) ?_; (with_reducible refine (bonsairef04_in.calls a0 (wrap64 (a1 + 2)) 128 191 true _ A62.out).mono ?_); rintro e w' ⟨rfl, ⟨nd, rfl⟩⟩; refine ⟨_, rfl, ?_⟩) | (go_at_call 95; (with_reducible refine (bonsairef04_in.calls a0 (wrap64 (a1 + 3)) 128 191 true _ A64.out).mono ?_); rintro e w' ⟨rfl, ⟨nd, rfl⟩⟩) | (go_at_call 95; (with_reducible refine (bonsairef04_in.calls a0 a1 240 240 false _ A66.out).mono ?_); rintro e w' ⟨rfl, ⟨nd, rfl⟩⟩) | (go_at_call 95; (with_reducible refine (bonsairef04_in.calls a0 a1 241 243 false _ A82.out).mono ?_); rintro e w' ⟨rfl, ⟨nd, rfl⟩⟩) | (go_at_call 95; (with_reducible refine (bonsairef04_in.calls a0 a1 244 244 true _ A90.out).mono ?_); rintro e w' ⟨rfl, ⟨nd, rfl⟩⟩) | (go_at_call 95; (with_reducible refine (bonsairef04_in.calls a0 (wrap64 (a1 + 1)) 128 143 true _ A92.out).mono ?_); rintro e w' ⟨rfl, ⟨nd, rfl⟩⟩))
                            go_ret
                            exact ⟨by first | rfl | (simp; done) | (simp [*]; done), by repeat (first | exact Drawn0.refl _ | apply Drawn0.step)⟩
                          · replace c93 := Bool.eq_false_iff.mpr c93
                            subst c93
                            have H1 : (some 0) = some r := by rw [if_neg (show ¬ (false = true) by decide)] at H; exact H
                            clear H
                            have H := H1
                            clear H1
                            obtain rfl := Option.some.inj H
                            go_wp2_with (first | ((with_reducible refine gate_callee (f := 95) rfl ?_); refine goesL_ (some 68) rfl rfl Try.func95 (by kernel_rfl) rfl #[.string a0, .int .i64 (wrap64 (a1 + 2)), .int .i64 128, .int .i64 191] rfl (by (try simp only [List.map_toArray, List.map_cons, List.map_nil]); first | done | rfl | (simp only [List.length_drop, List.length_take]; rfl)) ?_; (with_reducible refine (bonsairef04_in.calls a0 (wrap64 (a1 + 2)) 128 191 true _ A62.out).mono ?_); rintro e w' ⟨rfl, ⟨nd, rfl⟩⟩; refine ⟨_, rfl, ?_⟩) | (go_at_call 95; (with_reducible refine (bonsairef04_in.calls a0 (wrap64 (a1 + 3)) 128 191 true _ A64.out).mono ?_); rintro e w' ⟨rfl, ⟨nd, rfl⟩⟩) | (go_at_call 95; (with_reducible refine (bonsairef04_in.calls a0 a1 240 240 false _ A66.out).mono ?_); rintro e w' ⟨rfl, ⟨nd, rfl⟩⟩) | (go_at_call 95; (with_reducible refine (bonsairef04_in.calls a0 a1 241 243 false _ A82.out).mono ?_); rintro e w' ⟨rfl, ⟨nd, rfl⟩⟩) | (go_at_call 95; (with_reducible refine (bonsairef04_in.calls a0 a1 244 244 true _ A90.out).mono ?_); rintro e w' ⟨rfl, ⟨nd, rfl⟩⟩) | (go_at_call 95; (with_reducible refine (bonsairef04_in.calls a0 (wrap64 (a1 + 1)) 128 143 false _ A92.out).mono ?_); rintro e w' ⟨rfl, ⟨nd, rfl⟩⟩))
                            go_ret
                            exact ⟨by first | rfl | (simp; done) | (simp [*]; done), by repeat (first | exact Drawn0.refl _ | apply Drawn0.step)⟩
                        · replace c91 := Bool.eq_false_iff.mpr c91
                          subst c91
                          have H1 : (some 0) = some r := by rw [if_neg (show ¬ (false = true) by decide)] at H; exact H
                          clear H
                          have H := H1
                          clear H1
                          obtain rfl := Option.some.inj H
                          go_wp2_with (first | ((with_reducible refine gate_callee (f := 95) rfl ?_); refine goesL_ (some 68) rfl rfl Try.func95 (by kernel_rfl) rfl #[.string a0, .int .i64 (wrap64 (a1 + 2)), .int .i64 128, .int .i64 191] rfl (by (try simp only [List.map_toArray, List.map_cons, List.map_nil]); first | done | rfl | (simp only [List.length_drop, List.length_take]; rfl)) ?_; (with_reducible refine (bonsairef04_in.calls a0 (wrap64 (a1 + 2)) 128 191 true _ A62.out).mono ?_); rintro e w' ⟨rfl, ⟨nd, rfl⟩⟩; refine ⟨_, rfl, ?_⟩) | (go_at_call 95; (with_reducible refine (bonsairef04_in.calls a0 (wrap64 (a1 + 3)) 128 191 true _ A64.out).mono ?_); rintro e w' ⟨rfl, ⟨nd, rfl⟩⟩) | (go_at_call 95; (with_reducible refine (bonsairef04_in.calls a0 a1 240 240 false _ A66.out).mono ?_); rintro e w' ⟨rfl, ⟨nd, rfl⟩⟩) | (go_at_call 95; (with_reducible refine (bonsairef04_in.calls a0 a1 241 243 false _ A82.out).mono ?_); rintro e w' ⟨rfl, ⟨nd, rfl⟩⟩) | (go_at_call 95; (with_reducible refine (bonsairef04_in.calls a0 a1 244 244 false _ A90.out).mono ?_); rintro e w' ⟨rfl, ⟨nd, rfl⟩⟩))
                          go_ret
                          exact ⟨by first | rfl | (simp; done) | (simp [*]; done), by repeat (first | exact Drawn0.refl _ | apply Drawn0.step)⟩
                  · replace c65 := Bool.eq_false_iff.mpr c65
                    subst c65
                    have H1 : (some 0) = some r := by rw [if_neg (show ¬ (false = true) by decide)] at H; exact H
                    clear H
                    have H := H1
                    clear H1
                    obtain rfl := Option.some.inj H
                    go_wp2_with (first | ((with_reducible refine gate_callee (f := 95) rfl ?_); refine goesL_ (some 68) rfl rfl Try.func95 (by kernel_rfl) rfl #[.string a0, .int .i64 (wrap64 (a1 + 2)), .int .i64 128, .int .i64 191] rfl (by (try simp only [List.map_toArray, List.map_cons, List.map_nil]); first | done | rfl | (simp only [List.length_drop, List.length_take]; rfl)) ?_; (with_reducible refine (bonsairef04_in.calls a0 (wrap64 (a1 + 2)) 128 191 true _ A62.out).mono ?_); rintro e w' ⟨rfl, ⟨nd, rfl⟩⟩; refine ⟨_, rfl, ?_⟩) | (go_at_call 95; (with_reducible refine (bonsairef04_in.calls a0 (wrap64 (a1 + 3)) 128 191 false _ A64.out).mono ?_); rintro e w' ⟨rfl, ⟨nd, rfl⟩⟩))
                    go_ret
                    exact ⟨by first | rfl | (simp; done) | (simp [*]; done), by repeat (first | exact Drawn0.refl _ | apply Drawn0.step)⟩
                · replace c63 := Bool.eq_false_iff.mpr c63
                  subst c63
                  have H1 : (some 0) = some r := by rw [if_neg (show ¬ (false = true) by decide)] at H; exact H
                  clear H
                  have H := H1
                  clear H1
                  obtain rfl := Option.some.inj H
                  go_wp2_with (first | ((with_reducible refine gate_callee (f := 95) rfl ?_); refine goesL_ (some 68) rfl rfl Try.func95 (by kernel_rfl) rfl #[.string a0, .int .i64 (wrap64 (a1 + 2)), .int .i64 128, .int .i64 191] rfl (by (try simp only [List.map_toArray, List.map_cons, List.map_nil]); first | done | rfl | (simp only [List.length_drop, List.length_take]; rfl)) ?_; (with_reducible refine (bonsairef04_in.calls a0 (wrap64 (a1 + 2)) 128 191 false _ A62.out).mono ?_); rintro e w' ⟨rfl, ⟨nd, rfl⟩⟩; refine ⟨_, rfl, ?_⟩))
                  go_ret
                  exact ⟨by first | rfl | (simp; done) | (simp [*]; done), by repeat (first | exact Drawn0.refl _ | apply Drawn0.step)⟩
end Go.Proofs.Ytfcndhajcikgiaa.B
