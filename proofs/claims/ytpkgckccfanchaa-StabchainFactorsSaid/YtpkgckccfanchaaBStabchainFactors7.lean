/- Part of the proof of StabchainFactors: texts of this claim, merged and pruned by wip/tools/merge2.py. -/
import Derived.Test.YtpkgckccfanchaaBStabchainFactors3
import Derived.Test.YtpkgckccfanchaaBStabchainFactors6
import Derived.Test.YtpkgckccfanchaaBStabchainFactors5
import Derived.Test.YtpkgckccfanchaaBStabchainFactors1

namespace Go.Proofs.Ytpkgckccfanchaa.M
open Go.RowKit Go.Proofs.YtpkgckccfanchaaW.PrintWords Go.Proofs.YtpkgckccfanchaaW.PrintLast Go.Proofs.YtpkgckccfanchaaW.PrintMore
attribute [local go_sem] max2_int min2_int max_two min_two max_three min_three max_four min_four
set_option linter.unusedVariables false
set_option linter.unusedSimpArgs false
def stabchain_permutations.l0 : Nat → Int → List (List Int) → Int → Int → Option (Bool)
  | 0, _, _, _, _ => none
  | k + 1, x0, x7, x8, x9 => if x9 < x8 then (if 0 ≤ x9 then (if x9 < (x7.length : Int) then (if ((rd_L1 x7 x9).length : Int) = x0 then ((permutation_Valid.f k (rd_L1 x7 x9)).bind fun t113 => (if t113 = true then (stabchain_permutations.l0 k x0 x7 x8 (wrap64 (x9 + 1))) else (some false))) else (some false)) else (none)) else (none)) else (some true)
def stabchain_permutations.f (k : Nat) (a0 : Int) (l1 : List (List Int)) : Option (Bool) := stabchain_permutations.l0 k a0 l1 (l1.length : Int) 0
theorem stabchain_permutations.mono_l : ∀ k, (∀ y0 y1 y2 y3, LeO (stabchain_permutations.l0 k y0 y1 y2 y3) (stabchain_permutations.l0 (k + 1) y0 y1 y2 y3))
  | 0 => fun _ _ _ _ r h => by simp [stabchain_permutations.l0] at h
  | k + 1 => by
    have ih0 := stabchain_permutations.mono_l k
    · intro y0 y1 y2 y3
      unfold stabchain_permutations.l0
      repeat' first
      | (with_reducible exact ih0 _ _ _ _)
      | (with_reducible exact permutation_Valid.mono _ _)
      | (with_reducible exact LeO.refl _)
      | (with_reducible exact LeO.none _)
      | (with_reducible refine LeO.ite ?_ ?_)
      | (with_reducible refine LeO.bind ?_ (fun _ => ?_))
      | exact ih0 _ _ _ _
      | exact permutation_Valid.mono _ _
      | exact LeO.none _
      | refine LeO.ite ?_ ?_
      | refine LeO.bind ?_ (fun _ => ?_)
theorem stabchain_permutations.mono : ∀ a0 a1 k, LeO (stabchain_permutations.f k a0 a1) (stabchain_permutations.f (k + 1) a0 a1) := by
  intro a0 a1 k; have ih0 := stabchain_permutations.mono_l k
  unfold stabchain_permutations.f
  repeat' first
      | (with_reducible exact ih0 _ _ _ _)
      | (with_reducible exact permutation_Valid.mono _ _)
      | (with_reducible exact LeO.refl _)
      | (with_reducible exact LeO.none _)
      | (with_reducible refine LeO.ite ?_ ?_)
      | (with_reducible refine LeO.bind ?_ (fun _ => ?_))
      | exact ih0 _ _ _ _
      | exact permutation_Valid.mono _ _
      | exact LeO.none _
      | refine LeO.ite ?_ ?_
      | refine LeO.bind ?_ (fun _ => ?_)
set_option maxHeartbeats 8000000 in
set_option maxRecDepth 100000 in
theorem stabchain_permutations.calls (k : Nat) (a0 : Int) (A1 : Option Addr) (c1 : Nat) (l1 : List (List Int)) (r : Bool) (w : World) (hr1 : Kd.C (Kd.slice 3 (Kd.int .i64)) w A1 l1.length l1) (hc1 : l1.length ≤ c1) (h : stabchain_permutations.f k a0 l1 = some r) :
    Calls Try.prog 55 #[.int .i64 a0, .slice A1 l1.length c1] w fun e w' => e = .returned (.bool r) ∧ Below w.heap.size w w' := by
  have HR1 := Aside0.mk hr1; have HC1 := Aside0.mk hc1; clear hr1 hc1; have HB := Aside0.mk (Below.refl w.heap.size w); have H : (stabchain_permutations.l0 k a0 l1 (l1.length : Int) 0) = some r := h; clear h; have H' := Aside0.mk H; clear H
  go_enter Try.func55, Try.ntmps55
  go_wp2
  go_loopg [9] k (fun kq v9 w' => ∃ (x9_1 : Int), v9 = .int .i64 x9_1 ∧ Aside0 (stabchain_permutations.l0 kq a0 l1 (l1.length : Int) x9_1 = some r) ∧ Aside0 (kq ≤ k) ∧ Aside0 (Below w.heap.size w w'))
  case atStart => exact ⟨(0), (by first | rfl | (simp; done) | (simp [*]; done)), H', ⟨Nat.le_refl _⟩, ⟨by repeat (first | (with_reducible first | exact HB.out | apply below_alloc | apply pw_below_drewN | apply below_drew1) | exact HB.out)⟩⟩
  case round =>
    clear H'
    try clear c1
    try clear p2
    obtain ⟨x9_1, rfl, HA, HK1, HB⟩ := hrel; cases gk with
    | zero => exact absurd HA.out (by simp [stabchain_permutations.l0])
    | succ k1 =>
      have H := HA.out; clear HA
      simp only [stabchain_permutations.l0] at H
      by_cases c3 : x9_1 < (l1.length : Int)
      · rw [if_pos c3] at H
        have c3b0 : decide (x9_1 < (l1.length : Int)) = true := decide_eq_true c3; clear c3
        by_cases c4 : 0 ≤ x9_1
        · rw [if_pos c4] at H
          have c4b0 : decide (0 ≤ x9_1) = true := decide_eq_true c4; clear c4
          by_cases c5 : x9_1 < (l1.length : Int)
          · rw [if_pos c5] at H
            have c5b0 : decide (x9_1 < (l1.length : Int)) = true := decide_eq_true c5; clear c5
            by_cases c6 : ((rd_L1 l1 x9_1).length : Int) = a0
            · rw [if_pos c6] at H
              have c6b0 : (((rd_L1 l1 x9_1).length : Int) == a0) = true := beq_iff_eq.mpr c6; have c6b1 : (((rd_L1 l1 x9_1).length : Int) != a0) = false := bne_eq_false_iff_eq.mpr c6; clear c6; replace H := Option.bind_eq_some_iff.mp H; obtain ⟨t113, A70, H⟩ := H; replace H : (if t113 = true then (stabchain_permutations.l0 k1 a0 l1 (l1.length : Int) (wrap64 (x9_1 + 1))) else (some false)) = some r := H; have A7 := Aside0.mk A70; clear A70
              by_cases c8 : t113 = true
              · subst c8
                have H1 : (stabchain_permutations.l0 k1 a0 l1 (l1.length : Int) (wrap64 (x9_1 + 1))) = some r := by rw [if_pos rfl] at H; exact H
                clear H; have H := H1; clear H1; have H' := Aside0.mk H; clear H; have p112 : 0 ≤ (x9_1 : Int) := of_decide_eq_true (by first | (with_reducible assumption) | assumption); have q112 : x9_1 < (l1.length : Int) := of_decide_eq_true (by first | (with_reducible assumption) | assumption); obtain ⟨ad112, A112_0, c112_0, e112, hx112_0, hl112_0, hi112_0⟩ := at_L1 HR1.out x9_1 p112 q112; cases e112; replace hx112_0 := (HB.out.cell (World.block_lt_of_cell? w _ hx112_0)).trans hx112_0; have HR112_0 := Aside0.mk hi112_0; have HC112_0 := Aside0.mk hl112_0; clear hi112_0 hl112_0; replace p112 := eq_true p112; replace q112 := eq_true q112
                go_wp2_with (first | (go_at_call 91; (with_reducible refine (permutation_Valid.calls k1 _ _ (rd_L1 l1 x9_1) true _ ?side1 ?side2 A7.out).mono ?_); (case side1 => repeat (first | exact (Kd.C_below HR112_0.out HB.out) | (with_reducible refine Kd.C_alloc ?_ _) | (with_reducible refine Kd.C_drewN ?_ _) | (with_reducible refine Kd.C_drew ?_))); (case side2 => exact HC112_0.out); rintro e w9 ⟨rfl, hb⟩; have n0_ := Aside0.mk (below_step (by repeat (first | (with_reducible first | exact HB.out | apply below_alloc | apply pw_below_drewN | apply below_drew1) | exact HB.out)) hb); clear HB; have HB := n0_; clear n0_; (try clear hb); (try clear hb2); (try clear hk); (try clear hi)))
                go_roundg k1
                case measure => have := HK1.out; omega
                case rel => exact ⟨(wrap64 (x9_1 + 1)), (by first | rfl | (simp; done) | (simp [*]; done)), H', ⟨by have := HK1.out; omega⟩, ⟨by repeat (first | (with_reducible first | exact HB.out | apply below_alloc | apply pw_below_drewN | apply below_drew1) | exact HB.out)⟩⟩
              · replace c8 := Bool.eq_false_iff.mpr c8
                subst c8
                have H1 : (some false) = some r := by rw [if_neg (show ¬ (false = true) by decide)] at H; exact H
                clear H; have H := H1; clear H1; obtain rfl := Option.some.inj H; have p112 : 0 ≤ (x9_1 : Int) := of_decide_eq_true (by first | (with_reducible assumption) | assumption); have q112 : x9_1 < (l1.length : Int) := of_decide_eq_true (by first | (with_reducible assumption) | assumption); obtain ⟨ad112, A112_0, c112_0, e112, hx112_0, hl112_0, hi112_0⟩ := at_L1 HR1.out x9_1 p112 q112; cases e112; replace hx112_0 := (HB.out.cell (World.block_lt_of_cell? w _ hx112_0)).trans hx112_0; have HR112_0 := Aside0.mk hi112_0; have HC112_0 := Aside0.mk hl112_0; clear hi112_0 hl112_0; replace p112 := eq_true p112; replace q112 := eq_true q112
                go_wp2_with (first | (go_at_call 91; (with_reducible refine (permutation_Valid.calls k1 _ _ (rd_L1 l1 x9_1) false _ ?side1 ?side2 A7.out).mono ?_); (case side1 => repeat (first | exact (Kd.C_below HR112_0.out HB.out) | (with_reducible refine Kd.C_alloc ?_ _) | (with_reducible refine Kd.C_drewN ?_ _) | (with_reducible refine Kd.C_drew ?_))); (case side2 => exact HC112_0.out); rintro e w10 ⟨rfl, hb⟩; have n0_ := Aside0.mk (below_step (by repeat (first | (with_reducible first | exact HB.out | apply below_alloc | apply pw_below_drewN | apply below_drew1) | exact HB.out)) hb); clear HB; have HB := n0_; clear n0_; (try clear hb); (try clear hb2); (try clear hk); (try clear hi)))
                go_ret
                exact ⟨by first | rfl | (simp [errW_none, errW_some] <;> rfl) | (simp [*, errW_none, errW_some] <;> rfl), by repeat (first | (with_reducible first | exact HB.out | apply below_alloc | apply pw_below_drewN | apply below_drew1) | exact HB.out)⟩
            · rw [if_neg c6] at H
              have c6b0 : (((rd_L1 l1 x9_1).length : Int) == a0) = false := beq_eq_false_iff_ne.mpr c6; have c6b1 : (((rd_L1 l1 x9_1).length : Int) != a0) = true := bne_iff_ne.mpr c6; obtain rfl := Option.some.inj H; have p112 : 0 ≤ (x9_1 : Int) := of_decide_eq_true (by first | (with_reducible assumption) | assumption); have q112 : x9_1 < (l1.length : Int) := of_decide_eq_true (by first | (with_reducible assumption) | assumption); obtain ⟨ad112, A112_0, c112_0, e112, hx112_0, hl112_0, hi112_0⟩ := at_L1 HR1.out x9_1 p112 q112; cases e112; replace hx112_0 := (HB.out.cell (World.block_lt_of_cell? w _ hx112_0)).trans hx112_0; have HR112_0 := Aside0.mk hi112_0; have HC112_0 := Aside0.mk hl112_0; clear hi112_0 hl112_0; replace p112 := eq_true p112; replace q112 := eq_true q112
              go_wp2
              go_ret
              exact ⟨by first | rfl | (simp [errW_none, errW_some] <;> rfl) | (simp [*, errW_none, errW_some] <;> rfl), by repeat (first | (with_reducible first | exact HB.out | apply below_alloc | apply pw_below_drewN | apply below_drew1) | exact HB.out)⟩
          · rw [if_neg c5] at H
            exact absurd H (by simp)
        · rw [if_neg c4] at H
          exact absurd H (by simp)
      · rw [if_neg c3] at H
        have c3b0 : decide (x9_1 < (l1.length : Int)) = false := decide_eq_false c3; clear c3; obtain rfl := Option.some.inj H
        go_wp2
        go_ret
        exact ⟨by first | rfl | (simp [errW_none, errW_some] <;> rfl) | (simp [*, errW_none, errW_some] <;> rfl), by repeat (first | (with_reducible first | exact HB.out | apply below_alloc | apply pw_below_drewN | apply below_drew1) | exact HB.out)⟩
end Go.Proofs.Ytpkgckccfanchaa.M

namespace Go.Proofs.Ytpkgckccfanchaa.M
open Go.RowKit Go.Proofs.YtpkgckccfanchaaW.PrintWords Go.Proofs.YtpkgckccfanchaaW.PrintLast Go.Proofs.YtpkgckccfanchaaW.PrintMore
attribute [local go_sem] max2_int min2_int max_two min_two max_three min_three max_four min_four
set_option linter.unusedVariables false
set_option linter.unusedSimpArgs false
def stabchain_arguments.j0 : Nat → Int → List (List Int) → Bool → Option (Int)
  | 0, _, _, _ => none
  | k + 1, x0, x1, x10 => if x10 = true then (some 1) else (if (x1.length : Int) > 64 then (some 7) else ((stabchain_permutations.f k x0 x1).bind fun t114 => (if t114 = true then (some 0) else (some 3))))
def stabchain_arguments.f (k : Nat) (a0 : Int) (l1 : List (List Int)) : Option (Int) := if a0 < 1 then (stabchain_arguments.j0 k a0 l1 true) else (stabchain_arguments.j0 k a0 l1 (decide (a0 > 512)))
theorem stabchain_arguments.mono_l : ∀ k, (∀ y0 y1 y2, LeO (stabchain_arguments.j0 k y0 y1 y2) (stabchain_arguments.j0 (k + 1) y0 y1 y2))
  | 0 => fun _ _ _ r h => by simp [stabchain_arguments.j0] at h
  | k + 1 => by
    have ih0 := stabchain_arguments.mono_l k
    · intro y0 y1 y2
      unfold stabchain_arguments.j0
      repeat' first
      | (with_reducible exact ih0 _ _ _)
      | (with_reducible exact stabchain_permutations.mono _ _ _)
      | (with_reducible exact LeO.refl _)
      | (with_reducible exact LeO.none _)
      | (with_reducible refine LeO.ite ?_ ?_)
      | (with_reducible refine LeO.bind ?_ (fun _ => ?_))
      | exact ih0 _ _ _
      | exact stabchain_permutations.mono _ _ _
      | exact LeO.none _
      | refine LeO.ite ?_ ?_
      | refine LeO.bind ?_ (fun _ => ?_)
theorem stabchain_arguments.mono : ∀ a0 a1 k, LeO (stabchain_arguments.f k a0 a1) (stabchain_arguments.f (k + 1) a0 a1) := by
  intro a0 a1 k; have ih0 := stabchain_arguments.mono_l k
  unfold stabchain_arguments.f
  repeat' first
      | (with_reducible exact ih0 _ _ _)
      | (with_reducible exact stabchain_permutations.mono _ _ _)
      | (with_reducible exact LeO.refl _)
      | (with_reducible exact LeO.none _)
      | (with_reducible refine LeO.ite ?_ ?_)
      | (with_reducible refine LeO.bind ?_ (fun _ => ?_))
      | exact ih0 _ _ _
      | exact stabchain_permutations.mono _ _ _
      | exact LeO.none _
      | refine LeO.ite ?_ ?_
      | refine LeO.bind ?_ (fun _ => ?_)
set_option maxHeartbeats 8000000 in
set_option maxRecDepth 100000 in
theorem stabchain_arguments.calls (k : Nat) (a0 : Int) (A1 : Option Addr) (c1 : Nat) (l1 : List (List Int)) (r : Int) (w : World) (hr1 : Kd.C (Kd.slice 3 (Kd.int .i64)) w A1 l1.length l1) (hc1 : l1.length ≤ c1) (h : stabchain_arguments.f k a0 l1 = some r) :
    Calls Try.prog 47 #[.int .i64 a0, .slice A1 l1.length c1] w fun e w' => e = .returned (.int .i64 r) ∧ Below w.heap.size w w' := by
  have HR1 := Aside0.mk hr1; have HC1 := Aside0.mk hc1; clear hr1 hc1; have HB := Aside0.mk (Below.refl w.heap.size w); have H : (if a0 < 1 then (stabchain_arguments.j0 k a0 l1 true) else (stabchain_arguments.j0 k a0 l1 (decide (a0 > 512)))) = some r := h; clear h; have HC3 := Aside0.mk H; clear H
  go_enter Try.func47, Try.ntmps47
  go_upto_region 1 with (fail)
  go_cut [10] (fun v10 wc => ∃ (kq : Nat) (x10_2 : Bool), v10 = .bool x10_2 ∧ Aside0 (stabchain_arguments.j0 kq a0 l1 x10_2 = some r) ∧ Aside0 (kq ≤ k) ∧ Aside0 (Below w.heap.size w wc))
  case first =>
    have H := HC3.out; clear HC3
    by_cases c4 : a0 < 1
    · rw [if_pos c4] at H
      have c4b0 : decide (a0 < 1) = true := decide_eq_true c4; clear c4
      (first | rw [c4b0] | (simp only [i64_w, i32_w]; rw [c4b0]) | skip)
      have H' := Aside0.mk H; clear H
      go_wp2
      go_meet
      case rel => exact ⟨_, (true), (by first | rfl | (simp; done) | (simp [*]; done)), H', ⟨by first | omega | exact Nat.le_refl _⟩, ⟨by repeat (first | (with_reducible first | exact HB.out | apply below_alloc | apply pw_below_drewN | apply below_drew1) | exact HB.out)⟩⟩
    · rw [if_neg c4] at H
      have c4b0 : decide (a0 < 1) = false := decide_eq_false c4; clear c4
      (first | rw [c4b0] | (simp only [i64_w, i32_w]; rw [c4b0]) | skip)
      have H' := Aside0.mk H; clear H
      go_wp2
      go_meet
      case rel => exact ⟨_, (decide (a0 > 512)), (by first | rfl | (simp; done) | (simp [*]; done)), H', ⟨by first | omega | exact Nat.le_refl _⟩, ⟨by repeat (first | (with_reducible first | exact HB.out | apply below_alloc | apply pw_below_drewN | apply below_drew1) | exact HB.out)⟩⟩
  case rest =>
    clear HC3
    try clear c1
    try clear p2
    try clear c4
    try clear c4b0
    obtain ⟨kq, x10_2, rfl, HA, HJ2, HB⟩ := hcut; cases kq with
    | zero => exact absurd HA.out (by simp [stabchain_arguments.j0])
    | succ kj2 =>
      have H := HA.out; clear HA
      simp only [stabchain_arguments.j0] at H
      by_cases c5 : x10_2 = true
      · subst c5
        have H1 : (some 1) = some r := by rw [if_pos rfl] at H; exact H
        clear H; have H := H1; clear H1; obtain rfl := Option.some.inj H
        go_wp2
        go_ret
        exact ⟨by first | rfl | (simp [errW_none, errW_some] <;> rfl) | (simp [*, errW_none, errW_some] <;> rfl), by repeat (first | (with_reducible first | exact HB.out | apply below_alloc | apply pw_below_drewN | apply below_drew1) | exact HB.out)⟩
      · replace c5 := Bool.eq_false_iff.mpr c5
        subst c5
        have H1 : (if (l1.length : Int) > 64 then (some 7) else ((stabchain_permutations.f kj2 a0 l1).bind fun t114 => (if t114 = true then (some 0) else (some 3)))) = some r := by rw [if_neg (show ¬ (false = true) by decide)] at H; exact H
        clear H; have H := H1; clear H1
        by_cases c6 : (l1.length : Int) > 64
        · rw [if_pos c6] at H
          have c6b0 : decide (64 < (l1.length : Int)) = true := decide_eq_true c6; have c6b1 : decide (64 < l1.length) = true := decide_eq_true (by omega); clear c6; obtain rfl := Option.some.inj H
          go_wp2
          go_ret
          exact ⟨by first | rfl | (simp [errW_none, errW_some] <;> rfl) | (simp [*, errW_none, errW_some] <;> rfl), by repeat (first | (with_reducible first | exact HB.out | apply below_alloc | apply pw_below_drewN | apply below_drew1) | exact HB.out)⟩
        · rw [if_neg c6] at H
          have c6b0 : decide (64 < (l1.length : Int)) = false := decide_eq_false c6; have c6b1 : decide (64 < l1.length) = false := decide_eq_false (by omega); clear c6; replace H := Option.bind_eq_some_iff.mp H; obtain ⟨t114, A70, H⟩ := H; replace H : (if t114 = true then (some 0) else (some 3)) = some r := H; have A7 := Aside0.mk A70; clear A70
          by_cases c8 : t114 = true
          · subst c8
            have H1 : (some 0) = some r := by rw [if_pos rfl] at H; exact H
            clear H; have H := H1; clear H1; obtain rfl := Option.some.inj H
            go_wp2_with (first | ((with_reducible refine gate_callee (f := 55) rfl ?_); refine goesL_ (some 16) rfl rfl Try.func55 (by kernel_rfl) rfl #[.int .i64 a0, .slice A1 l1.length c1] rfl (by (try simp only [List.map_toArray, List.map_cons, List.map_nil]); first | done | rfl | (simp only [List.length_drop, List.length_take]; rfl)) ?_; (with_reducible refine (stabchain_permutations.calls kj2 a0 _ _ l1 true _ ?side1 ?side2 A7.out).mono ?_); (case side1 => repeat (first | exact (Kd.C_below HR1.out HB.out) | (with_reducible refine Kd.C_alloc ?_ _) | (with_reducible refine Kd.C_drewN ?_ _) | (with_reducible refine Kd.C_drew ?_))); (case side2 => exact HC1.out); rintro e w9 ⟨rfl, hb⟩; refine ⟨_, rfl, ?_⟩; have n0_ := Aside0.mk (below_step (by repeat (first | (with_reducible first | exact HB.out | apply below_alloc | apply pw_below_drewN | apply below_drew1) | exact HB.out)) hb); clear HB; have HB := n0_; clear n0_; (try clear hb); (try clear hb2); (try clear hk); (try clear hi)))
            go_ret
            exact ⟨by first | rfl | (simp [errW_none, errW_some] <;> rfl) | (simp [*, errW_none, errW_some] <;> rfl), by repeat (first | (with_reducible first | exact HB.out | apply below_alloc | apply pw_below_drewN | apply below_drew1) | exact HB.out)⟩
          · replace c8 := Bool.eq_false_iff.mpr c8
            subst c8
            have H1 : (some 3) = some r := by rw [if_neg (show ¬ (false = true) by decide)] at H; exact H
            clear H; have H := H1; clear H1; obtain rfl := Option.some.inj H
            go_wp2_with (first | ((with_reducible refine gate_callee (f := 55) rfl ?_); refine goesL_ (some 16) rfl rfl Try.func55 (by kernel_rfl) rfl #[.int .i64 a0, .slice A1 l1.length c1] rfl (by (try simp only [List.map_toArray, List.map_cons, List.map_nil]); first | done | rfl | (simp only [List.length_drop, List.length_take]; rfl)) ?_; (with_reducible refine (stabchain_permutations.calls kj2 a0 _ _ l1 false _ ?side1 ?side2 A7.out).mono ?_); (case side1 => repeat (first | exact (Kd.C_below HR1.out HB.out) | (with_reducible refine Kd.C_alloc ?_ _) | (with_reducible refine Kd.C_drewN ?_ _) | (with_reducible refine Kd.C_drew ?_))); (case side2 => exact HC1.out); rintro e w10 ⟨rfl, hb⟩; refine ⟨_, rfl, ?_⟩; have n0_ := Aside0.mk (below_step (by repeat (first | (with_reducible first | exact HB.out | apply below_alloc | apply pw_below_drewN | apply below_drew1) | exact HB.out)) hb); clear HB; have HB := n0_; clear n0_; (try clear hb); (try clear hb2); (try clear hk); (try clear hi)))
            go_ret
            exact ⟨by first | rfl | (simp [errW_none, errW_some] <;> rfl) | (simp [*, errW_none, errW_some] <;> rfl), by repeat (first | (with_reducible first | exact HB.out | apply below_alloc | apply pw_below_drewN | apply below_drew1) | exact HB.out)⟩
end Go.Proofs.Ytpkgckccfanchaa.M

namespace Go.Proofs.Ytpkgckccfanchaa.M
open Go.RowKit Go.Proofs.YtpkgckccfanchaaW.PrintWords Go.Proofs.YtpkgckccfanchaaW.PrintLast Go.Proofs.YtpkgckccfanchaaW.PrintMore
open Sims
set_option linter.unusedVariables false
set_option linter.unusedSimpArgs false
def isPB (n : Nat) (p : List Int) : Bool := decide (p.length = n) && p.all (fun x => decide (0 ≤ x ∧ x < n)) && decide p.Nodup
theorem isPB_ok {n : Nat} {p : List Int} (h : isPB n p = true) : IsP n p := by
  simp only [isPB, Bool.and_eq_true, decide_eq_true_eq, List.all_eq_true] at h
  exact ⟨h.1.1, h.1.2, h.2⟩
def okB (n : Int) (gens : List (List Int)) : Bool := decide (1 ≤ n ∧ n ≤ 11) && gens.all (isPB n.toNat) && decide (gens.length < 1000000)
theorem okB_ok {n : Int} {gens : List (List Int)} (h : okB n gens = true) : ∃ m : Nat, n = (m : Int) ∧ 0 < m ∧ m ≤ 11 ∧ (∀ g ∈ gens, IsP m g) ∧ gens.length < 1000000 := by
  simp only [okB, Bool.and_eq_true, decide_eq_true_eq, List.all_eq_true] at h
  obtain ⟨⟨⟨h1, h2⟩, h3⟩, h4⟩ := h
  refine ⟨n.toNat, by omega, by omega, by omega, fun g hg => isPB_ok (h3 g hg), h4⟩
theorem group_len {n : Nat} {gens : List (List Int)} {base : List Int} {ls : List Lv} (hg : ∀ g ∈ gens, IsP n g) (hb : ∀ x ∈ base, 0 ≤ x ∧ x < n) (hbn : base.Nodup) (h : groupF n (n + 1) gens base = some ls) : ls.length ≤ n := by
  obtain ⟨ls', e, h1, _⟩ := group_ok (Nat.le_refl _) hg hb hbn
  rw [e] at h
  cases h
  have := PC_length h1 List.nodup_nil (fun x hx => by simp at hx)
  simpa using this
theorem C_nil_int (w : World) : Kd.C (Kd.int .i64) w none ([] : List Int).length [] := Kd.C_nil _ _
set_option maxRecDepth 100000 in
theorem newGroup_nil {w : World} {A1 : Option Addr} {c1 n : Nat} {gens : List (List Int)} {ls : List Lv} (hn : 0 < n) (hn11 : n ≤ 11) (hr1 : Kd.C (Kd.slice 3 (Kd.int .i64)) w A1 gens.length gens) (hg : ∀ g ∈ gens, IsP n g) (hl : gens.length < 1000000) (h : groupF n (n + 1) gens [] = some ls) :
    Calls Try.prog 48 #[.int .i64 n, .slice A1 gens.length c1, .slice none 0 0] w fun e w' => ∃ g av cs PB, e = .returned (.pointer (some ⟨g, 0, none⟩)) ∧ GrAt w' w.heap.size PB g n av cs ls ∧ PC n [] ls ∧ Below w.heap.size w w' :=
  (newGroup_calls (base := []) (A2 := none) (c2 := 0) hn hn11 hr1 (C_nil_int _) hg (fun x hx => by simp at hx) List.nodup_nil hl h)
def stabchain_Order.f (k : Nat) (a0 : Int) (l1 : List (List Int)) : Option (Bool × List Int × Int) := (stabchain_arguments.f k a0 l1).bind fun e => if e = 0 then (if okB a0 l1 = true then (groupF a0.toNat (a0.toNat + 1) l1 []).bind fun ls => (stabchain_product.f k (lensF ls)).bind fun r => some (r.1, r.2, 0) else none) else some (false, [], e)
theorem stabchain_Order.mono : ∀ a0 a1 k, LeO (stabchain_Order.f k a0 a1) (stabchain_Order.f (k + 1) a0 a1) := by
  intro a0 a1 k
  unfold stabchain_Order.f
  refine LeO.bind (stabchain_arguments.mono a0 a1 k) (fun e => LeO.ite (LeO.ite (LeO.bind (LeO.refl _) (fun ls => LeO.bind (stabchain_product.mono (lensF ls) k) (fun r => LeO.refl _))) (LeO.refl _)) (LeO.refl _))
set_option maxHeartbeats 4000000 in
set_option maxRecDepth 100000 in
theorem stabchain_Order.calls (k : Nat) (a0 : Int) (A1 : Option Addr) (c1 : Nat) (l1 : List (List Int)) (r1 : Bool) (r2 : List Int) (r3 : Int) (w : World) (hr1 : Kd.C (Kd.slice 3 (Kd.int .i64)) w A1 l1.length l1) (hc1 : l1.length ≤ c1) (h : stabchain_Order.f k a0 l1 = some (r1, r2, r3)) :
    Calls Try.prog 15 #[.int .i64 a0, .slice A1 l1.length c1] w fun e w' => ∃ v1_ : Value, e = .returned (.tuple #[.agg #[.bool r1, v1_], .int .i64 r3]) ∧ Kd.V (Kd.int .u32) 98 w' w.heap.size (fun k_ => (w.heap.size ≤ k_)) v1_ r2 ∧ Below w.heap.size w w' := by
  unfold stabchain_Order.f at h
  obtain ⟨e, he, h⟩ := Option.bind_eq_some_iff.1 h
  have HR1 := Aside0.mk hr1
  have HC1 := Aside0.mk hc1
  have HE := Aside0.mk he
  clear hr1 hc1 he
  by_cases h0 : e = 0
  · rw [if_pos h0] at h
    by_cases hok : okB a0 l1 = true
    · rw [if_pos hok] at h
      obtain ⟨m, rfl, hm, hm11, hg, hl⟩ := okB_ok hok
      rw [Int.toNat_natCast] at h
      obtain ⟨ls, hls, h⟩ := Option.bind_eq_some_iff.1 h
      obtain ⟨r, hr, h⟩ := Option.bind_eq_some_iff.1 h
      have h := Option.some.inj h
      simp only [Prod.mk.injEq] at h
      obtain ⟨e1, e2, e3⟩ := h
      subst e1 e2 e3 h0
      have HM := Aside0.mk hm
      have HGN := Aside0.mk hg
      have HLS := Aside0.mk hls
      have HRR := Aside0.mk (show stabchain_product.f k (lensF ls) = some (r.1, r.2) from hr)
      have HLN := Aside0.mk (group_len hg (fun x hx => by simp at hx) List.nodup_nil hls)
      have HL := Aside0.mk hl
      clear hok hm hg hl hls hr
      go_enter Try.func15, Try.ntmps15
      go_wp2_with (first | ((with_reducible refine gate_dst (N := 4) rfl ?_); refine box_event ?hg (N := 4) ?hd (cs := #[.bool false, .slice none 0 0]) (t := 24) ?hr ?_; (case hd => rfl); (case hg => rfl); (case hr => first | (go_simp; done) | (go_simp; rfl)); intro gb hg w5 hbox hb; have GB := Aside0.mk hbox; have HB0 := Aside0.mk hb; have HGB : Aside0 (w.heap.size ≤ gb) := ⟨by rw [hg]; exact Nat.le_refl _⟩; clear hg hbox hb) | (go_at_call 47; (with_reducible refine (stabchain_arguments.calls k (m : Int) A1 c1 l1 0 _ (Kd.C_below HR1.out HB0.out) HC1.out HE.out).mono ?_); rintro e w6 ⟨rfl, hb6⟩; have GB6 := Aside0.mk (blk_below GB.out hb6); have HB6 := Aside0.mk hb6; clear hb6) | (go_at_call 48; (with_reducible refine (newGroup_nil HM.out hm11 (Kd.C_below (Kd.C_below HR1.out HB0.out) HB6.out) HGN.out HL.out HLS.out).mono ?_); rintro e w7 ⟨g, av, cs, PB, rfl, hG, -, hb7⟩; have GB7 := Aside0.mk (blk_below GB6.out hb7); have HG7 := Aside0.mk hG; have HB7 := Aside0.mk hb7; clear hG hb7) | (go_at_call 49; (with_reducible refine (order_calls HG7.out (by have := HLN.out; omega) HRR.out).mono ?_); rintro e w8 ⟨v1, rfl, hV, hb8⟩; obtain ⟨A8, c8, rfl⟩ := Kd.V_slice hV; have GB8 := Aside0.mk (blk_below GB7.out hb8); have hg0 := (blk_cell GB8.out 0).trans (show _ = some (Value.bool false) from rfl); have hg1 := (blk_cell GB8.out 1).trans (show _ = some (Value.slice none 0 0) from rfl); have hg2 := blk_frozen GB8.out 0; have hg3 := blk_frozen GB8.out 1; have HV8 := Aside0.mk hV; have HB8 := Aside0.mk hb8; clear hV hb8))
      have hs0 : w.heap.size ≤ w5.heap.size := HB0.out.size
      have hs5 : w5.heap.size ≤ w6.heap.size := HB6.out.size
      have hs7 : w6.heap.size ≤ w7.heap.size := HB7.out.size
      have hgb : gb < w7.heap.size := blk_lt GB7.out
      refine bodyPost_ret (results_list (rs := [.cell 4 24, .tmp 5]) (vs := [.agg #[.bool r.1, .slice A8 r.2.length c8], .int .i64 0]) rfl (by simp) (Vals.cell gb 24 _ (0, 0) _ rfl (by refine blk_put (cs := #[.bool r.1, .slice none 0 0]) ?_ 1 _ rfl; refine blk_put (cs := #[.bool false, .slice none 0 0]) ?_ 0 _ rfl; exact GB8.out) Try.underlying24 rfl (by kernel_rfl) (Vals.tmp Vals.nil))) rfl ?_
      refine ⟨_, rfl, ?_, ?_⟩
      · exact Kd.V_mono (Kd.V_far (p := ⟨gb, 1, none⟩) (Kd.V_far (p := ⟨gb, 0, none⟩) HV8.out (fun k hk e => by have e2 : k = gb := e; omega) (.bool r.1)) (fun k hk e => by have e2 : k = gb := e; omega) _) (fun k hk => by omega)
      · exact below_set (below_set (below_then (below_then (below_then HB0.out hs0 HB6.out) (Nat.le_trans hs0 hs5) HB7.out) (Nat.le_trans hs0 (Nat.le_trans hs5 hs7)) HB8.out) HGB.out) HGB.out
    · rw [if_neg hok] at h
      cases h
  · rw [if_neg h0] at h
    have h := Option.some.inj h
    simp only [Prod.mk.injEq] at h
    obtain ⟨e1, e2, e3⟩ := h
    subst e1 e2 e3
    go_enter Try.func15, Try.ntmps15
    go_wp2_with (first | ((with_reducible refine gate_dst (N := 4) rfl ?_); refine box_event ?hg (N := 4) ?hd (cs := #[.bool false, .slice none 0 0]) (t := 24) ?hr ?_; (case hd => rfl); (case hg => rfl); (case hr => first | (go_simp; done) | (go_simp; rfl)); intro gb hg w5 hbox hb; have GB := Aside0.mk hbox; have HB0 := Aside0.mk hb; have HGB : Aside0 (w.heap.size ≤ gb) := ⟨by rw [hg]; exact Nat.le_refl _⟩; clear hg hbox hb) | (go_at_call 47; (with_reducible refine (stabchain_arguments.calls k a0 A1 c1 l1 e _ (Kd.C_below HR1.out HB0.out) HC1.out HE.out).mono ?_); rintro e w6 ⟨rfl, hb6⟩; have GB6 := Aside0.mk (blk_below GB.out hb6); have hg0 := (blk_cell GB6.out 0).trans (show _ = some (Value.bool false) from rfl); have hg1 := (blk_cell GB6.out 1).trans (show _ = some (Value.slice none 0 0) from rfl); have hg2 := blk_frozen GB6.out 0; have hg3 := blk_frozen GB6.out 1; have HB6 := Aside0.mk hb6; clear hb6))
    have hs0 : w.heap.size ≤ w5.heap.size := HB0.out.size
    have hgb : gb < w6.heap.size := blk_lt GB6.out
    refine bodyPost_ret (results_list (rs := [.cell 4 24, .tmp 5]) (vs := [.agg #[.bool false, .slice none 0 0], .int .i64 e]) rfl (by simp) (Vals.cell gb 24 _ (0, 0) _ rfl (by refine blk_put (cs := #[.bool false, .slice none 0 0]) ?_ 1 _ rfl; refine blk_put (cs := #[.bool false, .slice none 0 0]) ?_ 0 _ rfl; exact GB6.out) Try.underlying24 rfl (by kernel_rfl) (Vals.tmp Vals.nil))) rfl ?_
    refine ⟨_, rfl, ?_, ?_⟩
    · exact Kd.V_nil _ _ _ _ _
    · exact below_set (below_set (below_then HB0.out hs0 HB6.out) HGB.out) HGB.out
end Go.Proofs.Ytpkgckccfanchaa.M

namespace Go.Proofs.Ytpkgckccfanchaa.M
open Go.RowKit Go.Proofs.YtpkgckccfanchaaW.PrintWords Go.Proofs.YtpkgckccfanchaaW.PrintLast Go.Proofs.YtpkgckccfanchaaW.PrintMore
open Sims
set_option linter.unusedVariables false
set_option linter.unusedSimpArgs false
theorem rdl_swap {n : Nat} {p : List Int} (hp : p.length = n) {i j : Nat} (hi : i < n) (hj : j < n) {x : Int} (h0 : 0 ≤ x) (h1 : x < n) : rdl (swapI p i j) x = rdl p (if x = j then (i : Int) else if x = i then (j : Int) else x) := by
  unfold rdl swapI
  obtain ⟨y, rfl⟩ := Int.eq_ofNat_of_zero_le h0
  simp only [Int.toNat_natCast, List.getD_eq_getElem?_getD]
  by_cases e1 : y = j
  · subst e1
    rw [if_pos rfl, List.getElem?_set_self (by simp; omega)]
    simp
  · rw [if_neg (by omega), List.getElem?_set_ne (fun e => e1 e.symm)]
    by_cases e2 : y = i
    · subst e2
      rw [if_pos rfl, List.getElem?_set_self (by omega)]
      simp
    · rw [if_neg (by omega), List.getElem?_set_ne (fun e => e2 e.symm)]
      simp
theorem swapI_isP {n : Nat} {p : List Int} (hp : IsP n p) {i j : Nat} (hi : i < n) (hj : j < n) : IsP n (swapI p i j) := by
  have hr : ∀ x : Int, 0 ≤ x → x < n → 0 ≤ (if x = j then (i : Int) else if x = i then (j : Int) else x) ∧ (if x = j then (i : Int) else if x = i then (j : Int) else x) < n := by
    intro x h0 h1
    split
    · omega
    · split <;> omega
  refine IsP.mk' (by rw [swapI_length, hp.len]) (fun x h0 h1 => ?_) (fun x y h0 h1 k0 k1 e => ?_)
  · rw [rdl_swap hp.len hi hj h0 h1]
    exact hp.rd (hr x h0 h1).1 (hr x h0 h1).2
  · rw [rdl_swap hp.len hi hj h0 h1, rdl_swap hp.len hi hj k0 k1] at e
    have e2 := hp.inj (hr x h0 h1).1 (hr x h0 h1).2 (hr y k0 k1).1 (hr y k0 k1).2 e
    split at e2 <;> split at e2 <;> (try split at e2) <;> (try split at e2) <;> omega
theorem permPick_le (l : List Int) (a i : Nat) : permPick l a i ≤ i := by unfold permPick; omega
theorem permLoop_isP {n : Nat} (l : List Int) : ∀ (i a : Nat) (out : List Int), i < n → IsP n out → IsP n (permLoop l i a out)
  | 0, _, _, _, h => h
  | i + 1, a, out, hi, h => permLoop_isP l i (a + 1) _ (by omega) (swapI_isP h hi (by have := permPick_le l a (i + 1); omega))
theorem tapeAt_lt (l : List Int) (a : Nat) {n : Nat} (hn : 0 < n) : tapeAt l a n < n := by
  have := tape_lt l a hn
  unfold tapeAt
  omega
theorem fewI_isP {n : Nat} (hn : 0 < n) (l : List Int) : ∀ k, IsP n (fewI l n k)
  | 0 => oneL_isP n
  | k + 1 => swapI_isP (fewI_isP hn l k) (tapeAt_lt l _ hn) (tapeAt_lt l _ hn)
theorem genI_isP {n : Nat} (hn : 0 < n) (b : Bool) (l : List Int) : IsP n (genI b n l) := by
  unfold genI
  split
  · exact fewI_isP hn l 2
  · exact permLoop_isP l (n - 1) 0 _ (by omega) (oneL_isP n)
theorem has_fin : ∀ m : Fin 256, ∀ y : Fin 8, permutation_set_has.f (m.val : Int) 0 0 0 0 0 0 0 (y.val : Int) = some (m.val.testBit y.val) := by decide +kernel
theorem or8_fin : ∀ m : Fin 256, ∀ y : Fin 8, or8 (y.val : Int) 0 (m.val : Int) = ((m.val ||| 2 ^ y.val : Nat) : Int) := by decide +kernel
theorem with_fin (m : Fin 256) (y : Fin 8) : permutation_set_with.f (m.val : Int) 0 0 0 0 0 0 0 (y.val : Int) = some (((m.val ||| 2 ^ y.val : Nat) : Int), 0, 0, 0, 0, 0, 0, 0) := by
  have hy := y.isLt
  have e : ((y.val : Int) / 64).toNat = 0 := by omega
  unfold permutation_set_with.f
  rw [if_pos ⟨by omega, by omega⟩, or8_fin m y]
  simp [or8, e]
theorem valid_go {n : Nat} (hn : 0 < n) (h8 : n ≤ 8) {p : List Int} (hp : IsP n p) : ∀ (d i m k : Nat), i + d = n → d + 1 ≤ k → m < 256 → (∀ y : Nat, y < 8 → m.testBit y = decide ((y : Int) ∈ p.take i)) →
    permutation_Valid.l0 k p p (p.length : Int) (i : Int) (m : Int) 0 0 0 0 0 0 0 = some true
  | d, i, m, 0, _, hk, _, _ => by omega
  | 0, i, m, k + 1, hi, hk, hm, hs => by
    unfold permutation_Valid.l0
    rw [if_neg (by rw [hp.len]; omega), hp.len]
    congr 1
    simp; omega
  | d + 1, i, m, k + 1, hi, hk, hm, hs => by
    have hl := hp.len
    obtain ⟨h0, h1⟩ := hp.rd (x := (i : Int)) (by omega) (by omega)
    obtain ⟨y, hy⟩ : ∃ y : Nat, rdl p (i : Int) = y := ⟨(rdl p i).toNat, by omega⟩
    have hpi : p[i]? = some (y : Int) := by
      rw [← hy, rdl_eq (by omega) (by omega)]
      simp only [Int.toNat_natCast]
      exact List.getElem?_eq_getElem _
    have hnot : ¬ ((y : Int) ∈ p.take i) := by
      intro hm2
      obtain ⟨j, hj, e⟩ := List.getElem_of_mem hm2
      have hj2 : j < i := by simp at hj; omega
      rw [List.getElem_take] at e
      obtain ⟨q1, q2⟩ := List.getElem?_eq_some_iff.1 hpi
      have := nodup_inj hp.nd (by omega) q1 (e.trans q2.symm)
      omega
    have hy8 : y < 8 := by omega
    have e1 := has_fin ⟨m, hm⟩ ⟨y, hy8⟩
    have e2 := with_fin ⟨m, hm⟩ ⟨y, hy8⟩
    simp only at e1 e2
    rw [hs y hy8, decide_eq_false hnot] at e1
    unfold permutation_Valid.l0
    rw [if_pos (by rw [hl]; omega), if_pos (by omega), if_pos (by rw [hl]; omega), if_neg (by rw [hl]; omega), rd_rdl, hy, if_neg (by omega), if_neg (by rw [hl]; omega), e1, Option.bind_some, if_neg (by simp), e2, Option.bind_some]
    have hw : wrap64 ((i : Int) + 1) = ((i + 1 : Nat) : Int) := by unfold wrap64; omega
    rw [hw]
    refine valid_go hn h8 hp d (i + 1) _ k (by omega) (by omega) ?_ ?_
    · exact Nat.or_lt_two_pow (n := 8) hm (Nat.pow_lt_pow_right (by omega) hy8)
    · intro z hz
      rw [Nat.testBit_or, hs z hz, Nat.testBit_two_pow]
      obtain ⟨q1, q2⟩ := List.getElem?_eq_some_iff.1 hpi
      rw [List.take_succ_eq_append_getElem q1, q2]
      by_cases h3 : (z : Int) ∈ p.take i
      · simp [h3]
      · by_cases h4 : y = z
        · subst h4; simp
        · have : (z : Int) ≠ (y : Int) := by omega
          simp [h3, h4, this]
theorem valid_ok {n : Nat} (hn : 0 < n) (h8 : n ≤ 8) {p : List Int} (hp : IsP n p) {k : Nat} (hk : 9 ≤ k) : permutation_Valid.f k p = some true := by
  unfold permutation_Valid.f
  exact valid_go hn h8 hp n 0 0 k (by omega) (by omega) (by omega) (fun y _ => by simp)
theorem perms_go {n : Nat} (hn : 0 < n) (h8 : n ≤ 8) {gens : List (List Int)} (hg : ∀ g ∈ gens, IsP n g) (hl : gens.length < 1000000) : ∀ (d i k : Nat), i + d = gens.length → d + 10 ≤ k → stabchain_permutations.l0 k (n : Int) gens (gens.length : Int) (i : Int) = some true
  | d, i, 0, _, hk => by omega
  | 0, i, k + 1, hi, hk => by
    unfold stabchain_permutations.l0
    rw [if_neg (by omega)]
  | d + 1, i, k + 1, hi, hk => by
    have hil : i < gens.length := by omega
    have e : rd_L1 gens (i : Int) = gens[i] := by simp [rd_L1, List.getD_eq_getElem?_getD, hil]
    have hp := hg _ (List.getElem_mem hil)
    unfold stabchain_permutations.l0
    rw [if_pos (by omega), if_pos (by omega), if_pos (by omega), e, if_pos (by rw [hp.len]), valid_ok hn h8 hp (by omega), Option.bind_some, if_pos rfl]
    have hw : wrap64 ((i : Int) + 1) = ((i + 1 : Nat) : Int) := by unfold wrap64; omega
    rw [hw]
    exact perms_go hn h8 hg hl d (i + 1) k (by omega) (by omega)
theorem perms_ok {n : Nat} (hn : 0 < n) (h8 : n ≤ 8) {gens : List (List Int)} (hg : ∀ g ∈ gens, IsP n g) (hl : gens.length < 1000000) {k : Nat} (hk : gens.length + 10 ≤ k) : stabchain_permutations.f k (n : Int) gens = some true := by
  unfold stabchain_permutations.f
  exact perms_go hn h8 hg hl gens.length 0 k (by omega) hk
theorem args_ok {n : Nat} (hn : 0 < n) (h8 : n ≤ 8) {gens : List (List Int)} (hg : ∀ g ∈ gens, IsP n g) (hl : gens.length ≤ 64) {k : Nat} (hk : gens.length + 11 ≤ k) : stabchain_arguments.f k (n : Int) gens = some 0 := by
  obtain ⟨k, rfl⟩ : ∃ j, k = j + 1 := ⟨k - 1, by omega⟩
  unfold stabchain_arguments.f
  rw [if_neg (by omega)]
  rw [stabchain_arguments.j0]
  rw [if_neg (by simp; omega), if_neg (by omega), perms_ok hn h8 hg (by omega) (by omega)]
  rfl
theorem okB_mk {n : Nat} (hn : 0 < n) (h11 : n ≤ 11) {gens : List (List Int)} (hg : ∀ g ∈ gens, IsP n g) (hl : gens.length < 1000000) : okB (n : Int) gens = true := by
  simp only [okB, isPB, Bool.and_eq_true, decide_eq_true_eq, List.all_eq_true, Int.toNat_natCast]
  exact ⟨⟨⟨by omega, by omega⟩, fun g hg' => ⟨⟨(hg g hg').len, (hg g hg').rng⟩, (hg g hg').nd⟩⟩, hl⟩
end Go.Proofs.Ytpkgckccfanchaa.M

namespace Go.Proofs.Ytpkgckccfanchaa.M
open Go.RowKit Go.Proofs.YtpkgckccfanchaaW.PrintWords Go.Proofs.YtpkgckccfanchaaW.PrintLast Go.Proofs.YtpkgckccfanchaaW.PrintMore
attribute [local go_sem] max2_int min2_int max_two min_two max_three min_three max_four min_four
set_option linter.unusedVariables false
set_option linter.unusedSimpArgs false
def quadformref01_trim.f (l0 : List Int) : Option (List Int) := if l0.length < 35184372088832 then some (trimZ l0) else none
theorem quadformref01_trim.calls (A0 : Option Addr) (c0 : Nat) (l0 : List Int) (r : List Int) (w : World) (hr0 : Kd.C (Kd.int .u32) w A0 l0.length l0) (hc0 : l0.length ≤ c0) (h : quadformref01_trim.f l0 = some r) :
    Calls Try.prog 61 #[.slice A0 l0.length c0] w fun e w' => ∃ v0_ : Value, e = .returned (v0_) ∧ Kd.R (Kd.int .u32) 98 w' w.heap.size (fun _ => True) v0_ r ∧ Below w.heap.size w w' := by
  have hl : l0.length < 35184372088832 := by unfold quadformref01_trim.f at h; split at h <;> simp_all
  have hr : trimZ l0 = r := by unfold quadformref01_trim.f at h; rw [if_pos hl] at h; exact Option.some.inj h
  clear h; have HR0 := Aside0.mk hr0; clear hr0; have H := Aside0.mk hr; clear hr
  go_enter Try.func61, Try.ntmps61
  go_wp2
  go_loop [3] (fun v => ∃ k : Nat, k ≤ l0.length ∧ v = .int .i64 k ∧ Aside0 (trimZ (l0.take k) = r)) (fun v => (intOf v).toNat)
  case atStart => exact ⟨l0.length, Nat.le_refl _, rfl, ⟨by rw [List.take_length]; exact H.out⟩⟩
  case round =>
    obtain ⟨k, hk, rfl, HE⟩ := hrel
    by_cases h0 : 0 < k
    · obtain ⟨k, rfl⟩ : ∃ j, k = j + 1 := ⟨k - 1, by omega⟩
      obtain ⟨ad, e1, hx⟩ := Kd.at_int HR0.out (k : Int) (by omega) (by omega); cases e1
      simp only [Int.toNat_natCast] at hx
      have ht := take_snoc_rd l0 k hk
      by_cases hz : rd l0 (k : Int) = 0
      · have hz0 : (rd l0 (k : Int) == 0) = true := by simp [hz]
        have HE2 : Aside0 (trimZ (l0.take k) = r) := ⟨by have := HE.out; rw [ht, hz, trimZ_snoc0] at this; exact this⟩
        clear HE ht hz
        go_wp2
        exact ⟨⟨k, by omega, rfl, HE2⟩, by simp [intOf]⟩
      · have hz0 : (rd l0 (k : Int) == 0) = false := by simp [hz]
        have HE2 : Aside0 (l0.take (k + 1) = r) := ⟨by have := HE.out; rw [ht, trimZ_snoc _ _ hz, ← ht] at this; exact this⟩
        clear HE ht hz; obtain ⟨i0, hi, hz0', hz1, hz2⟩ := info_parts info98; obtain ⟨hrun, hcut, hcl⟩ := print_take_int (P := Try.prog) (k := .u32) 22 98 Try.underlying22 hi hz1 (some ad) c0 l0 ((k : Int) + 1) (by omega) (by omega) hc0
        have e2 : ((k : Int) + 1).toNat = k + 1 := by omega
        rw [e2] at hrun hcut hcl
        clear e2; have hC := hcut w (Kd.reads_of_C HR0.out)
        rw [HE2.out] at hrun hC hcl
        have hrl : r.length ≤ l0.length := by rw [← HE2.out, List.length_take]; omega
        have HC := Aside0.mk hC; clear hC hcut HE2 hi hz0' hz1 hz2 H h0
        go_wp2_with ((with_reducible refine gate_builtin (b := .append) (xs := #[.const (.slice none 0 0), .tmp 20]) rfl ?_); at_builtin; go_must (refine Kd.R_append_row (Value.int .u32) 0 (h1 := fun _ => rfl) (w0 := w) w.heap.size rfl (.const (.slice none 0 0)) (.tmp 20) 22 98 (.int .u32 0) 4 rfl Try.underlying22 info98 rfl (by decide) (.slice none 0 0) [] r (some ad) _ c0 (fun _ => True) rfl rfl (fun _ _ => trivial) (Kd.R_nil _ _ _ _ _) ?c1 (Below.refl _ _) (Nat.le_refl _) ?c2 ?_); (case c1 => exact Kd.C_of_reads HC.out); (case c2 => (simp only [List.length_nil]; omega)); intro v1 w1 hown hb hg hat)
        go_ret
        exact ⟨_, rfl, hown, hb⟩
    · obtain rfl : k = 0 := by omega
      have HE2 : Aside0 (l0.take 0 = r) := ⟨by have := HE.out; simpa [trimZ_nil] using this⟩
      clear HE; obtain ⟨i0, hi, hz0', hz1, hz2⟩ := info_parts info98; obtain ⟨hrun, hcut, hcl⟩ := print_take_int (P := Try.prog) (k := .u32) 22 98 Try.underlying22 hi hz1 A0 c0 l0 (0 : Int) (by omega) (by omega) hc0
      have e2 : (0 : Int).toNat = 0 := by omega
      rw [e2] at hrun hcut hcl
      clear e2; have hC := hcut w (Kd.reads_of_C HR0.out)
      rw [HE2.out] at hrun hC hcl
      have hrl : r.length ≤ l0.length := by rw [← HE2.out, List.length_take]; omega
      have HC := Aside0.mk hC; clear hC hcut HE2 hi hz0' hz1 hz2 H h0
      go_wp2_with ((with_reducible refine gate_builtin (b := .append) (xs := #[.const (.slice none 0 0), .tmp 20]) rfl ?_); at_builtin; go_must (refine Kd.R_append_row (Value.int .u32) 0 (h1 := fun _ => rfl) (w0 := w) w.heap.size rfl (.const (.slice none 0 0)) (.tmp 20) 22 98 (.int .u32 0) 4 rfl Try.underlying22 info98 rfl (by decide) (.slice none 0 0) [] r A0 _ c0 (fun _ => True) rfl rfl (fun _ _ => trivial) (Kd.R_nil _ _ _ _ _) ?c1 (Below.refl _ _) (Nat.le_refl _) ?c2 ?_); (case c1 => exact Kd.C_of_reads HC.out); (case c2 => (simp only [List.length_nil]; omega)); intro v1 w1 hown hb hg hat)
      go_ret
      exact ⟨_, rfl, hown, hb⟩
end Go.Proofs.Ytpkgckccfanchaa.M

namespace Go.Proofs.Ytpkgckccfanchaa.M
open Go.RowKit Go.Proofs.YtpkgckccfanchaaW.PrintWords Go.Proofs.YtpkgckccfanchaaW.PrintLast Go.Proofs.YtpkgckccfanchaaW.PrintMore
attribute [local go_sem] max2_int min2_int max_two min_two max_three min_three max_four min_four
set_option linter.unusedVariables false
set_option linter.unusedSimpArgs false
def quadformref01_Make.f (a0 : Bool) (l1 : List Int) : Option (Bool × List Int) := (quadformref01_trim.f l1).bind fun t187 => (if a0 = true then (some (decide (0 < t187.length), t187)) else (some (false, t187)))
set_option maxHeartbeats 8000000 in
set_option maxRecDepth 100000 in
theorem quadformref01_Make.calls (a0 : Bool) (A1 : Option Addr) (c1 : Nat) (l1 : List Int) (r1 : Bool) (r2 : List Int) (w : World) (hr1 : Kd.C (Kd.int .u32) w A1 l1.length l1) (hc1 : l1.length ≤ c1) (h : quadformref01_Make.f a0 l1 = some (r1, r2)) :
    Calls Try.prog 67 #[.bool a0, .slice A1 l1.length c1] w fun e w' => ∃ v1_ : Value, e = .returned (.agg #[.bool r1, v1_]) ∧ Kd.R (Kd.int .u32) 98 w' w.heap.size (fun _ => True) v1_ r2 ∧ Below w.heap.size w w' := by
  have hu24 := Try.underlying24; have HR1 := Aside0.mk hr1; have HC1 := Aside0.mk hc1; clear hr1 hc1; have HB := Aside0.mk (Below.refl w.heap.size w); have H : ((quadformref01_trim.f l1).bind fun t187 => (if a0 = true then (some (decide (0 < t187.length), t187)) else (some (false, t187)))) = some (r1, r2) := h; clear h; replace H := Option.bind_eq_some_iff.mp H; obtain ⟨t187, A30, H⟩ := H; replace H : (if a0 = true then (some (decide (0 < t187.length), t187)) else (some (false, t187))) = some (r1, r2) := H; have A3 := Aside0.mk A30; clear A30
  by_cases c4 : a0 = true
  · subst c4
    have H1 : (some (decide (0 < t187.length), t187)) = some (r1, r2) := by rw [if_pos rfl] at H; exact H
    clear H; have H := H1; clear H1
    simp only [Option.some.injEq, Prod.mk.injEq] at H
    obtain ⟨rfl, rfl⟩ := H
    go_enter Try.func67, Try.ntmps67
    go_wp2_with (first | ((with_reducible refine gate_dst (N := 4) rfl ?_); (try (refine gate_guard (by rfl) ?_; dsimp only)); refine box_event ?hg (N := 4) ?hd (cs := #[.bool false, .slice none 0 0]) (t := 24) ?hr ?_; (case hd => rfl); (case hg => rfl); (case hr => first | (go_simp; done) | (go_simp; rfl)); intro gb186 hg w5 hbox hb; have n0_ := Aside0.mk (below_step (by repeat (first | (with_reducible first | exact HB.out | apply below_alloc | apply pw_below_drewN | apply below_drew1) | exact HB.out)) hb); have n1_ := Aside0.mk (hbox); have n2_ := Aside0.mk ((by rw [hg]; exact (below_size (by repeat (first | (with_reducible first | exact HB.out | apply below_alloc | apply pw_below_drewN | apply below_drew1) | exact HB.out))) : w.heap.size ≤ gb186)); have n3_ := Aside0.mk ((by rw [hg]; exact (below_size (by repeat (first | (with_reducible first | exact HB.out | apply below_alloc | apply pw_below_drewN | apply below_drew1) | exact HB.out))) : w.heap.size ≤ gb186)); clear HB; have HB := n0_; have BK186 := n1_; have GW186 := n2_; have GE186 := n3_; clear n0_ n1_ n2_ n3_; clear hb hbox hg) | ((with_reducible refine gate_callee (f := 61) rfl ?_); refine goesL_ (some 7) rfl rfl Try.func61 (by kernel_rfl) rfl #[.slice A1 l1.length c1] rfl (by (try simp only [List.map_toArray, List.map_cons, List.map_nil]); first | done | rfl | (simp only [List.length_drop, List.length_take]; rfl)) ?_; (with_reducible refine (quadformref01_trim.calls _ _ l1 t187 _ ?side1 ?side2 A3.out).mono ?_); (case side1 => repeat (first | exact (Kd.C_below HR1.out HB.out) | (with_reducible refine Kd.C_alloc ?_ _) | (with_reducible refine Kd.C_drewN ?_ _) | (with_reducible refine Kd.C_drew ?_))); (case side2 => exact HC1.out); rintro e w6 ⟨v188, rfl, ho0, hb⟩; refine ⟨_, rfl, ?_⟩; have n0_ := Aside0.mk (Kd.R_lower ho0 (below_size (by repeat (first | (with_reducible first | exact HB.out | apply below_alloc | apply pw_below_drewN | apply below_drew1 | refine below_set ?_ GE186.out) | exact HB.out)))); have n1_ := Aside0.mk (blk_below (g := gb186) (o := .cells #[.bool false, .slice none 0 0] 24 (0, 0)) (by (with_reducible repeat (first | refine blk_drewN ?_ _ | refine blk_drew ?_ | refine blk_alloc ?_ _)); exact BK186.out) hb); have n2_ := Aside0.mk (below_step (by repeat (first | (with_reducible first | exact HB.out | apply below_alloc | apply pw_below_drewN | apply below_drew1 | refine below_set ?_ GE186.out) | exact HB.out)) hb); clear BK186; clear HB; have HO189 := n0_; have BK186 := n1_; have HB := n2_; clear n0_ n1_ n2_; (try clear hb); (try clear hb2); (try clear hk); (try clear hi); (try clear ho0); obtain ⟨Ao7, co7, eo7⟩ := Kd.R_slice HO189.out; subst eo7; have hcz8_0 : w6.cell? ⟨gb186, 0, none⟩ = some (.bool false) := (blk_cell BK186.out 0).trans rfl; have hcz8_1 : w6.cell? ⟨gb186, 1, none⟩ = some (.slice none 0 0) := (blk_cell BK186.out 1).trans rfl; have hfz8_0 := blk_frozen BK186.out 0; have hfz8_1 := blk_frozen BK186.out 1))
    refine bodyPost_ret (results_cell_row rfl _ _ gb186 24 #[.bool (decide (0 < t187.length)), .slice Ao7 t187.length co7] (0, 0) _ rfl (by (with_reducible repeat (first | refine blk_drewN ?_ _ | refine blk_drew ?_ | refine blk_alloc ?_ _)); refine blk_put (cs := #[.bool (decide (0 < t187.length)), .slice none 0 0]) ?_ 1 _ rfl; (with_reducible repeat (first | refine blk_drewN ?_ _ | refine blk_drew ?_ | refine blk_alloc ?_ _)); refine blk_put (cs := #[.bool false, .slice none 0 0]) ?_ 0 _ rfl; (with_reducible repeat (first | refine blk_drewN ?_ _ | refine blk_drew ?_ | refine blk_alloc ?_ _)); exact BK186.out) Try.underlying24 rfl (by kernel_rfl)) rfl ?_
    exact ⟨_, by first | rfl | (simp [errW_none, errW_some] <;> rfl) | (simp [*, errW_none, errW_some] <;> rfl), by (with_reducible repeat (first | apply Kd.R_alloc | apply Kd.R_drewN | apply Kd.R_drew)); exact Kd.R_mono (Kd.R_far (p := ⟨gb186, 1, none⟩) (Kd.R_far (p := ⟨gb186, 0, none⟩) (Kd.R_types HO189.out BK186.out (by decide)) (fun _ hk => hk.2) (.bool (decide (0 < t187.length)))) (fun _ hk => hk.2) (.slice Ao7 t187.length co7)) (fun _ hk => trivial), by repeat (first | (with_reducible first | exact HB.out | apply below_alloc | apply pw_below_drewN | apply below_drew1 | refine below_set ?_ GE186.out) | exact HB.out)⟩
  · replace c4 := Bool.eq_false_iff.mpr c4
    subst c4
    have H1 : (some (false, t187)) = some (r1, r2) := by rw [if_neg (show ¬ (false = true) by decide)] at H; exact H
    clear H; have H := H1; clear H1
    simp only [Option.some.injEq, Prod.mk.injEq] at H
    obtain ⟨rfl, rfl⟩ := H
    go_enter Try.func67, Try.ntmps67
    go_wp2_with (first | ((with_reducible refine gate_dst (N := 4) rfl ?_); (try (refine gate_guard (by rfl) ?_; dsimp only)); refine box_event ?hg (N := 4) ?hd (cs := #[.bool false, .slice none 0 0]) (t := 24) ?hr ?_; (case hd => rfl); (case hg => rfl); (case hr => first | (go_simp; done) | (go_simp; rfl)); intro gb186 hg w9 hbox hb; have n0_ := Aside0.mk (below_step (by repeat (first | (with_reducible first | exact HB.out | apply below_alloc | apply pw_below_drewN | apply below_drew1) | exact HB.out)) hb); have n1_ := Aside0.mk (hbox); have n2_ := Aside0.mk ((by rw [hg]; exact (below_size (by repeat (first | (with_reducible first | exact HB.out | apply below_alloc | apply pw_below_drewN | apply below_drew1) | exact HB.out))) : w.heap.size ≤ gb186)); have n3_ := Aside0.mk ((by rw [hg]; exact (below_size (by repeat (first | (with_reducible first | exact HB.out | apply below_alloc | apply pw_below_drewN | apply below_drew1) | exact HB.out))) : w.heap.size ≤ gb186)); clear HB; have HB := n0_; have BK186 := n1_; have GW186 := n2_; have GE186 := n3_; clear n0_ n1_ n2_ n3_; clear hb hbox hg) | ((with_reducible refine gate_callee (f := 61) rfl ?_); refine goesL_ (some 7) rfl rfl Try.func61 (by kernel_rfl) rfl #[.slice A1 l1.length c1] rfl (by (try simp only [List.map_toArray, List.map_cons, List.map_nil]); first | done | rfl | (simp only [List.length_drop, List.length_take]; rfl)) ?_; (with_reducible refine (quadformref01_trim.calls _ _ l1 t187 _ ?side1 ?side2 A3.out).mono ?_); (case side1 => repeat (first | exact (Kd.C_below HR1.out HB.out) | (with_reducible refine Kd.C_alloc ?_ _) | (with_reducible refine Kd.C_drewN ?_ _) | (with_reducible refine Kd.C_drew ?_))); (case side2 => exact HC1.out); rintro e w10 ⟨v188, rfl, ho0, hb⟩; refine ⟨_, rfl, ?_⟩; have n0_ := Aside0.mk (Kd.R_lower ho0 (below_size (by repeat (first | (with_reducible first | exact HB.out | apply below_alloc | apply pw_below_drewN | apply below_drew1 | refine below_set ?_ GE186.out) | exact HB.out)))); have n1_ := Aside0.mk (blk_below (g := gb186) (o := .cells #[.bool false, .slice none 0 0] 24 (0, 0)) (by (with_reducible repeat (first | refine blk_drewN ?_ _ | refine blk_drew ?_ | refine blk_alloc ?_ _)); exact BK186.out) hb); have n2_ := Aside0.mk (below_step (by repeat (first | (with_reducible first | exact HB.out | apply below_alloc | apply pw_below_drewN | apply below_drew1 | refine below_set ?_ GE186.out) | exact HB.out)) hb); clear BK186; clear HB; have HO189 := n0_; have BK186 := n1_; have HB := n2_; clear n0_ n1_ n2_; (try clear hb); (try clear hb2); (try clear hk); (try clear hi); (try clear ho0); obtain ⟨Ao11, co11, eo11⟩ := Kd.R_slice HO189.out; subst eo11; have hcz12_0 : w10.cell? ⟨gb186, 0, none⟩ = some (.bool false) := (blk_cell BK186.out 0).trans rfl; have hcz12_1 : w10.cell? ⟨gb186, 1, none⟩ = some (.slice none 0 0) := (blk_cell BK186.out 1).trans rfl; have hfz12_0 := blk_frozen BK186.out 0; have hfz12_1 := blk_frozen BK186.out 1))
    refine bodyPost_ret (results_cell_row rfl _ _ gb186 24 #[.bool false, .slice Ao11 t187.length co11] (0, 0) _ rfl (by (with_reducible repeat (first | refine blk_drewN ?_ _ | refine blk_drew ?_ | refine blk_alloc ?_ _)); refine blk_put (cs := #[.bool false, .slice none 0 0]) ?_ 1 _ rfl; (with_reducible repeat (first | refine blk_drewN ?_ _ | refine blk_drew ?_ | refine blk_alloc ?_ _)); refine blk_put (cs := #[.bool false, .slice none 0 0]) ?_ 0 _ rfl; (with_reducible repeat (first | refine blk_drewN ?_ _ | refine blk_drew ?_ | refine blk_alloc ?_ _)); exact BK186.out) Try.underlying24 rfl (by kernel_rfl)) rfl ?_
    exact ⟨_, by first | rfl | (simp [errW_none, errW_some] <;> rfl) | (simp [*, errW_none, errW_some] <;> rfl), by (with_reducible repeat (first | apply Kd.R_alloc | apply Kd.R_drewN | apply Kd.R_drew)); exact Kd.R_mono (Kd.R_far (p := ⟨gb186, 1, none⟩) (Kd.R_far (p := ⟨gb186, 0, none⟩) (Kd.R_types HO189.out BK186.out (by decide)) (fun _ hk => hk.2) (.bool false)) (fun _ hk => hk.2) (.slice Ao11 t187.length co11)) (fun _ hk => trivial), by repeat (first | (with_reducible first | exact HB.out | apply below_alloc | apply pw_below_drewN | apply below_drew1 | refine below_set ?_ GE186.out) | exact HB.out)⟩
end Go.Proofs.Ytpkgckccfanchaa.M

namespace Go.Proofs.Ytpkgckccfanchaa.M
open Go.RowKit Go.Proofs.YtpkgckccfanchaaW.PrintWords Go.Proofs.YtpkgckccfanchaaW.PrintLast Go.Proofs.YtpkgckccfanchaaW.PrintMore
attribute [local go_sem] max2_int min2_int max_two min_two max_three min_three max_four min_four
set_option linter.unusedVariables false
set_option linter.unusedSimpArgs false
def quadformref01_word.f (a0 : Bool) (a1 : Int) : Option (Bool × List Int) := (quadformref01_Make.f a0 (([(a1) % 4294967296, (a1 / 4294967296) % 4294967296] : List Int))).bind fun bt194 => (some (bt194.1, bt194.2))
set_option maxHeartbeats 8000000 in
set_option maxRecDepth 100000 in
theorem quadformref01_word.calls (a0 : Bool) (a1 : Int) (r1 : Bool) (r2 : List Int) (w : World) (h : quadformref01_word.f a0 a1 = some (r1, r2)) :
    Calls Try.prog 51 #[.bool a0, .int .u64 a1] w fun e w' => ∃ v1_ : Value, e = .returned (.agg #[.bool r1, v1_]) ∧ Kd.R (Kd.int .u32) 98 w' w.heap.size (fun _ => True) v1_ r2 ∧ Below w.heap.size w w' := by
  have hu24 := Try.underlying24; have HB := Aside0.mk (Below.refl w.heap.size w); have H : ((quadformref01_Make.f a0 (([(a1) % 4294967296, (a1 / 4294967296) % 4294967296] : List Int))).bind fun bt194 => (some (bt194.1, bt194.2))) = some (r1, r2) := h; clear h
  obtain ⟨y191, hy191⟩ : ∃ y_ : List Int, y_ = (([(a1) % 4294967296, (a1 / 4294967296) % 4294967296] : List Int)) := ⟨_, rfl⟩
  replace H : ((quadformref01_Make.f a0 y191).bind fun bt194 => (some (bt194.1, bt194.2))) = some (r1, r2) := by first | (rw [hy191]; with_reducible exact H) | (have H2_ := (Option.bind_some _ _).symm.trans H; rw [hy191]; with_reducible exact H2_) | (have H2_ := (Option.bind_some _ _).symm.trans H; with_reducible exact H2_) | with_reducible exact H | (rw [hy191]; exact H) | exact H
  have Ny191 := Aside0.mk hy191; clear hy191; replace H := Option.bind_eq_some_iff.mp H; obtain ⟨⟨t194, t195⟩, A30, H⟩ := H; replace H : (some (t194, t195)) = some (r1, r2) := H; have A3 := Aside0.mk A30; clear A30
  simp only [Option.some.injEq, Prod.mk.injEq] at H
  obtain ⟨rfl, rfl⟩ := H
  go_enter Try.func51, Try.ntmps51
  go_wp2_with (first | ((with_reducible refine gate_dst (N := 4) rfl ?_); refine box_event ?hg (N := 4) ?hd (cs := #[.bool false, .slice none 0 0]) (t := 24) ?hr ?_; (case hd => rfl); (case hg => rfl); (case hr => first | (go_simp; done) | (go_simp; rfl)); intro gb190 hg w4 hbox hb; have n0_ := Aside0.mk (below_step (by repeat (first | (with_reducible first | exact HB.out | apply below_alloc | apply pw_below_drewN | apply below_drew1) | exact HB.out)) hb); have n1_ := Aside0.mk (hbox); have n2_ := Aside0.mk ((by rw [hg]; exact (below_size (by repeat (first | (with_reducible first | exact HB.out | apply below_alloc | apply pw_below_drewN | apply below_drew1) | exact HB.out))) : w.heap.size ≤ gb190)); have n3_ := Aside0.mk ((by rw [hg]; exact (below_size (by repeat (first | (with_reducible first | exact HB.out | apply below_alloc | apply pw_below_drewN | apply below_drew1) | exact HB.out))) : w.heap.size ≤ gb190)); clear HB; have HB := n0_; have BK190 := n1_; have GW190 := n2_; have GE190 := n3_; clear n0_ n1_ n2_ n3_; clear hb hbox hg) | ((with_reducible refine gate_dst (N := 11) rfl ?_); refine Kd.R_lit (Kd.int .u32) _ 98 ?hg (N := 11) ?hd (xs := ([(a1) % 4294967296, (a1 / 4294967296) % 4294967296] : List Int)) (inner := [.int .u32 ((a1) % 4294967296), .int .u32 ((a1 / 4294967296) % 4294967296)]) (ok := fun _ => True) (okp := fun _ => True) ?hr ?hp (fun _ hk => hk) trivial (Below.refl _ _) (Nat.le_refl _) (by simp) ?_; (case hd => rfl); (case hg => rfl); (case hr => first | (go_simp; done) | (go_simp; rfl)); (case hp => exact (Reps.one (show Kd.M (Kd.int .u32) _ _ _ ((a1) % 4294967296) [.int .u32 ((a1) % 4294967296)] from rfl) (Reps.one (show Kd.M (Kd.int .u32) _ _ _ ((a1 / 4294967296) % 4294967296) [.int .u32 ((a1 / 4294967296) % 4294967296)] from rfl) (Reps.none _ _)))); intro v192 w5 ho6 hb hg_ hnew_; clear hg_ hnew_; (first | rw [← Ny191.out] at ho6 | (simp only [Int.reduceToNat] at ho6; rw [← Ny191.out] at ho6)); have n0_ := Aside0.mk (Kd.R_lower ho6 (below_size (by repeat (first | (with_reducible first | exact HB.out | apply below_alloc | apply pw_below_drewN | apply below_drew1 | refine below_set ?_ GE190.out) | exact HB.out)))); have n1_ := Aside0.mk (blk_below (g := gb190) (o := .cells #[.bool false, .slice none 0 0] 24 (0, 0)) (by (with_reducible repeat (first | refine blk_drewN ?_ _ | refine blk_drew ?_ | refine blk_alloc ?_ _)); exact BK190.out) hb); have n2_ := Aside0.mk (below_step (by repeat (first | (with_reducible first | exact HB.out | apply below_alloc | apply pw_below_drewN | apply below_drew1 | refine below_set ?_ GE190.out) | exact HB.out)) hb); clear BK190; clear HB; have HO193 := n0_; have BK190 := n1_; have HB := n2_; clear n0_ n1_ n2_; clear hb ho6; obtain ⟨Ao7, co7, eo7⟩ := Kd.R_slice HO193.out; subst eo7) | ((with_reducible refine gate_callee (f := 67) rfl ?_); refine goesL_ (some 12) rfl rfl Try.func67 (by kernel_rfl) rfl #[.bool a0, .slice Ao7 y191.length co7] rfl (by (try simp only [List.map_toArray, List.map_cons, List.map_nil]); first | done | rfl | (simp only [List.length_drop, List.length_take]; rfl)) ?_; (with_reducible refine (quadformref01_Make.calls a0 _ _ y191 t194 t195 _ ?side1 ?side2 A3.out).mono ?_); (case side1 => repeat (first | exact (Kd.R_reads' HO193.out).2.2 | (with_reducible refine Kd.C_alloc ?_ _) | (with_reducible refine Kd.C_drewN ?_ _) | (with_reducible refine Kd.C_drew ?_))); (case side2 => exact (Kd.R_reads' HO193.out).2.1); rintro e w8 ⟨v196, rfl, ho0, hb⟩; refine ⟨_, rfl, ?_⟩; have n0_ := Aside0.mk (Kd.R_elder' (by (with_reducible repeat (first | apply Kd.R_alloc | apply Kd.R_drewN | apply Kd.R_drew)); exact HO193.out) (Kd.R_base ho0) hb); have n1_ := Aside0.mk (Kd.R_lower (Kd.R_new' ho0 (Kd.R_lt (by (with_reducible repeat (first | apply Kd.R_alloc | apply Kd.R_drewN | apply Kd.R_drew)); exact HO193.out))) (below_size (by repeat (first | (with_reducible first | exact HB.out | apply below_alloc | apply pw_below_drewN | apply below_drew1 | refine below_set ?_ GE190.out) | exact HB.out)))); have n2_ := Aside0.mk (blk_below (g := gb190) (o := .cells #[.bool false, .slice none 0 0] 24 (0, 0)) (by (with_reducible repeat (first | refine blk_drewN ?_ _ | refine blk_drew ?_ | refine blk_alloc ?_ _)); exact BK190.out) hb); have n3_ := Aside0.mk (below_step (by repeat (first | (with_reducible first | exact HB.out | apply below_alloc | apply pw_below_drewN | apply below_drew1 | refine below_set ?_ GE190.out) | exact HB.out)) hb); clear HO193; clear BK190; clear HB; have HO193 := n0_; have HO197 := n1_; have BK190 := n2_; have HB := n3_; clear n0_ n1_ n2_ n3_; (try clear hb); (try clear hb2); (try clear hk); (try clear hi); (try clear ho0); have hcz9_0 : w8.cell? ⟨gb190, 0, none⟩ = some (.bool false) := (blk_cell BK190.out 0).trans rfl; have hcz9_1 : w8.cell? ⟨gb190, 1, none⟩ = some (.slice none 0 0) := (blk_cell BK190.out 1).trans rfl; have hfz9_0 := blk_frozen BK190.out 0; have hfz9_1 := blk_frozen BK190.out 1; obtain ⟨Ao10, co10, eo10⟩ := Kd.R_slice HO197.out; subst eo10))
  refine bodyPost_ret (results_cell_row rfl _ _ gb190 24 #[.bool t194, .slice Ao10 t195.length co10] (0, 0) _ rfl (by (with_reducible repeat (first | refine blk_drewN ?_ _ | refine blk_drew ?_ | refine blk_alloc ?_ _)); refine blk_put (cs := #[.bool t194, .slice none 0 0]) ?_ 1 _ rfl; (with_reducible repeat (first | refine blk_drewN ?_ _ | refine blk_drew ?_ | refine blk_alloc ?_ _)); refine blk_put (cs := #[.bool false, .slice none 0 0]) ?_ 0 _ rfl; (with_reducible repeat (first | refine blk_drewN ?_ _ | refine blk_drew ?_ | refine blk_alloc ?_ _)); exact BK190.out) Try.underlying24 rfl (by kernel_rfl)) rfl ?_
  exact ⟨_, by first | rfl | (simp [errW_none, errW_some] <;> rfl) | (simp [*, errW_none, errW_some] <;> rfl), by (with_reducible repeat (first | apply Kd.R_alloc | apply Kd.R_drewN | apply Kd.R_drew)); exact Kd.R_mono (Kd.R_far (p := ⟨gb190, 1, none⟩) (Kd.R_far (p := ⟨gb190, 0, none⟩) (Kd.R_types HO197.out BK190.out (by decide)) (fun _ hk => hk.2) (.bool t194)) (fun _ hk => hk.2) (.slice Ao10 t195.length co10)) (fun _ hk => trivial), by repeat (first | (with_reducible first | exact HB.out | apply below_alloc | apply pw_below_drewN | apply below_drew1 | refine below_set ?_ GE190.out) | exact HB.out)⟩
end Go.Proofs.Ytpkgckccfanchaa.M

namespace Go.Proofs.Ytpkgckccfanchaa.M
open Go.RowKit Go.Proofs.YtpkgckccfanchaaW.PrintWords Go.Proofs.YtpkgckccfanchaaW.PrintLast Go.Proofs.YtpkgckccfanchaaW.PrintMore
attribute [local go_sem] max2_int min2_int max_two min_two max_three min_three max_four min_four
set_option linter.unusedVariables false
set_option linter.unusedSimpArgs false
def quadformref01_Small.f (a0 : Int) : Option (Bool × List Int) := if a0 < 0 then ((quadformref01_word.f true (IntKind.u64.wrap (-(IntKind.u64.wrap (a0))))).bind fun bt199 => (some (bt199.1, bt199.2))) else ((quadformref01_word.f false (IntKind.u64.wrap (a0))).bind fun bt203 => (some (bt203.1, bt203.2)))
set_option maxHeartbeats 8000000 in
set_option maxRecDepth 100000 in
theorem quadformref01_Small.calls (a0 : Int) (r1 : Bool) (r2 : List Int) (w : World) (h : quadformref01_Small.f a0 = some (r1, r2)) :
    Calls Try.prog 17 #[.int .i64 a0] w fun e w' => ∃ v1_ : Value, e = .returned (.agg #[.bool r1, v1_]) ∧ Kd.R (Kd.int .u32) 98 w' w.heap.size (fun _ => True) v1_ r2 ∧ Below w.heap.size w w' := by
  have hu24 := Try.underlying24; have HB := Aside0.mk (Below.refl w.heap.size w); have H : (if a0 < 0 then ((quadformref01_word.f true (IntKind.u64.wrap (-(IntKind.u64.wrap (a0))))).bind fun bt199 => (some (bt199.1, bt199.2))) else ((quadformref01_word.f false (IntKind.u64.wrap (a0))).bind fun bt203 => (some (bt203.1, bt203.2)))) = some (r1, r2) := h; clear h
  by_cases c2 : a0 < 0
  · rw [if_pos c2] at H
    have c2b0 : decide (a0 < 0) = true := decide_eq_true c2; clear c2; replace H := Option.bind_eq_some_iff.mp H; obtain ⟨⟨t199, t200⟩, A30, H⟩ := H; replace H : (some (t199, t200)) = some (r1, r2) := H; have A3 := Aside0.mk A30; clear A30
    simp only [Option.some.injEq, Prod.mk.injEq] at H
    obtain ⟨rfl, rfl⟩ := H
    go_enter Try.func17, Try.ntmps17
    go_wp2_with (first | ((with_reducible refine gate_dst (N := 2) rfl ?_); refine box_event ?hg (N := 2) ?hd (cs := #[.bool false, .slice none 0 0]) (t := 24) ?hr ?_; (case hd => rfl); (case hg => rfl); (case hr => first | (go_simp; done) | (go_simp; rfl)); intro gb198 hg w4 hbox hb; have n0_ := Aside0.mk (below_step (by repeat (first | (with_reducible first | exact HB.out | apply below_alloc | apply pw_below_drewN | apply below_drew1) | exact HB.out)) hb); have n1_ := Aside0.mk (hbox); have n2_ := Aside0.mk ((by rw [hg]; exact (below_size (by repeat (first | (with_reducible first | exact HB.out | apply below_alloc | apply pw_below_drewN | apply below_drew1) | exact HB.out))) : w.heap.size ≤ gb198)); have n3_ := Aside0.mk ((by rw [hg]; exact (below_size (by repeat (first | (with_reducible first | exact HB.out | apply below_alloc | apply pw_below_drewN | apply below_drew1) | exact HB.out))) : w.heap.size ≤ gb198)); clear HB; have HB := n0_; have BK198 := n1_; have GW198 := n2_; have GE198 := n3_; clear n0_ n1_ n2_ n3_; clear hb hbox hg) | ((with_reducible refine gate_callee (f := 51) rfl ?_); refine goesL_ (some 8) rfl rfl Try.func51 (by kernel_rfl) rfl #[.bool true, .int .u64 (IntKind.u64.wrap (-(IntKind.u64.wrap (a0))))] rfl (by (try simp only [List.map_toArray, List.map_cons, List.map_nil]); first | done | rfl | (simp only [List.length_drop, List.length_take]; rfl)) ?_; (with_reducible refine (quadformref01_word.calls true (IntKind.u64.wrap (-(IntKind.u64.wrap (a0)))) t199 t200 _ A3.out).mono ?_); rintro e w5 ⟨v201, rfl, ho0, hb⟩; refine ⟨_, rfl, ?_⟩; have n0_ := Aside0.mk (Kd.R_lower ho0 (below_size (by repeat (first | (with_reducible first | exact HB.out | apply below_alloc | apply pw_below_drewN | apply below_drew1 | refine below_set ?_ GE198.out) | exact HB.out)))); have n1_ := Aside0.mk (blk_below (g := gb198) (o := .cells #[.bool false, .slice none 0 0] 24 (0, 0)) (by (with_reducible repeat (first | refine blk_drewN ?_ _ | refine blk_drew ?_ | refine blk_alloc ?_ _)); exact BK198.out) hb); have n2_ := Aside0.mk (below_step (by repeat (first | (with_reducible first | exact HB.out | apply below_alloc | apply pw_below_drewN | apply below_drew1 | refine below_set ?_ GE198.out) | exact HB.out)) hb); clear BK198; clear HB; have HO202 := n0_; have BK198 := n1_; have HB := n2_; clear n0_ n1_ n2_; (try clear hb); (try clear hb2); (try clear hk); (try clear hi); (try clear ho0); have hcz6_0 : w5.cell? ⟨gb198, 0, none⟩ = some (.bool false) := (blk_cell BK198.out 0).trans rfl; have hcz6_1 : w5.cell? ⟨gb198, 1, none⟩ = some (.slice none 0 0) := (blk_cell BK198.out 1).trans rfl; have hfz6_0 := blk_frozen BK198.out 0; have hfz6_1 := blk_frozen BK198.out 1; obtain ⟨Ao7, co7, eo7⟩ := Kd.R_slice HO202.out; subst eo7))
    refine bodyPost_ret (results_cell_row rfl _ _ gb198 24 #[.bool t199, .slice Ao7 t200.length co7] (0, 0) _ rfl (by (with_reducible repeat (first | refine blk_drewN ?_ _ | refine blk_drew ?_ | refine blk_alloc ?_ _)); refine blk_put (cs := #[.bool t199, .slice none 0 0]) ?_ 1 _ rfl; (with_reducible repeat (first | refine blk_drewN ?_ _ | refine blk_drew ?_ | refine blk_alloc ?_ _)); refine blk_put (cs := #[.bool false, .slice none 0 0]) ?_ 0 _ rfl; (with_reducible repeat (first | refine blk_drewN ?_ _ | refine blk_drew ?_ | refine blk_alloc ?_ _)); exact BK198.out) Try.underlying24 rfl (by kernel_rfl)) rfl ?_
    exact ⟨_, by first | rfl | (simp [errW_none, errW_some] <;> rfl) | (simp [*, errW_none, errW_some] <;> rfl), by (with_reducible repeat (first | apply Kd.R_alloc | apply Kd.R_drewN | apply Kd.R_drew)); exact Kd.R_mono (Kd.R_far (p := ⟨gb198, 1, none⟩) (Kd.R_far (p := ⟨gb198, 0, none⟩) (Kd.R_types HO202.out BK198.out (by decide)) (fun _ hk => hk.2) (.bool t199)) (fun _ hk => hk.2) (.slice Ao7 t200.length co7)) (fun _ hk => trivial), by repeat (first | (with_reducible first | exact HB.out | apply below_alloc | apply pw_below_drewN | apply below_drew1 | refine below_set ?_ GE198.out) | exact HB.out)⟩
  · rw [if_neg c2] at H
    have c2b0 : decide (a0 < 0) = false := decide_eq_false c2; clear c2; replace H := Option.bind_eq_some_iff.mp H; obtain ⟨⟨t203, t204⟩, A80, H⟩ := H; replace H : (some (t203, t204)) = some (r1, r2) := H; have A8 := Aside0.mk A80; clear A80
    simp only [Option.some.injEq, Prod.mk.injEq] at H
    obtain ⟨rfl, rfl⟩ := H
    go_enter Try.func17, Try.ntmps17
    go_wp2_with (first | ((with_reducible refine gate_dst (N := 2) rfl ?_); refine box_event ?hg (N := 2) ?hd (cs := #[.bool false, .slice none 0 0]) (t := 24) ?hr ?_; (case hd => rfl); (case hg => rfl); (case hr => first | (go_simp; done) | (go_simp; rfl)); intro gb198 hg w9 hbox hb; have n0_ := Aside0.mk (below_step (by repeat (first | (with_reducible first | exact HB.out | apply below_alloc | apply pw_below_drewN | apply below_drew1) | exact HB.out)) hb); have n1_ := Aside0.mk (hbox); have n2_ := Aside0.mk ((by rw [hg]; exact (below_size (by repeat (first | (with_reducible first | exact HB.out | apply below_alloc | apply pw_below_drewN | apply below_drew1) | exact HB.out))) : w.heap.size ≤ gb198)); have n3_ := Aside0.mk ((by rw [hg]; exact (below_size (by repeat (first | (with_reducible first | exact HB.out | apply below_alloc | apply pw_below_drewN | apply below_drew1) | exact HB.out))) : w.heap.size ≤ gb198)); clear HB; have HB := n0_; have BK198 := n1_; have GW198 := n2_; have GE198 := n3_; clear n0_ n1_ n2_ n3_; clear hb hbox hg) | ((with_reducible refine gate_callee (f := 51) rfl ?_); refine goesL_ (some 11) rfl rfl Try.func51 (by kernel_rfl) rfl #[.bool false, .int .u64 (IntKind.u64.wrap (a0))] rfl (by (try simp only [List.map_toArray, List.map_cons, List.map_nil]); first | done | rfl | (simp only [List.length_drop, List.length_take]; rfl)) ?_; (with_reducible refine (quadformref01_word.calls false (IntKind.u64.wrap (a0)) t203 t204 _ A8.out).mono ?_); rintro e w10 ⟨v205, rfl, ho0, hb⟩; refine ⟨_, rfl, ?_⟩; have n0_ := Aside0.mk (Kd.R_lower ho0 (below_size (by repeat (first | (with_reducible first | exact HB.out | apply below_alloc | apply pw_below_drewN | apply below_drew1 | refine below_set ?_ GE198.out) | exact HB.out)))); have n1_ := Aside0.mk (blk_below (g := gb198) (o := .cells #[.bool false, .slice none 0 0] 24 (0, 0)) (by (with_reducible repeat (first | refine blk_drewN ?_ _ | refine blk_drew ?_ | refine blk_alloc ?_ _)); exact BK198.out) hb); have n2_ := Aside0.mk (below_step (by repeat (first | (with_reducible first | exact HB.out | apply below_alloc | apply pw_below_drewN | apply below_drew1 | refine below_set ?_ GE198.out) | exact HB.out)) hb); clear BK198; clear HB; have HO206 := n0_; have BK198 := n1_; have HB := n2_; clear n0_ n1_ n2_; (try clear hb); (try clear hb2); (try clear hk); (try clear hi); (try clear ho0); have hcz11_0 : w10.cell? ⟨gb198, 0, none⟩ = some (.bool false) := (blk_cell BK198.out 0).trans rfl; have hcz11_1 : w10.cell? ⟨gb198, 1, none⟩ = some (.slice none 0 0) := (blk_cell BK198.out 1).trans rfl; have hfz11_0 := blk_frozen BK198.out 0; have hfz11_1 := blk_frozen BK198.out 1; obtain ⟨Ao12, co12, eo12⟩ := Kd.R_slice HO206.out; subst eo12))
    refine bodyPost_ret (results_cell_row rfl _ _ gb198 24 #[.bool t203, .slice Ao12 t204.length co12] (0, 0) _ rfl (by (with_reducible repeat (first | refine blk_drewN ?_ _ | refine blk_drew ?_ | refine blk_alloc ?_ _)); refine blk_put (cs := #[.bool t203, .slice none 0 0]) ?_ 1 _ rfl; (with_reducible repeat (first | refine blk_drewN ?_ _ | refine blk_drew ?_ | refine blk_alloc ?_ _)); refine blk_put (cs := #[.bool false, .slice none 0 0]) ?_ 0 _ rfl; (with_reducible repeat (first | refine blk_drewN ?_ _ | refine blk_drew ?_ | refine blk_alloc ?_ _)); exact BK198.out) Try.underlying24 rfl (by kernel_rfl)) rfl ?_
    exact ⟨_, by first | rfl | (simp [errW_none, errW_some] <;> rfl) | (simp [*, errW_none, errW_some] <;> rfl), by (with_reducible repeat (first | apply Kd.R_alloc | apply Kd.R_drewN | apply Kd.R_drew)); exact Kd.R_mono (Kd.R_far (p := ⟨gb198, 1, none⟩) (Kd.R_far (p := ⟨gb198, 0, none⟩) (Kd.R_types HO206.out BK198.out (by decide)) (fun _ hk => hk.2) (.bool t203)) (fun _ hk => hk.2) (.slice Ao12 t204.length co12)) (fun _ hk => trivial), by repeat (first | (with_reducible first | exact HB.out | apply below_alloc | apply pw_below_drewN | apply below_drew1 | refine below_set ?_ GE198.out) | exact HB.out)⟩
end Go.Proofs.Ytpkgckccfanchaa.M

namespace Go.Proofs.Ytpkgckccfanchaa.M
open Go.RowKit Go.Proofs.YtpkgckccfanchaaW.PrintWords Go.Proofs.YtpkgckccfanchaaW.PrintLast Go.Proofs.YtpkgckccfanchaaW.PrintMore
attribute [local go_sem] max2_int min2_int max_two min_two max_three min_three max_four min_four
set_option linter.unusedVariables false
set_option linter.unusedSimpArgs false
mutual
def quadformref01_Mul.l0 : Nat → List Int → List Int → Int → Int → Bool → List Int → Bool → List Int → Option (Bool × List Int)
  | 0, _, _, _, _, _, _, _, _ => none
  | k + 1, x5, x20, x21, x22, x229000, x229001, x230000, x230001 => if x22 < x21 then (if 0 ≤ x22 then (if x22 < (x20.length : Int) then (quadformref01_Mul.l1 k x5 x22 (rd x20 x22) 0 x20 x21 x22 x230001 (x230001.length : Int) 0 x229000 x229001 x230000 x230001) else (none)) else (none)) else ((quadformref01_Make.f (x229000 != x230000) x5).bind fun bt234 => (some (bt234.1, bt234.2)))
def quadformref01_Mul.l1 : Nat → List Int → Int → Int → Int → List Int → Int → Int → List Int → Int → Int → Bool → List Int → Bool → List Int → Option (Bool × List Int)
  | 0, _, _, _, _, _, _, _, _, _, _, _, _, _, _ => none
  | k + 1, x5, x6, x7, x8, x20, x21, x22, x28, x29, x30, x229000, x229001, x230000, x230001 => if x30 < x29 then (if 0 ≤ x30 then (if x30 < (x28.length : Int) then (if 0 ≤ (wrap64 (x6 + x30)) then (if (wrap64 (x6 + x30)) < (x5.length : Int) then (quadformref01_Mul.l1 k (x5.set ((wrap64 (x6 + x30)) : Int).toNat ((IntKind.u64.wrap (x8 + (IntKind.u64.wrap ((IntKind.u64.wrap ((IntKind.u64.wrap (x7)) * (IntKind.u64.wrap (rd x28 x30)))) + (IntKind.u64.wrap (rd x5 (wrap64 (x6 + x30)))))))) % 4294967296)) x6 x7 ((IntKind.u64.wrap (x8 + (IntKind.u64.wrap ((IntKind.u64.wrap ((IntKind.u64.wrap (x7)) * (IntKind.u64.wrap (rd x28 x30)))) + (IntKind.u64.wrap (rd x5 (wrap64 (x6 + x30)))))))) / 4294967296) x20 x21 x22 x28 x29 (wrap64 (x30 + 1)) x229000 x229001 x230000 x230001) else (none)) else (none)) else (none)) else (none)) else (if 0 ≤ (wrap64 (x6 + (x230001.length : Int))) then (if (wrap64 (x6 + (x230001.length : Int))) < (x5.length : Int) then (quadformref01_Mul.l0 k (x5.set ((wrap64 (x6 + (x230001.length : Int))) : Int).toNat ((x8) % 4294967296)) x20 x21 (wrap64 (x22 + 1)) x229000 x229001 x230000 x230001) else (none)) else (none))
end
def quadformref01_Mul.f (k : Nat) (a0_0 : Bool) (l0_1 : List Int) (a1_0 : Bool) (l1_1 : List Int) : Option (Bool × List Int) := if 0 ≤ (wrap64 ((l0_1.length : Int) + (l1_1.length : Int))) then (if (wrap64 ((l0_1.length : Int) + (l1_1.length : Int)) : Int).toNat ≤ 70368744177664 then (quadformref01_Mul.l0 k (List.replicate (wrap64 ((l0_1.length : Int) + (l1_1.length : Int)) : Int).toNat 0) l0_1 (l0_1.length : Int) 0 a0_0 l0_1 a1_0 l1_1) else (none)) else (none)
theorem quadformref01_Mul.mono_l : ∀ k, (∀ y0 y1 y2 y3 y4 y5 y6 y7, LeO (quadformref01_Mul.l0 k y0 y1 y2 y3 y4 y5 y6 y7) (quadformref01_Mul.l0 (k + 1) y0 y1 y2 y3 y4 y5 y6 y7)) ∧ (∀ y0 y1 y2 y3 y4 y5 y6 y7 y8 y9 y10 y11 y12 y13, LeO (quadformref01_Mul.l1 k y0 y1 y2 y3 y4 y5 y6 y7 y8 y9 y10 y11 y12 y13) (quadformref01_Mul.l1 (k + 1) y0 y1 y2 y3 y4 y5 y6 y7 y8 y9 y10 y11 y12 y13))
  | 0 => ⟨fun _ _ _ _ _ _ _ _ r h => by simp [quadformref01_Mul.l0] at h, fun _ _ _ _ _ _ _ _ _ _ _ _ _ _ r h => by simp [quadformref01_Mul.l1] at h⟩
  | k + 1 => by
    obtain ⟨ih0, ih1⟩ := quadformref01_Mul.mono_l k; refine ⟨?_, ?_⟩
    · intro y0 y1 y2 y3 y4 y5 y6 y7
      unfold quadformref01_Mul.l0
      repeat' first
      | (with_reducible exact ih0 _ _ _ _ _ _ _ _)
      | (with_reducible exact ih1 _ _ _ _ _ _ _ _ _ _ _ _ _ _)
      | (with_reducible exact LeO.refl _)
      | (with_reducible exact LeO.none _)
      | (with_reducible refine LeO.ite ?_ ?_)
      | (with_reducible refine LeO.bind ?_ (fun _ => ?_))
      | exact ih0 _ _ _ _ _ _ _ _
      | exact ih1 _ _ _ _ _ _ _ _ _ _ _ _ _ _
      | exact LeO.none _
      | refine LeO.ite ?_ ?_
      | refine LeO.bind ?_ (fun _ => ?_)
    · intro y0 y1 y2 y3 y4 y5 y6 y7 y8 y9 y10 y11 y12 y13
      unfold quadformref01_Mul.l1
      repeat' first
      | (with_reducible exact ih0 _ _ _ _ _ _ _ _)
      | (with_reducible exact ih1 _ _ _ _ _ _ _ _ _ _ _ _ _ _)
      | (with_reducible exact LeO.refl _)
      | (with_reducible exact LeO.none _)
      | (with_reducible refine LeO.ite ?_ ?_)
      | (with_reducible refine LeO.bind ?_ (fun _ => ?_))
      | exact ih0 _ _ _ _ _ _ _ _
      | exact ih1 _ _ _ _ _ _ _ _ _ _ _ _ _ _
      | exact LeO.none _
      | refine LeO.ite ?_ ?_
      | refine LeO.bind ?_ (fun _ => ?_)
theorem quadformref01_Mul.mono : ∀ a0 a1 a2 a3 k, LeO (quadformref01_Mul.f k a0 a1 a2 a3) (quadformref01_Mul.f (k + 1) a0 a1 a2 a3) := by
  intro a0 a1 a2 a3 k; obtain ⟨ih0, ih1⟩ := quadformref01_Mul.mono_l k
  unfold quadformref01_Mul.f
  repeat' first
      | (with_reducible exact ih0 _ _ _ _ _ _ _ _)
      | (with_reducible exact ih1 _ _ _ _ _ _ _ _ _ _ _ _ _ _)
      | (with_reducible exact LeO.refl _)
      | (with_reducible exact LeO.none _)
      | (with_reducible refine LeO.ite ?_ ?_)
      | (with_reducible refine LeO.bind ?_ (fun _ => ?_))
      | exact ih0 _ _ _ _ _ _ _ _
      | exact ih1 _ _ _ _ _ _ _ _ _ _ _ _ _ _
      | exact LeO.none _
      | refine LeO.ite ?_ ?_
      | refine LeO.bind ?_ (fun _ => ?_)
set_option maxHeartbeats 8000000 in
set_option maxRecDepth 100000 in
theorem quadformref01_Mul.calls (k : Nat) (a0_0 : Bool) (A0_1 : Option Addr) (c0_1 : Nat) (l0_1 : List Int) (a1_0 : Bool) (A1_1 : Option Addr) (c1_1 : Nat) (l1_1 : List Int) (r1 : Bool) (r2 : List Int) (w : World) (hr0_1 : Kd.C (Kd.int .u32) w A0_1 l0_1.length l0_1) (hc0_1 : l0_1.length ≤ c0_1) (hr1_1 : Kd.C (Kd.int .u32) w A1_1 l1_1.length l1_1) (hc1_1 : l1_1.length ≤ c1_1) (h : quadformref01_Mul.f k a0_0 l0_1 a1_0 l1_1 = some (r1, r2)) :
    Calls Try.prog 33 #[.agg #[.bool a0_0, .slice A0_1 l0_1.length c0_1], .agg #[.bool a1_0, .slice A1_1 l1_1.length c1_1]] w fun e w' => ∃ v1_ : Value, e = .returned (.agg #[.bool r1, v1_]) ∧ Kd.R (Kd.int .u32) 98 w' w.heap.size (fun _ => True) v1_ r2 ∧ Below w.heap.size w w' := by
  have hu24 := Try.underlying24; have HR0_1 := Aside0.mk hr0_1; have HC0_1 := Aside0.mk hc0_1; clear hr0_1 hc0_1; have HR1_1 := Aside0.mk hr1_1; have HC1_1 := Aside0.mk hc1_1; clear hr1_1 hc1_1; have HB := Aside0.mk (Below.refl w.heap.size w); have H : (if 0 ≤ (wrap64 ((l0_1.length : Int) + (l1_1.length : Int))) then (if (wrap64 ((l0_1.length : Int) + (l1_1.length : Int)) : Int).toNat ≤ 70368744177664 then (quadformref01_Mul.l0 k (List.replicate (wrap64 ((l0_1.length : Int) + (l1_1.length : Int)) : Int).toNat 0) l0_1 (l0_1.length : Int) 0 a0_0 l0_1 a1_0 l1_1) else (none)) else (none)) = some (r1, r2) := h; clear h
  obtain ⟨ji3, hji3⟩ : ∃ j_ : Int, (wrap64 ((l0_1.length : Int) + (l1_1.length : Int))) = j_ := ⟨_, rfl⟩
  replace H : (if 0 ≤ (ji3) then (if (ji3 : Int).toNat ≤ 70368744177664 then (quadformref01_Mul.l0 k (List.replicate (ji3 : Int).toNat 0) l0_1 (l0_1.length : Int) 0 a0_0 l0_1 a1_0 l1_1) else (none)) else (none)) = some (r1, r2) := by first | (rw [hji3] at H; exact H) | (simp only [hji3] at H ⊢; exact H)
  have hji3w : (IntKind.i64.wrap ((l0_1.length : Int) + (l1_1.length : Int))) = ji3 := (i64_w _).trans hji3
  by_cases c4 : 0 ≤ (ji3)
  · rw [if_pos c4] at H
    have c4b0 := eq_true c4; have c4b1 : decide (0 ≤ (ji3)) = true := decide_eq_true c4; clear c4
    by_cases c5 : (ji3 : Int).toNat ≤ 70368744177664
    · rw [if_pos c5] at H
      have c5b0 := eq_true c5; have c5b1 : decide ((ji3 : Int).toNat ≤ 70368744177664) = true := decide_eq_true c5; clear c5
      obtain ⟨y231, hy231⟩ : ∃ y_ : List Int, y_ = (List.replicate (ji3 : Int).toNat 0) := ⟨_, rfl⟩
      replace H : (quadformref01_Mul.l0 k y231 l0_1 (l0_1.length : Int) 0 a0_0 l0_1 a1_0 l1_1) = some (r1, r2) := by first | (rw [hy231]; with_reducible exact H) | (have H2_ := (Option.bind_some _ _).symm.trans H; rw [hy231]; with_reducible exact H2_) | (have H2_ := (Option.bind_some _ _).symm.trans H; with_reducible exact H2_) | with_reducible exact H | (rw [hy231]; exact H) | exact H
      have Ny231 := Aside0.mk hy231; clear hy231; have H' := Aside0.mk H; clear H
      go_enter Try.func33, Try.ntmps33
      go_wp2_with (first | ((with_reducible refine gate_dst (N := 2) rfl ?_); refine box_event ?hg (N := 2) ?hd (cs := #[.bool a0_0, .slice A0_1 l0_1.length c0_1]) (t := 24) ?hr ?_; (case hd => rfl); (case hg => rfl); (case hr => first | (go_simp; done) | (go_simp; rfl)); intro gb228 hg w6 hbox hb; have n0_ := Aside0.mk (below_step (by repeat (first | (with_reducible first | exact HB.out | apply below_alloc | apply pw_below_drewN | apply below_drew1) | exact HB.out)) hb); have n1_ := Aside0.mk (hbox); have n2_ := Aside0.mk ((by rw [hg]; exact (below_size (by repeat (first | (with_reducible first | exact HB.out | apply below_alloc | apply pw_below_drewN | apply below_drew1) | exact HB.out))) : w.heap.size ≤ gb228)); have n3_ := Aside0.mk ((by rw [hg]; exact (below_size (by repeat (first | (with_reducible first | exact HB.out | apply below_alloc | apply pw_below_drewN | apply below_drew1) | exact HB.out))) : w.heap.size ≤ gb228)); clear HB; have HB := n0_; have BK228 := n1_; have GW228 := n2_; have GE228 := n3_; clear n0_ n1_ n2_ n3_; clear hb hbox hg) | ((with_reducible refine gate_dst (N := 3) rfl ?_); refine box_event ?hg (N := 3) ?hd (cs := #[.bool a1_0, .slice A1_1 l1_1.length c1_1]) (t := 24) ?hr ?_; (case hd => rfl); (case hg => rfl); (case hr => first | (go_simp; done) | (go_simp; rfl)); intro gb229 hg w7 hbox hb; have n0_ := Aside0.mk (blk_below (g := gb228) (o := .cells #[.bool a0_0, .slice A0_1 l0_1.length c0_1] 24 (0, 0)) (by (with_reducible repeat (first | refine blk_drewN ?_ _ | refine blk_drew ?_ | refine blk_alloc ?_ _)); exact BK228.out) hb); have n1_ := Aside0.mk (below_step (by repeat (first | (with_reducible first | exact HB.out | apply below_alloc | apply pw_below_drewN | apply below_drew1 | refine below_set ?_ GE228.out) | exact HB.out)) hb); have n2_ := Aside0.mk (hbox); have n3_ := Aside0.mk ((by rw [hg]; exact (below_size (by repeat (first | (with_reducible first | exact HB.out | apply below_alloc | apply pw_below_drewN | apply below_drew1 | refine below_set ?_ GE228.out) | exact HB.out))) : w.heap.size ≤ gb229)); have n4_ := Aside0.mk ((by rw [hg]; exact (below_size (by repeat (first | (with_reducible first | exact HB.out | apply below_alloc | apply pw_below_drewN | apply below_drew1 | refine below_set ?_ GE228.out) | exact HB.out))) : w.heap.size ≤ gb229)); have n5_ := Aside0.mk ((by rw [hg]; exact Nat.ne_of_lt (blk_lt (g := gb228) (o := .cells #[.bool a0_0, .slice A0_1 l0_1.length c0_1] 24 (0, 0)) (by (with_reducible repeat (first | refine blk_drewN ?_ _ | refine blk_drew ?_ | refine blk_alloc ?_ _)); exact BK228.out)) : gb228 ≠ gb229)); have n6_ := Aside0.mk ((by rw [hg]; exact Nat.ne_of_gt (blk_lt (g := gb228) (o := .cells #[.bool a0_0, .slice A0_1 l0_1.length c0_1] 24 (0, 0)) (by (with_reducible repeat (first | refine blk_drewN ?_ _ | refine blk_drew ?_ | refine blk_alloc ?_ _)); exact BK228.out)) : gb229 ≠ gb228)); clear BK228; clear HB; have BK228 := n0_; have HB := n1_; have BK229 := n2_; have GW229 := n3_; have GE229 := n4_; have NB228_229 := n5_; have NB229_228 := n6_; clear n0_ n1_ n2_ n3_ n4_ n5_ n6_; clear hb hbox hg) | ((with_reducible refine gate_dst (N := 4) rfl ?_); refine box_event ?hg (N := 4) ?hd (cs := #[.bool false, .slice none 0 0]) (t := 24) ?hr ?_; (case hd => rfl); (case hg => rfl); (case hr => first | (go_simp; done) | (go_simp; rfl)); intro gb230 hg w8 hbox hb; have n0_ := Aside0.mk (blk_below (g := gb228) (o := .cells #[.bool a0_0, .slice A0_1 l0_1.length c0_1] 24 (0, 0)) (by (with_reducible repeat (first | refine blk_drewN ?_ _ | refine blk_drew ?_ | refine blk_alloc ?_ _)); exact BK228.out) hb); have n1_ := Aside0.mk (blk_below (g := gb229) (o := .cells #[.bool a1_0, .slice A1_1 l1_1.length c1_1] 24 (0, 0)) (by (with_reducible repeat (first | refine blk_drewN ?_ _ | refine blk_drew ?_ | refine blk_alloc ?_ _)); exact BK229.out) hb); have n2_ := Aside0.mk (below_step (by repeat (first | (with_reducible first | exact HB.out | apply below_alloc | apply pw_below_drewN | apply below_drew1 | refine below_set ?_ GE228.out | refine below_set ?_ GE229.out) | exact HB.out)) hb); have n3_ := Aside0.mk (hbox); have n4_ := Aside0.mk ((by rw [hg]; exact (below_size (by repeat (first | (with_reducible first | exact HB.out | apply below_alloc | apply pw_below_drewN | apply below_drew1 | refine below_set ?_ GE228.out | refine below_set ?_ GE229.out) | exact HB.out))) : w.heap.size ≤ gb230)); have n5_ := Aside0.mk ((by rw [hg]; exact (below_size (by repeat (first | (with_reducible first | exact HB.out | apply below_alloc | apply pw_below_drewN | apply below_drew1 | refine below_set ?_ GE228.out | refine below_set ?_ GE229.out) | exact HB.out))) : w.heap.size ≤ gb230)); have n6_ := Aside0.mk ((by rw [hg]; exact Nat.ne_of_lt (blk_lt (g := gb228) (o := .cells #[.bool a0_0, .slice A0_1 l0_1.length c0_1] 24 (0, 0)) (by (with_reducible repeat (first | refine blk_drewN ?_ _ | refine blk_drew ?_ | refine blk_alloc ?_ _)); exact BK228.out)) : gb228 ≠ gb230)); have n7_ := Aside0.mk ((by rw [hg]; exact Nat.ne_of_gt (blk_lt (g := gb228) (o := .cells #[.bool a0_0, .slice A0_1 l0_1.length c0_1] 24 (0, 0)) (by (with_reducible repeat (first | refine blk_drewN ?_ _ | refine blk_drew ?_ | refine blk_alloc ?_ _)); exact BK228.out)) : gb230 ≠ gb228)); have n8_ := Aside0.mk ((by rw [hg]; exact Nat.ne_of_lt (blk_lt (g := gb229) (o := .cells #[.bool a1_0, .slice A1_1 l1_1.length c1_1] 24 (0, 0)) (by (with_reducible repeat (first | refine blk_drewN ?_ _ | refine blk_drew ?_ | refine blk_alloc ?_ _)); exact BK229.out)) : gb229 ≠ gb230)); have n9_ := Aside0.mk ((by rw [hg]; exact Nat.ne_of_gt (blk_lt (g := gb229) (o := .cells #[.bool a1_0, .slice A1_1 l1_1.length c1_1] 24 (0, 0)) (by (with_reducible repeat (first | refine blk_drewN ?_ _ | refine blk_drew ?_ | refine blk_alloc ?_ _)); exact BK229.out)) : gb230 ≠ gb229)); clear BK228; clear BK229; clear HB; have BK228 := n0_; have BK229 := n1_; have HB := n2_; have BK230 := n3_; have GW230 := n4_; have GE230 := n5_; have NB228_230 := n6_; have NB230_228 := n7_; have NB229_230 := n8_; have NB230_229 := n9_; clear n0_ n1_ n2_ n3_ n4_ n5_ n6_ n7_ n8_ n9_; clear hb hbox hg; have hnb9 := NB228_229.out; have hnc9 := NB229_228.out; have hnb10 := NB228_230.out; have hnc10 := NB230_228.out; have hcz11_0 : w8.cell? ⟨gb228, 0, none⟩ = some (.bool a0_0) := (blk_cell BK228.out 0).trans rfl; have hcz11_1 : w8.cell? ⟨gb228, 1, none⟩ = some (.slice A0_1 l0_1.length c0_1) := (blk_cell BK228.out 1).trans rfl; have hfz11_0 := blk_frozen BK228.out 0; have hfz11_1 := blk_frozen BK228.out 1; have hnb12 := NB229_230.out; have hnc12 := NB230_229.out; have hcz13_0 : w8.cell? ⟨gb229, 0, none⟩ = some (.bool a1_0) := (blk_cell BK229.out 0).trans rfl; have hcz13_1 : w8.cell? ⟨gb229, 1, none⟩ = some (.slice A1_1 l1_1.length c1_1) := (blk_cell BK229.out 1).trans rfl; have hfz13_0 := blk_frozen BK229.out 0; have hfz13_1 := blk_frozen BK229.out 1) | ((with_reducible refine gate_dst (N := 18) rfl ?_); refine Kd.R_make (Kd.int .u32) _ 98 rfl (N := 18) rfl 22 _ _ rfl ji3 rfl rfl Try.underlying22 (.int .u32 0) 4 info98 rfl (by decide) (by omega) 0 (ok := fun _ => True) (okp := fun _ => True) rfl (fun _ hk => hk) trivial (of_decide_eq_true (by first | (with_reducible assumption) | assumption)) (Nat.le_trans (Nat.mul_le_mul_right _ (of_decide_eq_true (by first | (with_reducible assumption) | assumption) : ji3.toNat ≤ 70368744177664)) (by omega)) (Below.refl _ _) (Nat.le_refl _) ?_; intro v232 w14 ho15 hb hg_ hnew_; clear hg_ hnew_; (first | rw [← Ny231.out] at ho15 | (simp only [Int.reduceToNat] at ho15; rw [← Ny231.out] at ho15)); have n0_ := Aside0.mk (Kd.R_lower ho15 (below_size (by repeat (first | (with_reducible first | exact HB.out | apply below_alloc | apply pw_below_drewN | apply below_drew1 | refine below_set ?_ GE228.out | refine below_set ?_ GE229.out | refine below_set ?_ GE230.out) | exact HB.out)))); have n1_ := Aside0.mk (blk_below (g := gb228) (o := .cells #[.bool a0_0, .slice A0_1 l0_1.length c0_1] 24 (0, 0)) (by (with_reducible repeat (first | refine blk_drewN ?_ _ | refine blk_drew ?_ | refine blk_alloc ?_ _)); exact BK228.out) hb); have n2_ := Aside0.mk (blk_below (g := gb229) (o := .cells #[.bool a1_0, .slice A1_1 l1_1.length c1_1] 24 (0, 0)) (by (with_reducible repeat (first | refine blk_drewN ?_ _ | refine blk_drew ?_ | refine blk_alloc ?_ _)); exact BK229.out) hb); have n3_ := Aside0.mk (blk_below (g := gb230) (o := .cells #[.bool false, .slice none 0 0] 24 (0, 0)) (by (with_reducible repeat (first | refine blk_drewN ?_ _ | refine blk_drew ?_ | refine blk_alloc ?_ _)); exact BK230.out) hb); have n4_ := Aside0.mk (below_step (by repeat (first | (with_reducible first | exact HB.out | apply below_alloc | apply pw_below_drewN | apply below_drew1 | refine below_set ?_ GE228.out | refine below_set ?_ GE229.out | refine below_set ?_ GE230.out) | exact HB.out)) hb); clear BK228; clear BK229; clear BK230; clear HB; have HO233 := n0_; have BK228 := n1_; have BK229 := n2_; have BK230 := n3_; have HB := n4_; clear n0_ n1_ n2_ n3_ n4_; clear hb ho15; have hcz16_0 : w14.cell? ⟨gb228, 0, none⟩ = some (.bool a0_0) := (blk_cell BK228.out 0).trans rfl; have hcz16_1 : w14.cell? ⟨gb228, 1, none⟩ = some (.slice A0_1 l0_1.length c0_1) := (blk_cell BK228.out 1).trans rfl; have hfz16_0 := blk_frozen BK228.out 0; have hfz16_1 := blk_frozen BK228.out 1))
      go_loopg [22] k (fun kq v22 w' => ∃ (x5_1 : List Int) (x22_1 : Int), v22 = .int .i64 x22_1 ∧ Aside0 (quadformref01_Mul.l0 kq x5_1 l0_1 (l0_1.length : Int) x22_1 a0_0 l0_1 a1_0 l1_1 = some (r1, r2)) ∧ Aside0 (kq ≤ k) ∧ Aside0 (Kd.R (Kd.int .u32) 98 w' w.heap.size (fun _ => True) v232 x5_1) ∧ Aside0 (w'.heap[gb228]? = some (.cells #[.bool a0_0, (.slice A0_1 l0_1.length c0_1)] 24 (0, 0))) ∧ Aside0 (w'.heap[gb229]? = some (.cells #[.bool a1_0, (.slice A1_1 l1_1.length c1_1)] 24 (0, 0))) ∧ Aside0 (w'.heap[gb230]? = some (.cells #[.bool false, (.slice none 0 0)] 24 (0, 0))) ∧ Aside0 (Below w.heap.size w w'))
      case atStart => exact ⟨(y231), (0), (by first | rfl | (simp; done) | (simp [*]; done)), H', ⟨Nat.le_refl _⟩, ⟨by (with_reducible repeat (first | apply Kd.R_alloc | apply Kd.R_drewN | apply Kd.R_drew)); exact HO233.out⟩, ⟨by (with_reducible repeat (first | refine blk_drewN ?_ _ | refine blk_drew ?_ | refine blk_alloc ?_ _)); exact BK228.out⟩, ⟨by (with_reducible repeat (first | refine blk_drewN ?_ _ | refine blk_drew ?_ | refine blk_alloc ?_ _)); exact BK229.out⟩, ⟨by (with_reducible repeat (first | refine blk_drewN ?_ _ | refine blk_drew ?_ | refine blk_alloc ?_ _)); exact BK230.out⟩, ⟨by repeat (first | (with_reducible first | exact HB.out | apply below_alloc | apply pw_below_drewN | apply below_drew1 | refine below_set ?_ GE228.out | refine below_set ?_ GE229.out | refine below_set ?_ GE230.out) | exact HB.out)⟩⟩
      case round =>
        clear H'
        try clear c1
        try clear p2
        try clear c3
        try clear c4
        try clear c4b0
        try clear c4b1
        try clear c5
        try clear c5b0
        try clear c5b1
        try clear p6
        try clear c9
        try clear c10
        try clear c12
        try clear hcz11_0
        try clear hcz11_1
        try clear hcz13_0
        try clear hcz13_1
        try clear hcz16_0
        try clear hcz16_1
        try clear hfz11_0
        try clear hfz11_1
        try clear hfz13_0
        try clear hfz13_1
        try clear hfz16_0
        try clear hfz16_1
        obtain ⟨x5_1, x22_1, rfl, HA, HK1, HO_5, BK228, BK229, BK230, HB⟩ := hrel; cases gk with
        | zero => exact absurd HA.out (by simp [quadformref01_Mul.l0])
        | succ k1 =>
          have H := HA.out; clear HA
          simp only [quadformref01_Mul.l0] at H
          by_cases c17 : x22_1 < (l0_1.length : Int)
          · rw [if_pos c17] at H
            have c17b0 : decide (x22_1 < (l0_1.length : Int)) = true := decide_eq_true c17; clear c17
            by_cases c18 : 0 ≤ x22_1
            · rw [if_pos c18] at H
              have c18b0 : decide (0 ≤ x22_1) = true := decide_eq_true c18; clear c18
              by_cases c19 : x22_1 < (l0_1.length : Int)
              · rw [if_pos c19] at H
                have c19b0 : decide (x22_1 < (l0_1.length : Int)) = true := decide_eq_true c19; clear c19; have H' := Aside0.mk H; clear H; have p238 : 0 ≤ (x22_1 : Int) := of_decide_eq_true (by first | (with_reducible assumption) | assumption); have q238 : x22_1 < (l0_1.length : Int) := of_decide_eq_true (by first | (with_reducible assumption) | assumption); obtain ⟨ad238, e238, hx238_0⟩ := Kd.at_int HR0_1.out x22_1 p238 q238; cases e238; replace hx238_0 := (HB.out.cell (World.block_lt_of_cell? w _ hx238_0)).trans hx238_0; replace p238 := eq_true p238; replace q238 := eq_true q238; have hnb20 := NB229_228.out; have hnc20 := NB228_229.out; have hnb21 := NB229_230.out; have hnc21 := NB230_229.out; have hcz22_0 : wr.cell? ⟨gb229, 0, none⟩ = some (.bool a1_0) := (blk_cell BK229.out 0).trans rfl; have hcz22_1 : wr.cell? ⟨gb229, 1, none⟩ = some (.slice A1_1 l1_1.length c1_1) := (blk_cell BK229.out 1).trans rfl; have hfz22_0 := blk_frozen BK229.out 0; have hfz22_1 := blk_frozen BK229.out 1
                go_wp2
                go_loopg [8, 30] k1 (fun kq v8 v30 w' => ∃ (x5_2 : List Int) (x8_2 : Int) (x30_2 : Int), v8 = .int .u64 x8_2 ∧ v30 = .int .i64 x30_2 ∧ Aside0 (quadformref01_Mul.l1 kq x5_2 x22_1 (rd l0_1 x22_1) x8_2 l0_1 (l0_1.length : Int) x22_1 l1_1 (l1_1.length : Int) x30_2 a0_0 l0_1 a1_0 l1_1 = some (r1, r2)) ∧ Aside0 (kq ≤ k1) ∧ Aside0 (Kd.R (Kd.int .u32) 98 w' w.heap.size (fun _ => True) v232 x5_2) ∧ Aside0 (w'.heap[gb228]? = some (.cells #[.bool a0_0, (.slice (some ad238) l0_1.length c0_1)] 24 (0, 0))) ∧ Aside0 (w'.heap[gb229]? = some (.cells #[.bool a1_0, (.slice A1_1 l1_1.length c1_1)] 24 (0, 0))) ∧ Aside0 (w'.heap[gb230]? = some (.cells #[.bool false, (.slice none 0 0)] 24 (0, 0))) ∧ Aside0 (Below w.heap.size w w'))
                case atStart => exact ⟨(x5_1), (0), (0), (by first | rfl | (simp; done) | (simp [*]; done)), (by first | rfl | (simp; done) | (simp [*]; done)), H', ⟨Nat.le_refl _⟩, ⟨by (with_reducible repeat (first | apply Kd.R_alloc | apply Kd.R_drewN | apply Kd.R_drew)); exact HO_5.out⟩, ⟨by (with_reducible repeat (first | refine blk_drewN ?_ _ | refine blk_drew ?_ | refine blk_alloc ?_ _)); exact BK228.out⟩, ⟨by (with_reducible repeat (first | refine blk_drewN ?_ _ | refine blk_drew ?_ | refine blk_alloc ?_ _)); exact BK229.out⟩, ⟨by (with_reducible repeat (first | refine blk_drewN ?_ _ | refine blk_drew ?_ | refine blk_alloc ?_ _)); exact BK230.out⟩, ⟨by repeat (first | (with_reducible first | exact HB.out | apply below_alloc | apply pw_below_drewN | apply below_drew1 | refine below_set ?_ GE228.out | refine below_set ?_ GE229.out | refine below_set ?_ GE230.out) | exact HB.out)⟩⟩
                case round =>
                  clear H'
                  try clear c1
                  try clear c2
                  try clear p2
                  try clear q2
                  try clear hx2
                  try clear c3
                  try clear c4
                  try clear c4b0
                  try clear c4b1
                  try clear c5
                  try clear c5b0
                  try clear c5b1
                  try clear p6
                  try clear c9
                  try clear c10
                  try clear c12
                  try clear c17
                  try clear c17b0
                  try clear c18
                  try clear c18b0
                  try clear c19
                  try clear c19b0
                  try clear c20
                  try clear c21
                  try clear hcz11_0
                  try clear hcz11_1
                  try clear hcz13_0
                  try clear hcz13_1
                  try clear hcz16_0
                  try clear hcz16_1
                  try clear hcz22_0
                  try clear hcz22_1
                  try clear hfz11_0
                  try clear hfz11_1
                  try clear hfz13_0
                  try clear hfz13_1
                  try clear hfz16_0
                  try clear hfz16_1
                  try clear hfz22_0
                  try clear hfz22_1
                  try clear hx238_0
                  try clear p2
                  try clear p238
                  try clear p6
                  try clear q238
                  obtain ⟨x5_2, x8_2, x30_2, rfl, rfl, HA, HK2, HO_5, BK228, BK229, BK230, HB⟩ := hrel; cases gk with
                  | zero => exact absurd HA.out (by simp [quadformref01_Mul.l1])
                  | succ k2 =>
                    have H := HA.out; clear HA
                    simp only [quadformref01_Mul.l1] at H
                    by_cases c23 : x30_2 < (l1_1.length : Int)
                    · rw [if_pos c23] at H
                      have c23b0 : decide (x30_2 < (l1_1.length : Int)) = true := decide_eq_true c23; clear c23
                      by_cases c24 : 0 ≤ x30_2
                      · rw [if_pos c24] at H
                        have c24b0 : decide (0 ≤ x30_2) = true := decide_eq_true c24; clear c24
                        by_cases c25 : x30_2 < (l1_1.length : Int)
                        · rw [if_pos c25] at H
                          have c25b0 : decide (x30_2 < (l1_1.length : Int)) = true := decide_eq_true c25; clear c25
                          obtain ⟨ji26, hji26⟩ : ∃ j_ : Int, (wrap64 (x22_1 + x30_2)) = j_ := ⟨_, rfl⟩
                          replace H : (if 0 ≤ (ji26) then (if (ji26) < (x5_2.length : Int) then (quadformref01_Mul.l1 k2 (x5_2.set ((ji26) : Int).toNat ((IntKind.u64.wrap (x8_2 + (IntKind.u64.wrap ((IntKind.u64.wrap ((IntKind.u64.wrap ((rd l0_1 x22_1))) * (IntKind.u64.wrap (rd l1_1 x30_2)))) + (IntKind.u64.wrap (rd x5_2 (ji26))))))) % 4294967296)) x22_1 (rd l0_1 x22_1) ((IntKind.u64.wrap (x8_2 + (IntKind.u64.wrap ((IntKind.u64.wrap ((IntKind.u64.wrap ((rd l0_1 x22_1))) * (IntKind.u64.wrap (rd l1_1 x30_2)))) + (IntKind.u64.wrap (rd x5_2 (ji26))))))) / 4294967296) l0_1 (l0_1.length : Int) x22_1 l1_1 (l1_1.length : Int) (wrap64 (x30_2 + 1)) a0_0 l0_1 a1_0 l1_1) else (none)) else (none)) = some (r1, r2) := by first | (rw [hji26] at H; exact H) | (simp only [hji26] at H ⊢; exact H)
                          have hji26w : (IntKind.i64.wrap (x22_1 + x30_2)) = ji26 := (i64_w _).trans hji26
                          by_cases c27 : 0 ≤ (ji26)
                          · rw [if_pos c27] at H
                            have c27b0 : decide (0 ≤ (ji26)) = true := decide_eq_true c27; clear c27
                            by_cases c28 : (ji26) < (x5_2.length : Int)
                            · rw [if_pos c28] at H
                              have c28b0 : decide ((ji26) < (x5_2.length : Int)) = true := decide_eq_true c28; clear c28
                              obtain ⟨y241, hy241⟩ : ∃ y_ : List Int, y_ = (x5_2.set ((ji26) : Int).toNat ((IntKind.u64.wrap (x8_2 + (IntKind.u64.wrap ((IntKind.u64.wrap ((IntKind.u64.wrap ((rd l0_1 x22_1))) * (IntKind.u64.wrap (rd l1_1 x30_2)))) + (IntKind.u64.wrap (rd x5_2 (ji26))))))) % 4294967296)) := ⟨_, rfl⟩
                              replace H : (quadformref01_Mul.l1 k2 y241 x22_1 (rd l0_1 x22_1) ((IntKind.u64.wrap (x8_2 + (IntKind.u64.wrap ((IntKind.u64.wrap ((IntKind.u64.wrap ((rd l0_1 x22_1))) * (IntKind.u64.wrap (rd l1_1 x30_2)))) + (IntKind.u64.wrap (rd x5_2 (ji26))))))) / 4294967296) l0_1 (l0_1.length : Int) x22_1 l1_1 (l1_1.length : Int) (wrap64 (x30_2 + 1)) a0_0 l0_1 a1_0 l1_1) = some (r1, r2) := by first | (rw [hy241]; with_reducible exact H) | (have H2_ := (Option.bind_some _ _).symm.trans H; rw [hy241]; with_reducible exact H2_) | (have H2_ := (Option.bind_some _ _).symm.trans H; with_reducible exact H2_) | with_reducible exact H | (rw [hy241]; exact H) | exact H
                              have Ny241 := Aside0.mk hy241; clear hy241; have H' := Aside0.mk H; clear H; have p239 : 0 ≤ (x30_2 : Int) := of_decide_eq_true (by first | (with_reducible assumption) | assumption); have q239 : x30_2 < (l1_1.length : Int) := of_decide_eq_true (by first | (with_reducible assumption) | assumption); obtain ⟨ad239, e239, hx239_0⟩ := Kd.at_int HR1_1.out x30_2 p239 q239; cases e239; replace hx239_0 := (HB.out.cell (World.block_lt_of_cell? w _ hx239_0)).trans hx239_0; replace p239 := eq_true p239; replace q239 := eq_true q239; obtain ⟨Ao30, co30, eo30⟩ := Kd.R_slice HO_5.out; subst eo30; have p240 : 0 ≤ ((ji26) : Int) := of_decide_eq_true (by first | (with_reducible assumption) | assumption); have q240 : (ji26) < (x5_2.length : Int) := of_decide_eq_true (by first | (with_reducible assumption) | assumption); obtain ⟨ad240, e240, hx240_0⟩ := Kd.at_int (Kd.R_reads' HO_5.out).2.2 (ji26) p240 q240; cases e240; replace p240 := eq_true p240; replace q240 := eq_true q240; have p29 : 0 ≤ ((ji26) : Int) := of_decide_eq_true (by first | (with_reducible assumption) | assumption); have q29 : ((ji26) : Int) < ((x5_2.length : Int) : Int) := of_decide_eq_true (by first | (with_reducible assumption) | assumption); obtain ⟨go29, co29, eo29, gb29, gl29, cl29, HG29⟩ := Kd.R_form HO_5.out (by omega)
                              (first | cases eo29 | (injection eo29 with ea_ en_ ec_; (first | subst ea_ | (injection ea_ with ea_; subst ea_)); subst ec_; clear en_))
                              have GB29 := Aside0.mk gb29; have GG29 := Aside0.mk HG29; clear gb29 gl29 HG29
                              (first | simp only [add_plain] at hx240_0 | skip)
                              obtain ⟨hx29_0, hf29_0⟩ := Kd.R_celln 0 HO_5.out ((ji26) : Int) p29 q29; replace p29 := eq_true p29; replace q29 := eq_true q29; have HP31 := Kd.R_putg HO_5.out ((ji26) : Int) ((IntKind.u64.wrap (x8_2 + (IntKind.u64.wrap ((IntKind.u64.wrap ((IntKind.u64.wrap ((rd l0_1 x22_1))) * (IntKind.u64.wrap (rd l1_1 x30_2)))) + (IntKind.u64.wrap (rd x5_2 (ji26))))))) % 4294967296)
                              go_wp2_with (first | ((with_reducible refine gate_store (t := 98) (p := 56) rfl ?_); refine store_event (t := 98) (p := 56) (v := ?vo_w32) (w1 := (wr.setCell ⟨go29, ((ji26) : Int).toNat, none⟩ (.int .u32 ((IntKind.u64.wrap (x8_2 + (IntKind.u64.wrap ((IntKind.u64.wrap ((IntKind.u64.wrap ((rd l0_1 x22_1))) * (IntKind.u64.wrap (rd l1_1 x30_2)))) + (IntKind.u64.wrap (rd x5_2 (ji26))))))) % 4294967296)))) ?hg ?ho ?hn ?hr ?_; (case ho => rfl); (case hg => rfl); (case hn => rfl); (case hr => first | (go_simp; done) | (go_simp; rfl)); intro w32 hw; have hg : wr.grownBy w32 (some go29) := (by rw [hw]; exact HP31.2); have hp_ : Kd.R (Kd.int .u32) 98 w32 w.heap.size (fun _ => True) (.slice (some ⟨go29, 0, none⟩) x5_2.length co30) y241 := (by rw [hw, Ny241.out]; exact HP31.1); clear HP31; have n0_ := Aside0.mk (hp_); have n1_ := Aside0.mk (blk_grown (g := gb228) (o := .cells #[.bool a0_0, .slice (some ad238) l0_1.length c0_1] 24 (0, 0)) (by (with_reducible repeat (first | refine blk_drewN ?_ _ | refine blk_drew ?_ | refine blk_alloc ?_ _)); exact BK228.out) hg (Kd.R_ne HO_5.out BK228.out (by decide))); have n2_ := Aside0.mk (blk_grown (g := gb229) (o := .cells #[.bool a1_0, .slice (some ad239) l1_1.length c1_1] 24 (0, 0)) (by (with_reducible repeat (first | refine blk_drewN ?_ _ | refine blk_drew ?_ | refine blk_alloc ?_ _)); exact BK229.out) hg (Kd.R_ne HO_5.out BK229.out (by decide))); have n3_ := Aside0.mk (blk_grown (g := gb230) (o := .cells #[.bool false, .slice none 0 0] 24 (0, 0)) (by (with_reducible repeat (first | refine blk_drewN ?_ _ | refine blk_drew ?_ | refine blk_alloc ?_ _)); exact BK230.out) hg (Kd.R_ne HO_5.out BK230.out (by decide))); have n4_ := Aside0.mk ((by rw [hw]; exact below_set (HB.out) GB29.out : Below w.heap.size w w32)); clear HO_5; clear BK228; clear BK229; clear BK230; clear HB; have HO_5 := n0_; have BK228 := n1_; have BK229 := n2_; have BK230 := n3_; have HB := n4_; clear n0_ n1_ n2_ n3_ n4_; clear hg hw hp_))
                              go_roundg k2
                              case measure => have := HK1.out; have := HK2.out; omega
                              case rel => exact ⟨(y241), ((IntKind.u64.wrap (x8_2 + (IntKind.u64.wrap ((IntKind.u64.wrap ((IntKind.u64.wrap ((rd l0_1 x22_1))) * (IntKind.u64.wrap (rd l1_1 x30_2)))) + (IntKind.u64.wrap (rd x5_2 (ji26))))))) / 4294967296), (wrap64 (x30_2 + 1)), (by first | rfl | (simp; done) | (simp only [← hji26] <;> (first | rfl | simp)) | (simp [*]; done)), (by first | rfl | (simp; done) | (simp [*]; done)), H', ⟨by have := HK1.out; have := HK2.out; omega⟩, ⟨by (with_reducible repeat (first | apply Kd.R_alloc | apply Kd.R_drewN | apply Kd.R_drew)); exact HO_5.out⟩, ⟨by (with_reducible repeat (first | refine blk_drewN ?_ _ | refine blk_drew ?_ | refine blk_alloc ?_ _)); exact BK228.out⟩, ⟨by (with_reducible repeat (first | refine blk_drewN ?_ _ | refine blk_drew ?_ | refine blk_alloc ?_ _)); exact BK229.out⟩, ⟨by (with_reducible repeat (first | refine blk_drewN ?_ _ | refine blk_drew ?_ | refine blk_alloc ?_ _)); exact BK230.out⟩, ⟨by repeat (first | (with_reducible first | exact HB.out | apply below_alloc | apply pw_below_drewN | apply below_drew1 | refine below_set ?_ GE228.out | refine below_set ?_ GE229.out | refine below_set ?_ GE230.out) | exact HB.out)⟩⟩
                            · rw [if_neg c28] at H
                              exact absurd H (by simp)
                          · rw [if_neg c27] at H
                            exact absurd H (by simp)
                        · rw [if_neg c25] at H
                          exact absurd H (by simp)
                      · rw [if_neg c24] at H
                        exact absurd H (by simp)
                    · rw [if_neg c23] at H
                      have c23b0 : decide (x30_2 < (l1_1.length : Int)) = false := decide_eq_false c23; clear c23
                      obtain ⟨ji33, hji33⟩ : ∃ j_ : Int, (wrap64 (x22_1 + (l1_1.length : Int))) = j_ := ⟨_, rfl⟩
                      replace H : (if 0 ≤ (ji33) then (if (ji33) < (x5_2.length : Int) then (quadformref01_Mul.l0 k2 (x5_2.set ((ji33) : Int).toNat ((x8_2) % 4294967296)) l0_1 (l0_1.length : Int) (wrap64 (x22_1 + 1)) a0_0 l0_1 a1_0 l1_1) else (none)) else (none)) = some (r1, r2) := by first | (rw [hji33] at H; exact H) | (simp only [hji33] at H ⊢; exact H)
                      have hji33w : (IntKind.i64.wrap (x22_1 + (l1_1.length : Int))) = ji33 := (i64_w _).trans hji33
                      by_cases c34 : 0 ≤ (ji33)
                      · rw [if_pos c34] at H
                        have c34b0 : decide (0 ≤ (ji33)) = true := decide_eq_true c34; clear c34
                        by_cases c35 : (ji33) < (x5_2.length : Int)
                        · rw [if_pos c35] at H
                          have c35b0 : decide ((ji33) < (x5_2.length : Int)) = true := decide_eq_true c35; clear c35
                          obtain ⟨y242, hy242⟩ : ∃ y_ : List Int, y_ = (x5_2.set ((ji33) : Int).toNat ((x8_2) % 4294967296)) := ⟨_, rfl⟩
                          replace H : (quadformref01_Mul.l0 k2 y242 l0_1 (l0_1.length : Int) (wrap64 (x22_1 + 1)) a0_0 l0_1 a1_0 l1_1) = some (r1, r2) := by first | (rw [hy242]; with_reducible exact H) | (have H2_ := (Option.bind_some _ _).symm.trans H; rw [hy242]; with_reducible exact H2_) | (have H2_ := (Option.bind_some _ _).symm.trans H; with_reducible exact H2_) | with_reducible exact H | (rw [hy242]; exact H) | exact H
                          have Ny242 := Aside0.mk hy242; clear hy242; have H' := Aside0.mk H; clear H; have hnb37 := NB229_228.out; have hnc37 := NB228_229.out; have hnb38 := NB229_230.out; have hnc38 := NB230_229.out; have hcz39_0 : wr.cell? ⟨gb229, 0, none⟩ = some (.bool a1_0) := (blk_cell BK229.out 0).trans rfl; have hcz39_1 : wr.cell? ⟨gb229, 1, none⟩ = some (.slice A1_1 l1_1.length c1_1) := (blk_cell BK229.out 1).trans rfl; have hfz39_0 := blk_frozen BK229.out 0; have hfz39_1 := blk_frozen BK229.out 1; have p36 : 0 ≤ ((ji33) : Int) := of_decide_eq_true (by first | (with_reducible assumption) | assumption); have q36 : ((ji33) : Int) < ((x5_2.length : Int) : Int) := of_decide_eq_true (by first | (with_reducible assumption) | assumption); obtain ⟨go36, co36, eo36, gb36, gl36, cl36, HG36⟩ := Kd.R_form HO_5.out (by omega)
                          (first | cases eo36 | (injection eo36 with ea_ en_ ec_; (first | subst ea_ | (injection ea_ with ea_; subst ea_)); subst ec_; clear en_))
                          have GB36 := Aside0.mk gb36; have GG36 := Aside0.mk HG36; clear gb36 gl36 HG36; obtain ⟨hx36_0, hf36_0⟩ := Kd.R_celln 0 HO_5.out ((ji33) : Int) p36 q36; replace p36 := eq_true p36; replace q36 := eq_true q36; have HP40 := Kd.R_putg HO_5.out ((ji33) : Int) ((x8_2) % 4294967296)
                          go_wp2_with (first | ((with_reducible refine gate_store (t := 98) (p := 68) rfl ?_); refine store_event (t := 98) (p := 68) (v := ?vo_w41) (w1 := (wr.setCell ⟨go36, ((ji33) : Int).toNat, none⟩ (.int .u32 ((x8_2) % 4294967296)))) ?hg ?ho ?hn ?hr ?_; (case ho => rfl); (case hg => rfl); (case hn => rfl); (case hr => first | (go_simp; done) | (go_simp; rfl)); intro w41 hw; have hg : wr.grownBy w41 (some go36) := (by rw [hw]; exact HP40.2); have hp_ : Kd.R (Kd.int .u32) 98 w41 w.heap.size (fun _ => True) (.slice (some ⟨go36, 0, none⟩) x5_2.length co36) y242 := (by rw [hw, Ny242.out]; exact HP40.1); clear HP40; have n0_ := Aside0.mk (hp_); have n1_ := Aside0.mk (blk_grown (g := gb228) (o := .cells #[.bool a0_0, .slice (some ad238) l0_1.length c0_1] 24 (0, 0)) (by (with_reducible repeat (first | refine blk_drewN ?_ _ | refine blk_drew ?_ | refine blk_alloc ?_ _)); exact BK228.out) hg (Kd.R_ne HO_5.out BK228.out (by decide))); have n2_ := Aside0.mk (blk_grown (g := gb229) (o := .cells #[.bool a1_0, .slice A1_1 l1_1.length c1_1] 24 (0, 0)) (by (with_reducible repeat (first | refine blk_drewN ?_ _ | refine blk_drew ?_ | refine blk_alloc ?_ _)); exact BK229.out) hg (Kd.R_ne HO_5.out BK229.out (by decide))); have n3_ := Aside0.mk (blk_grown (g := gb230) (o := .cells #[.bool false, .slice none 0 0] 24 (0, 0)) (by (with_reducible repeat (first | refine blk_drewN ?_ _ | refine blk_drew ?_ | refine blk_alloc ?_ _)); exact BK230.out) hg (Kd.R_ne HO_5.out BK230.out (by decide))); have n4_ := Aside0.mk ((by rw [hw]; exact below_set (HB.out) GB36.out : Below w.heap.size w w41)); clear HO_5; clear BK228; clear BK229; clear BK230; clear HB; have HO_5 := n0_; have BK228 := n1_; have BK229 := n2_; have BK230 := n3_; have HB := n4_; clear n0_ n1_ n2_ n3_ n4_; clear hg hw hp_))
                          go_roundg k2
                          case measure => have := HK1.out; have := HK2.out; omega
                          case rel => exact ⟨(y242), (wrap64 (x22_1 + 1)), (by first | rfl | (simp; done) | (simp [*]; done)), H', ⟨by have := HK1.out; have := HK2.out; omega⟩, ⟨by (with_reducible repeat (first | apply Kd.R_alloc | apply Kd.R_drewN | apply Kd.R_drew)); exact HO_5.out⟩, ⟨by (with_reducible repeat (first | refine blk_drewN ?_ _ | refine blk_drew ?_ | refine blk_alloc ?_ _)); exact BK228.out⟩, ⟨by (with_reducible repeat (first | refine blk_drewN ?_ _ | refine blk_drew ?_ | refine blk_alloc ?_ _)); exact BK229.out⟩, ⟨by (with_reducible repeat (first | refine blk_drewN ?_ _ | refine blk_drew ?_ | refine blk_alloc ?_ _)); exact BK230.out⟩, ⟨by repeat (first | (with_reducible first | exact HB.out | apply below_alloc | apply pw_below_drewN | apply below_drew1 | refine below_set ?_ GE228.out | refine below_set ?_ GE229.out | refine below_set ?_ GE230.out) | exact HB.out)⟩⟩
                        · rw [if_neg c35] at H
                          exact absurd H (by simp)
                      · rw [if_neg c34] at H
                        exact absurd H (by simp)
              · rw [if_neg c19] at H
                exact absurd H (by simp)
            · rw [if_neg c18] at H
              exact absurd H (by simp)
          · rw [if_neg c17] at H
            have c17b0 : decide (x22_1 < (l0_1.length : Int)) = false := decide_eq_false c17; clear c17; replace H := Option.bind_eq_some_iff.mp H; obtain ⟨⟨t234, t235⟩, A420, H⟩ := H; replace H : (some (t234, t235)) = some (r1, r2) := H; have A42 := Aside0.mk A420; clear A420
            simp only [Option.some.injEq, Prod.mk.injEq] at H
            obtain ⟨rfl, rfl⟩ := H; have hnb43 := NB228_229.out; have hnc43 := NB229_228.out; have hnb44 := NB228_230.out; have hnc44 := NB230_228.out; have hcz45_0 : wr.cell? ⟨gb228, 0, none⟩ = some (.bool a0_0) := (blk_cell BK228.out 0).trans rfl; have hcz45_1 : wr.cell? ⟨gb228, 1, none⟩ = some (.slice A0_1 l0_1.length c0_1) := (blk_cell BK228.out 1).trans rfl; have hfz45_0 := blk_frozen BK228.out 0; have hfz45_1 := blk_frozen BK228.out 1; have hnb46 := NB229_230.out; have hnc46 := NB230_229.out; have hcz47_0 : wr.cell? ⟨gb229, 0, none⟩ = some (.bool a1_0) := (blk_cell BK229.out 0).trans rfl; have hcz47_1 : wr.cell? ⟨gb229, 1, none⟩ = some (.slice A1_1 l1_1.length c1_1) := (blk_cell BK229.out 1).trans rfl; have hfz47_0 := blk_frozen BK229.out 0; have hfz47_1 := blk_frozen BK229.out 1; obtain ⟨Ao48, co48, eo48⟩ := Kd.R_slice HO_5.out; subst eo48
            go_wp2_with (first | ((with_reducible refine gate_callee (f := 67) rfl ?_); refine goesL_ (some 76) rfl rfl Try.func67 (by kernel_rfl) rfl #[.bool (a0_0 != a1_0), .slice Ao48 x5_1.length co48] rfl (by (try simp only [List.map_toArray, List.map_cons, List.map_nil]); first | done | rfl | (simp only [List.length_drop, List.length_take]; rfl)) ?_; (with_reducible refine (quadformref01_Make.calls (a0_0 != a1_0) _ _ x5_1 t234 t235 _ ?side1 ?side2 A42.out).mono ?_); (case side1 => repeat (first | exact (Kd.R_reads' HO_5.out).2.2 | (with_reducible refine Kd.C_alloc ?_ _) | (with_reducible refine Kd.C_drewN ?_ _) | (with_reducible refine Kd.C_drew ?_))); (case side2 => exact (Kd.R_reads' HO_5.out).2.1); rintro e w49 ⟨v236, rfl, ho0, hb⟩; refine ⟨_, rfl, ?_⟩; have n0_ := Aside0.mk (Kd.R_elder' (by (with_reducible repeat (first | apply Kd.R_alloc | apply Kd.R_drewN | apply Kd.R_drew)); exact HO_5.out) (Kd.R_base ho0) hb); have n1_ := Aside0.mk (Kd.R_lower (Kd.R_new' ho0 (Kd.R_lt (by (with_reducible repeat (first | apply Kd.R_alloc | apply Kd.R_drewN | apply Kd.R_drew)); exact HO_5.out))) (below_size (by repeat (first | (with_reducible first | exact HB.out | apply below_alloc | apply pw_below_drewN | apply below_drew1 | refine below_set ?_ GE228.out | refine below_set ?_ GE229.out | refine below_set ?_ GE230.out) | exact HB.out)))); have n2_ := Aside0.mk (blk_below (g := gb228) (o := .cells #[.bool a0_0, .slice A0_1 l0_1.length c0_1] 24 (0, 0)) (by (with_reducible repeat (first | refine blk_drewN ?_ _ | refine blk_drew ?_ | refine blk_alloc ?_ _)); exact BK228.out) hb); have n3_ := Aside0.mk (blk_below (g := gb229) (o := .cells #[.bool a1_0, .slice A1_1 l1_1.length c1_1] 24 (0, 0)) (by (with_reducible repeat (first | refine blk_drewN ?_ _ | refine blk_drew ?_ | refine blk_alloc ?_ _)); exact BK229.out) hb); have n4_ := Aside0.mk (blk_below (g := gb230) (o := .cells #[.bool false, .slice none 0 0] 24 (0, 0)) (by (with_reducible repeat (first | refine blk_drewN ?_ _ | refine blk_drew ?_ | refine blk_alloc ?_ _)); exact BK230.out) hb); have n5_ := Aside0.mk (below_step (by repeat (first | (with_reducible first | exact HB.out | apply below_alloc | apply pw_below_drewN | apply below_drew1 | refine below_set ?_ GE228.out | refine below_set ?_ GE229.out | refine below_set ?_ GE230.out) | exact HB.out)) hb); clear HO_5; clear BK228; clear BK229; clear BK230; clear HB; have HO_5 := n0_; have HO237 := n1_; have BK228 := n2_; have BK229 := n3_; have BK230 := n4_; have HB := n5_; clear n0_ n1_ n2_ n3_ n4_ n5_; (try clear hb); (try clear hb2); (try clear hk); (try clear hi); (try clear ho0); have hcz50_0 : w49.cell? ⟨gb230, 0, none⟩ = some (.bool false) := (blk_cell BK230.out 0).trans rfl; have hcz50_1 : w49.cell? ⟨gb230, 1, none⟩ = some (.slice none 0 0) := (blk_cell BK230.out 1).trans rfl; have hfz50_0 := blk_frozen BK230.out 0; have hfz50_1 := blk_frozen BK230.out 1; obtain ⟨Ao51, co51, eo51⟩ := Kd.R_slice HO237.out; subst eo51))
            refine bodyPost_ret (results_cell_row rfl _ _ gb230 24 #[.bool t234, .slice Ao51 t235.length co51] (0, 0) _ rfl (by (with_reducible repeat (first | refine blk_drewN ?_ _ | refine blk_drew ?_ | refine blk_alloc ?_ _)); refine blk_put (cs := #[.bool t234, .slice none 0 0]) ?_ 1 _ rfl; (with_reducible repeat (first | refine blk_drewN ?_ _ | refine blk_drew ?_ | refine blk_alloc ?_ _)); refine blk_put (cs := #[.bool false, .slice none 0 0]) ?_ 0 _ rfl; (with_reducible repeat (first | refine blk_drewN ?_ _ | refine blk_drew ?_ | refine blk_alloc ?_ _)); exact BK230.out) Try.underlying24 rfl (by kernel_rfl)) rfl ?_
            exact ⟨_, by first | rfl | (simp [errW_none, errW_some] <;> rfl) | (simp only [← hji3]; first | rfl | (simp [errW_none, errW_some] <;> rfl)) | (simp [*, errW_none, errW_some] <;> rfl), by (with_reducible repeat (first | apply Kd.R_alloc | apply Kd.R_drewN | apply Kd.R_drew)); exact Kd.R_mono (Kd.R_far (p := ⟨gb230, 1, none⟩) (Kd.R_far (p := ⟨gb230, 0, none⟩) (Kd.R_types HO237.out BK230.out (by decide)) (fun _ hk => hk.2) (.bool t234)) (fun _ hk => hk.2) (.slice Ao51 t235.length co51)) (fun _ hk => trivial), by repeat (first | (with_reducible first | exact HB.out | apply below_alloc | apply pw_below_drewN | apply below_drew1 | refine below_set ?_ GE228.out | refine below_set ?_ GE229.out | refine below_set ?_ GE230.out) | exact HB.out)⟩
    · rw [if_neg c5] at H
      exact absurd H (by simp)
  · rw [if_neg c4] at H
    exact absurd H (by simp)
end Go.Proofs.Ytpkgckccfanchaa.M

namespace Go.Proofs.Ytpkgckccfanchaa.M
open Go.RowKit Go.Proofs.YtpkgckccfanchaaW.PrintWords Go.Proofs.YtpkgckccfanchaaW.PrintLast Go.Proofs.YtpkgckccfanchaaW.PrintMore
attribute [local go_sem] max2_int min2_int max_two min_two max_three min_three max_four min_four
set_option linter.unusedVariables false
set_option linter.unusedSimpArgs false
def quadformref01_cmp.l0 : Nat → List Int → List Int → Int → Option (Int)
  | 0, _, _, _ => none
  | k + 1, x0, x1, x5 => if x5 ≥ 0 then (if 0 ≤ x5 then (if x5 < (x0.length : Int) then (if x5 < (x1.length : Int) then (if (rd x0 x5) = (rd x1 x5) then (quadformref01_cmp.l0 k x0 x1 (wrap64 (x5 - 1))) else (if (rd x0 x5) < (rd x1 x5) then (some (-1)) else (some 1))) else (none)) else (none)) else (none)) else (some 0)
def quadformref01_cmp.f (k : Nat) (l0 : List Int) (l1 : List Int) : Option (Int) := if (l0.length : Int) = (l1.length : Int) then (quadformref01_cmp.l0 k l0 l1 (wrap64 ((l0.length : Int) - 1))) else (if (l0.length : Int) < (l1.length : Int) then (some (-1)) else (some 1))
theorem quadformref01_cmp.mono_l : ∀ k, (∀ y0 y1 y2, LeO (quadformref01_cmp.l0 k y0 y1 y2) (quadformref01_cmp.l0 (k + 1) y0 y1 y2))
  | 0 => fun _ _ _ r h => by simp [quadformref01_cmp.l0] at h
  | k + 1 => by
    have ih0 := quadformref01_cmp.mono_l k
    · intro y0 y1 y2
      unfold quadformref01_cmp.l0
      repeat' first
      | (with_reducible exact ih0 _ _ _)
      | (with_reducible exact LeO.refl _)
      | (with_reducible exact LeO.none _)
      | (with_reducible refine LeO.ite ?_ ?_)
      | (with_reducible refine LeO.bind ?_ (fun _ => ?_))
      | exact ih0 _ _ _
      | exact LeO.none _
      | refine LeO.ite ?_ ?_
      | refine LeO.bind ?_ (fun _ => ?_)
theorem quadformref01_cmp.mono : ∀ a0 a1 k, LeO (quadformref01_cmp.f k a0 a1) (quadformref01_cmp.f (k + 1) a0 a1) := by
  intro a0 a1 k; have ih0 := quadformref01_cmp.mono_l k
  unfold quadformref01_cmp.f
  repeat' first
      | (with_reducible exact ih0 _ _ _)
      | (with_reducible exact LeO.refl _)
      | (with_reducible exact LeO.none _)
      | (with_reducible refine LeO.ite ?_ ?_)
      | (with_reducible refine LeO.bind ?_ (fun _ => ?_))
      | exact ih0 _ _ _
      | exact LeO.none _
      | refine LeO.ite ?_ ?_
      | refine LeO.bind ?_ (fun _ => ?_)
set_option maxHeartbeats 8000000 in
set_option maxRecDepth 100000 in
theorem quadformref01_cmp.calls (k : Nat) (A0 : Option Addr) (c0 : Nat) (l0 : List Int) (A1 : Option Addr) (c1 : Nat) (l1 : List Int) (r : Int) (w : World) (hr0 : Kd.C (Kd.int .u32) w A0 l0.length l0) (hc0 : l0.length ≤ c0) (hr1 : Kd.C (Kd.int .u32) w A1 l1.length l1) (hc1 : l1.length ≤ c1) (h : quadformref01_cmp.f k l0 l1 = some r) :
    Calls Try.prog 50 #[.slice A0 l0.length c0, .slice A1 l1.length c1] w fun e w' => e = .returned (.int .i64 r) ∧ Drawn0 w w' := by
  have HR0 := Aside0.mk hr0; have HC0 := Aside0.mk hc0; clear hr0 hc0; have HR1 := Aside0.mk hr1; have HC1 := Aside0.mk hc1; clear hr1 hc1; have H : (if (l0.length : Int) = (l1.length : Int) then (quadformref01_cmp.l0 k l0 l1 (wrap64 ((l0.length : Int) - 1))) else (if (l0.length : Int) < (l1.length : Int) then (some (-1)) else (some 1))) = some r := h; clear h
  by_cases c3 : (l0.length : Int) = (l1.length : Int)
  · rw [if_pos c3] at H
    have c3b0 : ((l0.length : Int) == (l1.length : Int)) = true := beq_iff_eq.mpr c3; have c3b1 : ((l0.length : Int) != (l1.length : Int)) = false := bne_eq_false_iff_eq.mpr c3
    have c3b2 : (l0.length == l1.length) = true := by first | simpa using c3 | (simp at c3 ⊢; omega)
    clear c3; have H' := Aside0.mk H; clear H
    go_enter Try.func50, Try.ntmps50
    go_wp2
    repeat (go_quiet (fail); try go_wp2)
    go_loopg [5] k (fun kq v5 w' => ∃ (x5_1 : Int), v5 = .int .i64 x5_1 ∧ Aside0 (quadformref01_cmp.l0 kq l0 l1 x5_1 = some r) ∧ Aside0 (kq ≤ k) ∧ Drawn0 w w')
    case atStart => exact ⟨(wrap64 ((l0.length : Int) - 1)), (by first | rfl | (simp; done) | (simp [*]; done)), H', ⟨Nat.le_refl _⟩, by repeat (first | exact Drawn0.refl _ | apply Drawn0.step)⟩
    case round =>
      clear H'
      try clear c1
      try clear p2
      try clear c3
      try clear c3b0
      try clear c3b1
      try clear c3b2
      obtain ⟨x5_1, rfl, HA, HK1, ⟨m1, rfl⟩⟩ := hrel; cases gk with
      | zero => exact absurd HA.out (by simp [quadformref01_cmp.l0])
      | succ k1 =>
        have H := HA.out; clear HA
        simp only [quadformref01_cmp.l0] at H
        by_cases c4 : x5_1 ≥ 0
        · rw [if_pos c4] at H
          have c4b0 : decide (0 ≤ x5_1) = true := decide_eq_true c4; clear c4
          by_cases c5 : 0 ≤ x5_1
          · rw [if_pos c5] at H
            have c5b0 : decide (0 ≤ x5_1) = true := decide_eq_true c5; clear c5
            by_cases c6 : x5_1 < (l0.length : Int)
            · rw [if_pos c6] at H
              have c6b0 : decide (x5_1 < (l0.length : Int)) = true := decide_eq_true c6; clear c6
              by_cases c7 : x5_1 < (l1.length : Int)
              · rw [if_pos c7] at H
                have c7b0 : decide (x5_1 < (l1.length : Int)) = true := decide_eq_true c7; clear c7
                by_cases c8 : (rd l0 x5_1) = (rd l1 x5_1)
                · rw [if_pos c8] at H
                  have c8b0 : ((rd l0 x5_1) == (rd l1 x5_1)) = true := beq_iff_eq.mpr c8; have c8b1 : ((rd l0 x5_1) != (rd l1 x5_1)) = false := bne_eq_false_iff_eq.mpr c8; clear c8; have H' := Aside0.mk H; clear H; have p179 : 0 ≤ (x5_1 : Int) := of_decide_eq_true (by first | (with_reducible assumption) | assumption); have q179 : x5_1 < (l0.length : Int) := of_decide_eq_true (by first | (with_reducible assumption) | assumption); obtain ⟨ad179, e179, hx179_0⟩ := Kd.at_int HR0.out x5_1 p179 q179; cases e179; replace p179 := eq_true p179; replace q179 := eq_true q179; have p180 : 0 ≤ (x5_1 : Int) := of_decide_eq_true (by first | (with_reducible assumption) | assumption); have q180 : x5_1 < (l1.length : Int) := of_decide_eq_true (by first | (with_reducible assumption) | assumption); obtain ⟨ad180, e180, hx180_0⟩ := Kd.at_int HR1.out x5_1 p180 q180; cases e180; replace p180 := eq_true p180; replace q180 := eq_true q180
                  go_wp2
                  repeat (go_quiet (fail); try go_wp2)
                  go_roundg k1
                  case measure => have := HK1.out; omega
                  case rel => exact ⟨(wrap64 (x5_1 - 1)), (by first | rfl | (simp; done) | (simp [*]; done)), H', ⟨by have := HK1.out; omega⟩, by repeat (first | exact Drawn0.refl _ | apply Drawn0.step)⟩
                · rw [if_neg c8] at H
                  have c8b0 : ((rd l0 x5_1) == (rd l1 x5_1)) = false := beq_eq_false_iff_ne.mpr c8; have c8b1 : ((rd l0 x5_1) != (rd l1 x5_1)) = true := bne_iff_ne.mpr c8
                  by_cases c9 : (rd l0 x5_1) < (rd l1 x5_1)
                  · rw [if_pos c9] at H
                    have c9b0 : decide ((rd l0 x5_1) < (rd l1 x5_1)) = true := decide_eq_true c9; clear c9; obtain rfl := Option.some.inj H; have p179 : 0 ≤ (x5_1 : Int) := of_decide_eq_true (by first | (with_reducible assumption) | assumption); have q179 : x5_1 < (l0.length : Int) := of_decide_eq_true (by first | (with_reducible assumption) | assumption); obtain ⟨ad179, e179, hx179_0⟩ := Kd.at_int HR0.out x5_1 p179 q179; cases e179; replace p179 := eq_true p179; replace q179 := eq_true q179; have p180 : 0 ≤ (x5_1 : Int) := of_decide_eq_true (by first | (with_reducible assumption) | assumption); have q180 : x5_1 < (l1.length : Int) := of_decide_eq_true (by first | (with_reducible assumption) | assumption); obtain ⟨ad180, e180, hx180_0⟩ := Kd.at_int HR1.out x5_1 p180 q180; cases e180; replace p180 := eq_true p180; replace q180 := eq_true q180; have p181 : 0 ≤ (x5_1 : Int) := of_decide_eq_true (by first | (with_reducible assumption) | assumption); have q181 : x5_1 < (l0.length : Int) := of_decide_eq_true (by first | (with_reducible assumption) | assumption); obtain ⟨ad181, e181, hx181_0⟩ := Kd.at_int HR0.out x5_1 p181 q181
                    obtain rfl : ad179 = ad181 := (by injection e181)
                    replace p181 := eq_true p181; replace q181 := eq_true q181; have p182 : 0 ≤ (x5_1 : Int) := of_decide_eq_true (by first | (with_reducible assumption) | assumption); have q182 : x5_1 < (l1.length : Int) := of_decide_eq_true (by first | (with_reducible assumption) | assumption); obtain ⟨ad182, e182, hx182_0⟩ := Kd.at_int HR1.out x5_1 p182 q182
                    obtain rfl : ad180 = ad182 := (by injection e182)
                    replace p182 := eq_true p182; replace q182 := eq_true q182
                    go_wp2
                    repeat (go_quiet (fail); try go_wp2)
                    go_ret
                    exact ⟨by first | rfl | (simp; done) | (simp [*]; done), by repeat (first | exact Drawn0.refl _ | apply Drawn0.step)⟩
                  · rw [if_neg c9] at H
                    have c9b0 : decide ((rd l0 x5_1) < (rd l1 x5_1)) = false := decide_eq_false c9; clear c9; obtain rfl := Option.some.inj H; have p179 : 0 ≤ (x5_1 : Int) := of_decide_eq_true (by first | (with_reducible assumption) | assumption); have q179 : x5_1 < (l0.length : Int) := of_decide_eq_true (by first | (with_reducible assumption) | assumption); obtain ⟨ad179, e179, hx179_0⟩ := Kd.at_int HR0.out x5_1 p179 q179; cases e179; replace p179 := eq_true p179; replace q179 := eq_true q179; have p180 : 0 ≤ (x5_1 : Int) := of_decide_eq_true (by first | (with_reducible assumption) | assumption); have q180 : x5_1 < (l1.length : Int) := of_decide_eq_true (by first | (with_reducible assumption) | assumption); obtain ⟨ad180, e180, hx180_0⟩ := Kd.at_int HR1.out x5_1 p180 q180; cases e180; replace p180 := eq_true p180; replace q180 := eq_true q180; have p181 : 0 ≤ (x5_1 : Int) := of_decide_eq_true (by first | (with_reducible assumption) | assumption); have q181 : x5_1 < (l0.length : Int) := of_decide_eq_true (by first | (with_reducible assumption) | assumption); obtain ⟨ad181, e181, hx181_0⟩ := Kd.at_int HR0.out x5_1 p181 q181
                    obtain rfl : ad179 = ad181 := (by injection e181)
                    replace p181 := eq_true p181; replace q181 := eq_true q181; have p182 : 0 ≤ (x5_1 : Int) := of_decide_eq_true (by first | (with_reducible assumption) | assumption); have q182 : x5_1 < (l1.length : Int) := of_decide_eq_true (by first | (with_reducible assumption) | assumption); obtain ⟨ad182, e182, hx182_0⟩ := Kd.at_int HR1.out x5_1 p182 q182
                    obtain rfl : ad180 = ad182 := (by injection e182)
                    replace p182 := eq_true p182; replace q182 := eq_true q182
                    go_wp2
                    repeat (go_quiet (fail); try go_wp2)
                    go_ret
                    exact ⟨by first | rfl | (simp; done) | (simp [*]; done), by repeat (first | exact Drawn0.refl _ | apply Drawn0.step)⟩
              · rw [if_neg c7] at H
                exact absurd H (by simp)
            · rw [if_neg c6] at H
              exact absurd H (by simp)
          · rw [if_neg c5] at H
            exact absurd H (by simp)
        · rw [if_neg c4] at H
          have c4b0 : decide (0 ≤ x5_1) = false := decide_eq_false c4; clear c4; obtain rfl := Option.some.inj H
          go_wp2
          repeat (go_quiet (fail); try go_wp2)
          go_ret
          exact ⟨by first | rfl | (simp; done) | (simp [*]; done), by repeat (first | exact Drawn0.refl _ | apply Drawn0.step)⟩
  · rw [if_neg c3] at H
    have c3b0 : ((l0.length : Int) == (l1.length : Int)) = false := beq_eq_false_iff_ne.mpr c3; have c3b1 : ((l0.length : Int) != (l1.length : Int)) = true := bne_iff_ne.mpr c3
    have c3b2 : (l0.length == l1.length) = false := by first | simpa using c3 | (simp at c3 ⊢; omega)
    by_cases c10 : (l0.length : Int) < (l1.length : Int)
    · rw [if_pos c10] at H
      have c10b0 : decide ((l0.length : Int) < (l1.length : Int)) = true := decide_eq_true c10; have c10b1 : decide (l0.length < l1.length) = true := decide_eq_true (Int.ofNat_lt.mp c10); clear c10; obtain rfl := Option.some.inj H
      go_enter Try.func50, Try.ntmps50
      go_wp2
      repeat (go_quiet (fail); try go_wp2)
      go_ret
      exact ⟨by first | rfl | (simp; done) | (simp [*]; done), by repeat (first | exact Drawn0.refl _ | apply Drawn0.step)⟩
    · rw [if_neg c10] at H
      have c10b0 : decide ((l0.length : Int) < (l1.length : Int)) = false := decide_eq_false c10; have c10b1 : decide (l0.length < l1.length) = false := decide_eq_false (fun h => c10 (Int.ofNat_lt.mpr h)); clear c10; obtain rfl := Option.some.inj H
      go_enter Try.func50, Try.ntmps50
      go_wp2
      repeat (go_quiet (fail); try go_wp2)
      go_ret
      exact ⟨by first | rfl | (simp; done) | (simp [*]; done), by repeat (first | exact Drawn0.refl _ | apply Drawn0.step)⟩
end Go.Proofs.Ytpkgckccfanchaa.M
