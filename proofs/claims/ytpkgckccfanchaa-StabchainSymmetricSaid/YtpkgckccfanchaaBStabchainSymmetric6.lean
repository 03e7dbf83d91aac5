/- Part of the proof of StabchainSymmetric, merged by wip/tools/merge.py. -/
import Derived.Test.YtpkgckccfanchaaBStabchainSymmetric2
import Derived.Test.YtpkgckccfanchaaBStabchainSymmetric5

/- ## M4 -/
-- Written by wip/tools/pp.py (a driver round the kit's printer, with patches of this session): not a printed file.
namespace Go.Proofs.Ytpkgckccfanchaa.M
open Go.RowKit Go.Proofs.YtpkgckccfanchaaW.PrintWords Go.Proofs.YtpkgckccfanchaaW.PrintLast Go.Proofs.YtpkgckccfanchaaW.PrintMore
attribute [local go_sem] max2_int min2_int max_two min_two max_three min_three max_four min_four   -- for this text's walks alone
set_option linter.unusedVariables false
set_option linter.unusedSimpArgs false

/-! ### stabchain_permutations: function 55 -/
def stabchain_permutations.l0 : Nat → Int → List (List Int) → Int → Int → Option (Bool)
  | 0, _, _, _, _ => none
  | k + 1, x0, x7, x8, x9 => if x9 < x8 then (if 0 ≤ x9 then (if x9 < (x7.length : Int) then (if ((rd_L1 x7 x9).length : Int) = x0 then ((permutation_Valid.f k (rd_L1 x7 x9)).bind fun t113 => (if t113 = true then (stabchain_permutations.l0 k x0 x7 x8 (wrap64 (x9 + 1))) else (some false))) else (some false)) else (none)) else (none)) else (some true)
def stabchain_permutations.f (k : Nat) (a0 : Int) (l1 : List (List Int)) : Option (Bool) := stabchain_permutations.l0 k a0 l1 (l1.length : Int) 0
theorem stabchain_permutations.mono_l : ∀ k, (∀ y0 y1 y2 y3, LeO (stabchain_permutations.l0 k y0 y1 y2 y3) (stabchain_permutations.l0 (k + 1) y0 y1 y2 y3))
  | 0 => fun _ _ _ _ r h => by simp [stabchain_permutations.l0] at h
  | k + 1 => by
    have ih0 := stabchain_permutations.mono_l k
    · intro y0 y1 y2 y3
      unfold stabchain_permutations.l0
      repeat' first
      | (with_reducible exact ih0 _ _ _ _)
      | (with_reducible exact permutation_Valid.mono _ _)
      | (with_reducible exact LeO.refl _)
      | (with_reducible exact LeO.none _)
      | (with_reducible refine LeO.ite ?_ ?_)
      | (with_reducible refine LeO.bind ?_ (fun _ => ?_))
      | exact ih0 _ _ _ _
      | exact permutation_Valid.mono _ _
      | exact LeO.none _
      | refine LeO.ite ?_ ?_
      | refine LeO.bind ?_ (fun _ => ?_)
theorem stabchain_permutations.mono : ∀ a0 a1 k, LeO (stabchain_permutations.f k a0 a1) (stabchain_permutations.f (k + 1) a0 a1) := by
  intro a0 a1 k
  have ih0 := stabchain_permutations.mono_l k
  unfold stabchain_permutations.f
  repeat' first
      | (with_reducible exact ih0 _ _ _ _)
      | (with_reducible exact permutation_Valid.mono _ _)
      | (with_reducible exact LeO.refl _)
      | (with_reducible exact LeO.none _)
      | (with_reducible refine LeO.ite ?_ ?_)
      | (with_reducible refine LeO.bind ?_ (fun _ => ?_))
      | exact ih0 _ _ _ _
      | exact permutation_Valid.mono _ _
      | exact LeO.none _
      | refine LeO.ite ?_ ?_
      | refine LeO.bind ?_ (fun _ => ?_)
set_option maxHeartbeats 8000000 in
set_option maxRecDepth 100000 in
theorem stabchain_permutations.calls (k : Nat) (a0 : Int) (A1 : Option Addr) (c1 : Nat) (l1 : List (List Int)) (r : Bool) (w : World) (hr1 : Kd.C (Kd.slice 3 (Kd.int .i64)) w A1 l1.length l1) (hc1 : l1.length ≤ c1) (h : stabchain_permutations.f k a0 l1 = some r) :
    Calls Try.prog 55 #[.int .i64 a0, .slice A1 l1.length c1] w fun e w' => e = .returned (.bool r) ∧ Below w.heap.size w w' := by
  have HR1 := Aside0.mk hr1
  have HC1 := Aside0.mk hc1
  clear hr1 hc1
  have HB := Aside0.mk (Below.refl w.heap.size w)
  have H : (stabchain_permutations.l0 k a0 l1 (l1.length : Int) 0) = some r := h
  clear h
  have H' := Aside0.mk H
  clear H
  go_enter Try.func55, Try.ntmps55
  go_wp2
  go_loopg [9] k (fun kq v9 w' => ∃ (x9_1 : Int), v9 = .int .i64 x9_1 ∧ Aside0 (stabchain_permutations.l0 kq a0 l1 (l1.length : Int) x9_1 = some r) ∧ Aside0 (kq ≤ k) ∧ Aside0 (Below w.heap.size w w'))
  case atStart => exact ⟨(0), (by first | rfl | (simp; done) | (simp [*]; done)), H', ⟨Nat.le_refl _⟩, ⟨by repeat (first | (with_reducible first | exact HB.out | apply below_alloc | apply pw_below_drewN | apply below_drew1) | exact HB.out)⟩⟩
  case round =>
    clear H'
    try clear c1
    try clear p2
    obtain ⟨x9_1, rfl, HA, HK1, HB⟩ := hrel
    cases gk with
    | zero => exact absurd HA.out (by simp [stabchain_permutations.l0])
    | succ k1 =>
      have H := HA.out
      clear HA
      simp only [stabchain_permutations.l0] at H
      by_cases c3 : x9_1 < (l1.length : Int)
      · rw [if_pos c3] at H
        have c3b0 : decide (x9_1 < (l1.length : Int)) = true := decide_eq_true c3
        clear c3
        by_cases c4 : 0 ≤ x9_1
        · rw [if_pos c4] at H
          have c4b0 : decide (0 ≤ x9_1) = true := decide_eq_true c4
          clear c4
          by_cases c5 : x9_1 < (l1.length : Int)
          · rw [if_pos c5] at H
            have c5b0 : decide (x9_1 < (l1.length : Int)) = true := decide_eq_true c5
            clear c5
            by_cases c6 : ((rd_L1 l1 x9_1).length : Int) = a0
            · rw [if_pos c6] at H
              have c6b0 : (((rd_L1 l1 x9_1).length : Int) == a0) = true := beq_iff_eq.mpr c6
              have c6b1 : (((rd_L1 l1 x9_1).length : Int) != a0) = false := bne_eq_false_iff_eq.mpr c6
              clear c6
              replace H := Option.bind_eq_some_iff.mp H
              obtain ⟨t113, A70, H⟩ := H
              replace H : (if t113 = true then (stabchain_permutations.l0 k1 a0 l1 (l1.length : Int) (wrap64 (x9_1 + 1))) else (some false)) = some r := H
              have A7 := Aside0.mk A70
              clear A70
              by_cases c8 : t113 = true
              · subst c8
                have H1 : (stabchain_permutations.l0 k1 a0 l1 (l1.length : Int) (wrap64 (x9_1 + 1))) = some r := by rw [if_pos rfl] at H; exact H
                clear H
                have H := H1
                clear H1
                have H' := Aside0.mk H
                clear H
                have p112 : 0 ≤ (x9_1 : Int) := of_decide_eq_true (by first | (with_reducible assumption) | assumption)
                have q112 : x9_1 < (l1.length : Int) := of_decide_eq_true (by first | (with_reducible assumption) | assumption)
                obtain ⟨ad112, A112_0, c112_0, e112, hx112_0, hl112_0, hi112_0⟩ := at_L1 HR1.out x9_1 p112 q112
                cases e112
                replace hx112_0 := (HB.out.cell (World.block_lt_of_cell? w _ hx112_0)).trans hx112_0
                have HR112_0 := Aside0.mk hi112_0
                have HC112_0 := Aside0.mk hl112_0
                clear hi112_0 hl112_0
                replace p112 := eq_true p112
                replace q112 := eq_true q112
                go_wp2_with (first | (go_at_call 91; (with_reducible refine (permutation_Valid.calls k1 _ _ (rd_L1 l1 x9_1) true _ ?side1 ?side2 A7.out).mono ?_); (case side1 => repeat (first | exact (Kd.C_below HR112_0.out HB.out) | (with_reducible refine Kd.C_alloc ?_ _) | (with_reducible refine Kd.C_drewN ?_ _) | (with_reducible refine Kd.C_drew ?_))); (case side2 => exact HC112_0.out); rintro e w9 ⟨rfl, hb⟩; have n0_ := Aside0.mk (below_step (by repeat (first | (with_reducible first | exact HB.out | apply below_alloc | apply pw_below_drewN | apply below_drew1) | exact HB.out)) hb); clear HB; have HB := n0_; clear n0_; (try clear hb); (try clear hb2); (try clear hk); (try clear hi)))
                go_roundg k1
                case measure => have := HK1.out; omega
                case rel => exact ⟨(wrap64 (x9_1 + 1)), (by first | rfl | (simp; done) | (simp [*]; done)), H', ⟨by have := HK1.out; omega⟩, ⟨by repeat (first | (with_reducible first | exact HB.out | apply below_alloc | apply pw_below_drewN | apply below_drew1) | exact HB.out)⟩⟩
              · replace c8 := Bool.eq_false_iff.mpr c8
                subst c8
                have H1 : (some false) = some r := by rw [if_neg (show ¬ (false = true) by decide)] at H; exact H
                clear H
                have H := H1
                clear H1
                obtain rfl := Option.some.inj H
                have p112 : 0 ≤ (x9_1 : Int) := of_decide_eq_true (by first | (with_reducible assumption) | assumption)
                have q112 : x9_1 < (l1.length : Int) := of_decide_eq_true (by first | (with_reducible assumption) | assumption)
                obtain ⟨ad112, A112_0, c112_0, e112, hx112_0, hl112_0, hi112_0⟩ := at_L1 HR1.out x9_1 p112 q112
                cases e112
                replace hx112_0 := (HB.out.cell (World.block_lt_of_cell? w _ hx112_0)).trans hx112_0
                have HR112_0 := Aside0.mk hi112_0
                have HC112_0 := Aside0.mk hl112_0
                clear hi112_0 hl112_0
                replace p112 := eq_true p112
                replace q112 := eq_true q112
                go_wp2_with (first | (go_at_call 91; (with_reducible refine (permutation_Valid.calls k1 _ _ (rd_L1 l1 x9_1) false _ ?side1 ?side2 A7.out).mono ?_); (case side1 => repeat (first | exact (Kd.C_below HR112_0.out HB.out) | (with_reducible refine Kd.C_alloc ?_ _) | (with_reducible refine Kd.C_drewN ?_ _) | (with_reducible refine Kd.C_drew ?_))); (case side2 => exact HC112_0.out); rintro e w10 ⟨rfl, hb⟩; have n0_ := Aside0.mk (below_step (by repeat (first | (with_reducible first | exact HB.out | apply below_alloc | apply pw_below_drewN | apply below_drew1) | exact HB.out)) hb); clear HB; have HB := n0_; clear n0_; (try clear hb); (try clear hb2); (try clear hk); (try clear hi)))
                go_ret
                exact ⟨by first | rfl | (simp [errW_none, errW_some] <;> rfl) | (simp [*, errW_none, errW_some] <;> rfl), by repeat (first | (with_reducible first | exact HB.out | apply below_alloc | apply pw_below_drewN | apply below_drew1) | exact HB.out)⟩
            · rw [if_neg c6] at H
              have c6b0 : (((rd_L1 l1 x9_1).length : Int) == a0) = false := beq_eq_false_iff_ne.mpr c6
              have c6b1 : (((rd_L1 l1 x9_1).length : Int) != a0) = true := bne_iff_ne.mpr c6
              obtain rfl := Option.some.inj H
              have p112 : 0 ≤ (x9_1 : Int) := of_decide_eq_true (by first | (with_reducible assumption) | assumption)
              have q112 : x9_1 < (l1.length : Int) := of_decide_eq_true (by first | (with_reducible assumption) | assumption)
              obtain ⟨ad112, A112_0, c112_0, e112, hx112_0, hl112_0, hi112_0⟩ := at_L1 HR1.out x9_1 p112 q112
              cases e112
              replace hx112_0 := (HB.out.cell (World.block_lt_of_cell? w _ hx112_0)).trans hx112_0
              have HR112_0 := Aside0.mk hi112_0
              have HC112_0 := Aside0.mk hl112_0
              clear hi112_0 hl112_0
              replace p112 := eq_true p112
              replace q112 := eq_true q112
              go_wp2
              go_ret
              exact ⟨by first | rfl | (simp [errW_none, errW_some] <;> rfl) | (simp [*, errW_none, errW_some] <;> rfl), by repeat (first | (with_reducible first | exact HB.out | apply below_alloc | apply pw_below_drewN | apply below_drew1) | exact HB.out)⟩
          · rw [if_neg c5] at H
            exact absurd H (by simp)
        · rw [if_neg c4] at H
          exact absurd H (by simp)
      · rw [if_neg c3] at H
        have c3b0 : decide (x9_1 < (l1.length : Int)) = false := decide_eq_false c3
        clear c3
        obtain rfl := Option.some.inj H
        go_wp2
        go_ret
        exact ⟨by first | rfl | (simp [errW_none, errW_some] <;> rfl) | (simp [*, errW_none, errW_some] <;> rfl), by repeat (first | (with_reducible first | exact HB.out | apply below_alloc | apply pw_below_drewN | apply below_drew1) | exact HB.out)⟩

end Go.Proofs.Ytpkgckccfanchaa.M

/- ## M5 -/
-- Written by wip/tools/pp.py (a driver round the kit's printer, with patches of this session): not a printed file.
namespace Go.Proofs.Ytpkgckccfanchaa.M
open Go.RowKit Go.Proofs.YtpkgckccfanchaaW.PrintWords Go.Proofs.YtpkgckccfanchaaW.PrintLast Go.Proofs.YtpkgckccfanchaaW.PrintMore
attribute [local go_sem] max2_int min2_int max_two min_two max_three min_three max_four min_four   -- for this text's walks alone
set_option linter.unusedVariables false
set_option linter.unusedSimpArgs false

/-! ### stabchain_arguments: function 47 -/
def stabchain_arguments.j0 : Nat → Int → List (List Int) → Bool → Option (Int)
  | 0, _, _, _ => none
  | k + 1, x0, x1, x10 => if x10 = true then (some 1) else (if (x1.length : Int) > 64 then (some 7) else ((stabchain_permutations.f k x0 x1).bind fun t114 => (if t114 = true then (some 0) else (some 3))))
def stabchain_arguments.f (k : Nat) (a0 : Int) (l1 : List (List Int)) : Option (Int) := if a0 < 1 then (stabchain_arguments.j0 k a0 l1 true) else (stabchain_arguments.j0 k a0 l1 (decide (a0 > 512)))
theorem stabchain_arguments.mono_l : ∀ k, (∀ y0 y1 y2, LeO (stabchain_arguments.j0 k y0 y1 y2) (stabchain_arguments.j0 (k + 1) y0 y1 y2))
  | 0 => fun _ _ _ r h => by simp [stabchain_arguments.j0] at h
  | k + 1 => by
    have ih0 := stabchain_arguments.mono_l k
    · intro y0 y1 y2
      unfold stabchain_arguments.j0
      repeat' first
      | (with_reducible exact ih0 _ _ _)
      | (with_reducible exact stabchain_permutations.mono _ _ _)
      | (with_reducible exact LeO.refl _)
      | (with_reducible exact LeO.none _)
      | (with_reducible refine LeO.ite ?_ ?_)
      | (with_reducible refine LeO.bind ?_ (fun _ => ?_))
      | exact ih0 _ _ _
      | exact stabchain_permutations.mono _ _ _
      | exact LeO.none _
      | refine LeO.ite ?_ ?_
      | refine LeO.bind ?_ (fun _ => ?_)
theorem stabchain_arguments.mono : ∀ a0 a1 k, LeO (stabchain_arguments.f k a0 a1) (stabchain_arguments.f (k + 1) a0 a1) := by
  intro a0 a1 k
  have ih0 := stabchain_arguments.mono_l k
  unfold stabchain_arguments.f
  repeat' first
      | (with_reducible exact ih0 _ _ _)
      | (with_reducible exact stabchain_permutations.mono _ _ _)
      | (with_reducible exact LeO.refl _)
      | (with_reducible exact LeO.none _)
      | (with_reducible refine LeO.ite ?_ ?_)
      | (with_reducible refine LeO.bind ?_ (fun _ => ?_))
      | exact ih0 _ _ _
      | exact stabchain_permutations.mono _ _ _
      | exact LeO.none _
      | refine LeO.ite ?_ ?_
      | refine LeO.bind ?_ (fun _ => ?_)
set_option maxHeartbeats 8000000 in
set_option maxRecDepth 100000 in
theorem stabchain_arguments.calls (k : Nat) (a0 : Int) (A1 : Option Addr) (c1 : Nat) (l1 : List (List Int)) (r : Int) (w : World) (hr1 : Kd.C (Kd.slice 3 (Kd.int .i64)) w A1 l1.length l1) (hc1 : l1.length ≤ c1) (h : stabchain_arguments.f k a0 l1 = some r) :
    Calls Try.prog 47 #[.int .i64 a0, .slice A1 l1.length c1] w fun e w' => e = .returned (.int .i64 r) ∧ Below w.heap.size w w' := by
  have HR1 := Aside0.mk hr1
  have HC1 := Aside0.mk hc1
  clear hr1 hc1
  have HB := Aside0.mk (Below.refl w.heap.size w)
  have H : (if a0 < 1 then (stabchain_arguments.j0 k a0 l1 true) else (stabchain_arguments.j0 k a0 l1 (decide (a0 > 512)))) = some r := h
  clear h
  have HC3 := Aside0.mk H
  clear H
  go_enter Try.func47, Try.ntmps47
  go_upto_region 1 with (fail)
  go_cut [10] (fun v10 wc => ∃ (kq : Nat) (x10_2 : Bool), v10 = .bool x10_2 ∧ Aside0 (stabchain_arguments.j0 kq a0 l1 x10_2 = some r) ∧ Aside0 (kq ≤ k) ∧ Aside0 (Below w.heap.size w wc))
  case first =>
    have H := HC3.out
    clear HC3
    by_cases c4 : a0 < 1
    · rw [if_pos c4] at H
      have c4b0 : decide (a0 < 1) = true := decide_eq_true c4
      clear c4
      (first | rw [c4b0] | (simp only [i64_w, i32_w]; rw [c4b0]) | skip)
      have H' := Aside0.mk H
      clear H
      go_wp2
      go_meet
      case rel => exact ⟨_, (true), (by first | rfl | (simp; done) | (simp [*]; done)), H', ⟨by first | omega | exact Nat.le_refl _⟩, ⟨by repeat (first | (with_reducible first | exact HB.out | apply below_alloc | apply pw_below_drewN | apply below_drew1) | exact HB.out)⟩⟩
    · rw [if_neg c4] at H
      have c4b0 : decide (a0 < 1) = false := decide_eq_false c4
      clear c4
      (first | rw [c4b0] | (simp only [i64_w, i32_w]; rw [c4b0]) | skip)
      have H' := Aside0.mk H
      clear H
      go_wp2
      go_meet
      case rel => exact ⟨_, (decide (a0 > 512)), (by first | rfl | (simp; done) | (simp [*]; done)), H', ⟨by first | omega | exact Nat.le_refl _⟩, ⟨by repeat (first | (with_reducible first | exact HB.out | apply below_alloc | apply pw_below_drewN | apply below_drew1) | exact HB.out)⟩⟩
  case rest =>
    clear HC3
    try clear c1
    try clear p2
    try clear c4
    try clear c4b0
    obtain ⟨kq, x10_2, rfl, HA, HJ2, HB⟩ := hcut
    cases kq with
    | zero => exact absurd HA.out (by simp [stabchain_arguments.j0])
    | succ kj2 =>
      have H := HA.out
      clear HA
      simp only [stabchain_arguments.j0] at H
      by_cases c5 : x10_2 = true
      · subst c5
        have H1 : (some 1) = some r := by rw [if_pos rfl] at H; exact H
        clear H
        have H := H1
        clear H1
        obtain rfl := Option.some.inj H
        go_wp2
        go_ret
        exact ⟨by first | rfl | (simp [errW_none, errW_some] <;> rfl) | (simp [*, errW_none, errW_some] <;> rfl), by repeat (first | (with_reducible first | exact HB.out | apply below_alloc | apply pw_below_drewN | apply below_drew1) | exact HB.out)⟩
      · replace c5 := Bool.eq_false_iff.mpr c5
        subst c5
        have H1 : (if (l1.length : Int) > 64 then (some 7) else ((stabchain_permutations.f kj2 a0 l1).bind fun t114 => (if t114 = true then (some 0) else (some 3)))) = some r := by rw [if_neg (show ¬ (false = true) by decide)] at H; exact H
        clear H
        have H := H1
        clear H1
        by_cases c6 : (l1.length : Int) > 64
        · rw [if_pos c6] at H
          have c6b0 : decide (64 < (l1.length : Int)) = true := decide_eq_true c6
          have c6b1 : decide (64 < l1.length) = true := decide_eq_true (by omega)
          clear c6
          obtain rfl := Option.some.inj H
          go_wp2
          go_ret
          exact ⟨by first | rfl | (simp [errW_none, errW_some] <;> rfl) | (simp [*, errW_none, errW_some] <;> rfl), by repeat (first | (with_reducible first | exact HB.out | apply below_alloc | apply pw_below_drewN | apply below_drew1) | exact HB.out)⟩
        · rw [if_neg c6] at H
          have c6b0 : decide (64 < (l1.length : Int)) = false := decide_eq_false c6
          have c6b1 : decide (64 < l1.length) = false := decide_eq_false (by omega)
          clear c6
          replace H := Option.bind_eq_some_iff.mp H
          obtain ⟨t114, A70, H⟩ := H
          replace H : (if t114 = true then (some 0) else (some 3)) = some r := H
          have A7 := Aside0.mk A70
          clear A70
          by_cases c8 : t114 = true
          · subst c8
            have H1 : (some 0) = some r := by rw [if_pos rfl] at H; exact H
            clear H
            have H := H1
            clear H1
            obtain rfl := Option.some.inj H
            go_wp2_with (first | ((with_reducible refine gate_callee (f := 55) rfl ?_); refine goesL_ (some 16) rfl rfl Try.func55 (by kernel_rfl) rfl #[.int .i64 a0, .slice A1 l1.length c1] rfl (by (try simp only [List.map_toArray, List.map_cons, List.map_nil]); first | done | rfl | (simp only [List.length_drop, List.length_take]; rfl)) ?_; (with_reducible refine (stabchain_permutations.calls kj2 a0 _ _ l1 true _ ?side1 ?side2 A7.out).mono ?_); (case side1 => repeat (first | exact (Kd.C_below HR1.out HB.out) | (with_reducible refine Kd.C_alloc ?_ _) | (with_reducible refine Kd.C_drewN ?_ _) | (with_reducible refine Kd.C_drew ?_))); (case side2 => exact HC1.out); rintro e w9 ⟨rfl, hb⟩; refine ⟨_, rfl, ?_⟩; have n0_ := Aside0.mk (below_step (by repeat (first | (with_reducible first | exact HB.out | apply below_alloc | apply pw_below_drewN | apply below_drew1) | exact HB.out)) hb); clear HB; have HB := n0_; clear n0_; (try clear hb); (try clear hb2); (try clear hk); (try clear hi)))
            go_ret
            exact ⟨by first | rfl | (simp [errW_none, errW_some] <;> rfl) | (simp [*, errW_none, errW_some] <;> rfl), by repeat (first | (with_reducible first | exact HB.out | apply below_alloc | apply pw_below_drewN | apply below_drew1) | exact HB.out)⟩
          · replace c8 := Bool.eq_false_iff.mpr c8
            subst c8
            have H1 : (some 3) = some r := by rw [if_neg (show ¬ (false = true) by decide)] at H; exact H
            clear H
            have H := H1
            clear H1
            obtain rfl := Option.some.inj H
            go_wp2_with (first | ((with_reducible refine gate_callee (f := 55) rfl ?_); refine goesL_ (some 16) rfl rfl Try.func55 (by kernel_rfl) rfl #[.int .i64 a0, .slice A1 l1.length c1] rfl (by (try simp only [List.map_toArray, List.map_cons, List.map_nil]); first | done | rfl | (simp only [List.length_drop, List.length_take]; rfl)) ?_; (with_reducible refine (stabchain_permutations.calls kj2 a0 _ _ l1 false _ ?side1 ?side2 A7.out).mono ?_); (case side1 => repeat (first | exact (Kd.C_below HR1.out HB.out) | (with_reducible refine Kd.C_alloc ?_ _) | (with_reducible refine Kd.C_drewN ?_ _) | (with_reducible refine Kd.C_drew ?_))); (case side2 => exact HC1.out); rintro e w10 ⟨rfl, hb⟩; refine ⟨_, rfl, ?_⟩; have n0_ := Aside0.mk (below_step (by repeat (first | (with_reducible first | exact HB.out | apply below_alloc | apply pw_below_drewN | apply below_drew1) | exact HB.out)) hb); clear HB; have HB := n0_; clear n0_; (try clear hb); (try clear hb2); (try clear hk); (try clear hi)))
            go_ret
            exact ⟨by first | rfl | (simp [errW_none, errW_some] <;> rfl) | (simp [*, errW_none, errW_some] <;> rfl), by repeat (first | (with_reducible first | exact HB.out | apply below_alloc | apply pw_below_drewN | apply below_drew1) | exact HB.out)⟩

end Go.Proofs.Ytpkgckccfanchaa.M

/- ## Gt -/
/- The order of a group. -/
namespace Go.Proofs.Ytpkgckccfanchaa.M
open Go.RowKit Go.Proofs.YtpkgckccfanchaaW.PrintWords Go.Proofs.YtpkgckccfanchaaW.PrintLast Go.Proofs.YtpkgckccfanchaaW.PrintMore
open Sims
set_option linter.unusedVariables false
set_option linter.unusedSimpArgs false
def isPB (n : Nat) (p : List Int) : Bool := decide (p.length = n) && p.all (fun x => decide (0 ≤ x ∧ x < n)) && decide p.Nodup
theorem isPB_ok {n : Nat} {p : List Int} (h : isPB n p = true) : IsP n p := by
  simp only [isPB, Bool.and_eq_true, decide_eq_true_eq, List.all_eq_true] at h
  exact ⟨h.1.1, h.1.2, h.2⟩
def okB (n : Int) (gens : List (List Int)) : Bool := decide (1 ≤ n ∧ n ≤ 11) && gens.all (isPB n.toNat) && decide (gens.length < 1000000)
theorem okB_ok {n : Int} {gens : List (List Int)} (h : okB n gens = true) : ∃ m : Nat, n = (m : Int) ∧ 0 < m ∧ m ≤ 11 ∧ (∀ g ∈ gens, IsP m g) ∧ gens.length < 1000000 := by
  simp only [okB, Bool.and_eq_true, decide_eq_true_eq, List.all_eq_true] at h
  obtain ⟨⟨⟨h1, h2⟩, h3⟩, h4⟩ := h
  refine ⟨n.toNat, by omega, by omega, by omega, fun g hg => isPB_ok (h3 g hg), h4⟩
theorem group_len {n : Nat} {gens : List (List Int)} {base : List Int} {ls : List Lv} (hg : ∀ g ∈ gens, IsP n g) (hb : ∀ x ∈ base, 0 ≤ x ∧ x < n) (hbn : base.Nodup) (h : groupF n (n + 1) gens base = some ls) : ls.length ≤ n := by
  obtain ⟨ls', e, h1, _⟩ := group_ok (Nat.le_refl _) hg hb hbn
  rw [e] at h
  cases h
  have := PC_length h1 List.nodup_nil (fun x hx => by simp at hx)
  simpa using this
theorem C_nil_int (w : World) : Kd.C (Kd.int .i64) w none ([] : List Int).length [] := Kd.C_nil _ _

set_option maxRecDepth 100000 in
theorem newGroup_nil {w : World} {A1 : Option Addr} {c1 n : Nat} {gens : List (List Int)} {ls : List Lv} (hn : 0 < n) (hn11 : n ≤ 11) (hr1 : Kd.C (Kd.slice 3 (Kd.int .i64)) w A1 gens.length gens) (hg : ∀ g ∈ gens, IsP n g) (hl : gens.length < 1000000) (h : groupF n (n + 1) gens [] = some ls) :
    Calls Try.prog 48 #[.int .i64 n, .slice A1 gens.length c1, .slice none 0 0] w fun e w' => ∃ g av cs PB, e = .returned (.pointer (some ⟨g, 0, none⟩)) ∧ GrAt w' w.heap.size PB g n av cs ls ∧ PC n [] ls ∧ Below w.heap.size w w' :=
  (newGroup_calls (base := []) (A2 := none) (c2 := 0) hn hn11 hr1 (C_nil_int _) hg (fun x hx => by simp at hx) List.nodup_nil hl h)
def stabchain_Order.f (k : Nat) (a0 : Int) (l1 : List (List Int)) : Option (Bool × List Int × Int) := (stabchain_arguments.f k a0 l1).bind fun e => if e = 0 then (if okB a0 l1 = true then (groupF a0.toNat (a0.toNat + 1) l1 []).bind fun ls => (stabchain_product.f k (lensF ls)).bind fun r => some (r.1, r.2, 0) else none) else some (false, [], e)
theorem stabchain_Order.mono : ∀ a0 a1 k, LeO (stabchain_Order.f k a0 a1) (stabchain_Order.f (k + 1) a0 a1) := by
  intro a0 a1 k
  unfold stabchain_Order.f
  refine LeO.bind (stabchain_arguments.mono a0 a1 k) (fun e => LeO.ite (LeO.ite (LeO.bind (LeO.refl _) (fun ls => LeO.bind (stabchain_product.mono (lensF ls) k) (fun r => LeO.refl _))) (LeO.refl _)) (LeO.refl _))
set_option maxHeartbeats 4000000 in
set_option maxRecDepth 100000 in
theorem stabchain_Order.calls (k : Nat) (a0 : Int) (A1 : Option Addr) (c1 : Nat) (l1 : List (List Int)) (r1 : Bool) (r2 : List Int) (r3 : Int) (w : World) (hr1 : Kd.C (Kd.slice 3 (Kd.int .i64)) w A1 l1.length l1) (hc1 : l1.length ≤ c1) (h : stabchain_Order.f k a0 l1 = some (r1, r2, r3)) :
    Calls Try.prog 15 #[.int .i64 a0, .slice A1 l1.length c1] w fun e w' => ∃ v1_ : Value, e = .returned (.tuple #[.agg #[.bool r1, v1_], .int .i64 r3]) ∧ Kd.V (Kd.int .u32) 98 w' w.heap.size (fun k_ => (w.heap.size ≤ k_)) v1_ r2 ∧ Below w.heap.size w w' := by
  unfold stabchain_Order.f at h
  obtain ⟨e, he, h⟩ := Option.bind_eq_some_iff.1 h
  have HR1 := Aside0.mk hr1
  have HC1 := Aside0.mk hc1
  have HE := Aside0.mk he
  clear hr1 hc1 he
  by_cases h0 : e = 0
  · rw [if_pos h0] at h
    by_cases hok : okB a0 l1 = true
    · rw [if_pos hok] at h
      obtain ⟨m, rfl, hm, hm11, hg, hl⟩ := okB_ok hok
      rw [Int.toNat_natCast] at h
      obtain ⟨ls, hls, h⟩ := Option.bind_eq_some_iff.1 h
      obtain ⟨r, hr, h⟩ := Option.bind_eq_some_iff.1 h
      have h := Option.some.inj h
      simp only [Prod.mk.injEq] at h
      obtain ⟨e1, e2, e3⟩ := h
      subst e1 e2 e3 h0
      have HM := Aside0.mk hm
      have HGN := Aside0.mk hg
      have HLS := Aside0.mk hls
      have HRR := Aside0.mk (show stabchain_product.f k (lensF ls) = some (r.1, r.2) from hr)
      have HLN := Aside0.mk (group_len hg (fun x hx => by simp at hx) List.nodup_nil hls)
      have HL := Aside0.mk hl
      clear hok hm hg hl hls hr
      go_enter Try.func15, Try.ntmps15
      go_wp2_with (first | ((with_reducible refine gate_dst (N := 4) rfl ?_); refine box_event ?hg (N := 4) ?hd (cs := #[.bool false, .slice none 0 0]) (t := 24) ?hr ?_; (case hd => rfl); (case hg => rfl); (case hr => first | (go_simp; done) | (go_simp; rfl)); intro gb hg w5 hbox hb; have GB := Aside0.mk hbox; have HB0 := Aside0.mk hb; have HGB : Aside0 (w.heap.size ≤ gb) := ⟨by rw [hg]; exact Nat.le_refl _⟩; clear hg hbox hb) | (go_at_call 47; (with_reducible refine (stabchain_arguments.calls k (m : Int) A1 c1 l1 0 _ (Kd.C_below HR1.out HB0.out) HC1.out HE.out).mono ?_); rintro e w6 ⟨rfl, hb6⟩; have GB6 := Aside0.mk (blk_below GB.out hb6); have HB6 := Aside0.mk hb6; clear hb6) | (go_at_call 48; (with_reducible refine (newGroup_nil HM.out hm11 (Kd.C_below (Kd.C_below HR1.out HB0.out) HB6.out) HGN.out HL.out HLS.out).mono ?_); rintro e w7 ⟨g, av, cs, PB, rfl, hG, -, hb7⟩; have GB7 := Aside0.mk (blk_below GB6.out hb7); have HG7 := Aside0.mk hG; have HB7 := Aside0.mk hb7; clear hG hb7) | (go_at_call 49; (with_reducible refine (order_calls HG7.out (by have := HLN.out; omega) HRR.out).mono ?_); rintro e w8 ⟨v1, rfl, hV, hb8⟩; obtain ⟨A8, c8, rfl⟩ := Kd.V_slice hV; have GB8 := Aside0.mk (blk_below GB7.out hb8); have hg0 := (blk_cell GB8.out 0).trans (show _ = some (Value.bool false) from rfl); have hg1 := (blk_cell GB8.out 1).trans (show _ = some (Value.slice none 0 0) from rfl); have hg2 := blk_frozen GB8.out 0; have hg3 := blk_frozen GB8.out 1; have HV8 := Aside0.mk hV; have HB8 := Aside0.mk hb8; clear hV hb8))
      have hs0 : w.heap.size ≤ w5.heap.size := HB0.out.size
      have hs5 : w5.heap.size ≤ w6.heap.size := HB6.out.size
      have hs7 : w6.heap.size ≤ w7.heap.size := HB7.out.size
      have hgb : gb < w7.heap.size := blk_lt GB7.out
      refine bodyPost_ret (results_list (rs := [.cell 4 24, .tmp 5]) (vs := [.agg #[.bool r.1, .slice A8 r.2.length c8], .int .i64 0]) rfl (by simp) (Vals.cell gb 24 _ (0, 0) _ rfl (by refine blk_put (cs := #[.bool r.1, .slice none 0 0]) ?_ 1 _ rfl; refine blk_put (cs := #[.bool false, .slice none 0 0]) ?_ 0 _ rfl; exact GB8.out) Try.underlying24 rfl (by kernel_rfl) (Vals.tmp Vals.nil))) rfl ?_
      refine ⟨_, rfl, ?_, ?_⟩
      · exact Kd.V_mono (Kd.V_far (p := ⟨gb, 1, none⟩) (Kd.V_far (p := ⟨gb, 0, none⟩) HV8.out (fun k hk e => by have e2 : k = gb := e; omega) (.bool r.1)) (fun k hk e => by have e2 : k = gb := e; omega) _) (fun k hk => by omega)
      · exact below_set (below_set (below_then (below_then (below_then HB0.out hs0 HB6.out) (Nat.le_trans hs0 hs5) HB7.out) (Nat.le_trans hs0 (Nat.le_trans hs5 hs7)) HB8.out) HGB.out) HGB.out
    · rw [if_neg hok] at h
      cases h
  · rw [if_neg h0] at h
    have h := Option.some.inj h
    simp only [Prod.mk.injEq] at h
    obtain ⟨e1, e2, e3⟩ := h
    subst e1 e2 e3
    go_enter Try.func15, Try.ntmps15
    go_wp2_with (first | ((with_reducible refine gate_dst (N := 4) rfl ?_); refine box_event ?hg (N := 4) ?hd (cs := #[.bool false, .slice none 0 0]) (t := 24) ?hr ?_; (case hd => rfl); (case hg => rfl); (case hr => first | (go_simp; done) | (go_simp; rfl)); intro gb hg w5 hbox hb; have GB := Aside0.mk hbox; have HB0 := Aside0.mk hb; have HGB : Aside0 (w.heap.size ≤ gb) := ⟨by rw [hg]; exact Nat.le_refl _⟩; clear hg hbox hb) | (go_at_call 47; (with_reducible refine (stabchain_arguments.calls k a0 A1 c1 l1 e _ (Kd.C_below HR1.out HB0.out) HC1.out HE.out).mono ?_); rintro e w6 ⟨rfl, hb6⟩; have GB6 := Aside0.mk (blk_below GB.out hb6); have hg0 := (blk_cell GB6.out 0).trans (show _ = some (Value.bool false) from rfl); have hg1 := (blk_cell GB6.out 1).trans (show _ = some (Value.slice none 0 0) from rfl); have hg2 := blk_frozen GB6.out 0; have hg3 := blk_frozen GB6.out 1; have HB6 := Aside0.mk hb6; clear hb6))
    have hs0 : w.heap.size ≤ w5.heap.size := HB0.out.size
    have hgb : gb < w6.heap.size := blk_lt GB6.out
    refine bodyPost_ret (results_list (rs := [.cell 4 24, .tmp 5]) (vs := [.agg #[.bool false, .slice none 0 0], .int .i64 e]) rfl (by simp) (Vals.cell gb 24 _ (0, 0) _ rfl (by refine blk_put (cs := #[.bool false, .slice none 0 0]) ?_ 1 _ rfl; refine blk_put (cs := #[.bool false, .slice none 0 0]) ?_ 0 _ rfl; exact GB6.out) Try.underlying24 rfl (by kernel_rfl) (Vals.tmp Vals.nil))) rfl ?_
    refine ⟨_, rfl, ?_, ?_⟩
    · exact Kd.V_nil _ _ _ _ _
    · exact below_set (below_set (below_then HB0.out hs0 HB6.out) HGB.out) HGB.out
end Go.Proofs.Ytpkgckccfanchaa.M
