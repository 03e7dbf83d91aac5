/- Part of the proof of StabchainFactors: texts of this claim, merged and pruned by wip/tools/merge2.py. -/
import Derived.Test.YtpkgckccfanchaaBStabchainFactors3
import Derived.Test.YtpkgckccfanchaaBStabchainFactors5

namespace Go.Proofs.Ytpkgckccfanchaa.M
open Go.RowKit Go.Proofs.YtpkgckccfanchaaW.PrintWords Go.Proofs.YtpkgckccfanchaaW.PrintLast Go.Proofs.YtpkgckccfanchaaW.PrintMore
attribute [local go_sem] max2_int min2_int max_two min_two max_three min_three max_four min_four
set_option linter.unusedVariables false
set_option linter.unusedSimpArgs false
mutual
def integer_times.l0 : Nat → List Int → List Int → List Int → Int → Int → Option (List Int)
  | 0, _, _, _, _, _ => none
  | k + 1, x0, x1, x5, x16, x17 => if x17 < x16 then (integer_times.l1 k x0 x1 x5 x17 0 x16 x17 (x1.length : Int) 0) else ((integer_trim.f x5).bind fun t138 => (some t138))
def integer_times.l1 : Nat → List Int → List Int → List Int → Int → Int → Int → Int → Int → Int → Option (List Int)
  | 0, _, _, _, _, _, _, _, _, _ => none
  | k + 1, x0, x1, x5, x6, x7, x16, x17, x21, x22 => if x22 < x21 then (if 0 ≤ x6 then (if x6 < (x0.length : Int) then (if 0 ≤ x22 then (if x22 < (x1.length : Int) then (if 0 ≤ (wrap64 (x6 + x22)) then (if (wrap64 (x6 + x22)) < (x5.length : Int) then (integer_times.l1 k x0 x1 (x5.set ((wrap64 (x6 + x22)) : Int).toNat ((IntKind.u64.wrap (x7 + (IntKind.u64.wrap ((IntKind.u64.wrap ((IntKind.u64.wrap (rd x0 x6)) * (IntKind.u64.wrap (rd x1 x22)))) + (IntKind.u64.wrap (rd x5 (wrap64 (x6 + x22)))))))) % 4294967296)) x6 ((IntKind.u64.wrap (x7 + (IntKind.u64.wrap ((IntKind.u64.wrap ((IntKind.u64.wrap (rd x0 x6)) * (IntKind.u64.wrap (rd x1 x22)))) + (IntKind.u64.wrap (rd x5 (wrap64 (x6 + x22)))))))) / 4294967296) x16 x17 x21 (wrap64 (x22 + 1))) else (none)) else (none)) else (none)) else (none)) else (none)) else (none)) else (if 0 ≤ (wrap64 (x6 + (x1.length : Int))) then (if (wrap64 (x6 + (x1.length : Int))) < (x5.length : Int) then (integer_times.l0 k x0 x1 (x5.set ((wrap64 (x6 + (x1.length : Int))) : Int).toNat ((x7) % 4294967296)) x16 (wrap64 (x17 + 1))) else (none)) else (none))
end
def integer_times.f (k : Nat) (l0 : List Int) (l1 : List Int) : Option (List Int) := if 0 ≤ (wrap64 ((l0.length : Int) + (l1.length : Int))) then (if (wrap64 ((l0.length : Int) + (l1.length : Int)) : Int).toNat ≤ 70368744177664 then (integer_times.l0 k l0 l1 (List.replicate (wrap64 ((l0.length : Int) + (l1.length : Int)) : Int).toNat 0) (l0.length : Int) 0) else (none)) else (none)
theorem integer_times.mono_l : ∀ k, (∀ y0 y1 y2 y3 y4, LeO (integer_times.l0 k y0 y1 y2 y3 y4) (integer_times.l0 (k + 1) y0 y1 y2 y3 y4)) ∧ (∀ y0 y1 y2 y3 y4 y5 y6 y7 y8, LeO (integer_times.l1 k y0 y1 y2 y3 y4 y5 y6 y7 y8) (integer_times.l1 (k + 1) y0 y1 y2 y3 y4 y5 y6 y7 y8))
  | 0 => ⟨fun _ _ _ _ _ r h => by simp [integer_times.l0] at h, fun _ _ _ _ _ _ _ _ _ r h => by simp [integer_times.l1] at h⟩
  | k + 1 => by
    obtain ⟨ih0, ih1⟩ := integer_times.mono_l k; refine ⟨?_, ?_⟩
    · intro y0 y1 y2 y3 y4
      unfold integer_times.l0
      repeat' first
      | (with_reducible exact ih0 _ _ _ _ _)
      | (with_reducible exact ih1 _ _ _ _ _ _ _ _ _)
      | (with_reducible exact LeO.refl _)
      | (with_reducible exact LeO.none _)
      | (with_reducible refine LeO.ite ?_ ?_)
      | (with_reducible refine LeO.bind ?_ (fun _ => ?_))
      | exact ih0 _ _ _ _ _
      | exact ih1 _ _ _ _ _ _ _ _ _
      | exact LeO.none _
      | refine LeO.ite ?_ ?_
      | refine LeO.bind ?_ (fun _ => ?_)
    · intro y0 y1 y2 y3 y4 y5 y6 y7 y8
      unfold integer_times.l1
      repeat' first
      | (with_reducible exact ih0 _ _ _ _ _)
      | (with_reducible exact ih1 _ _ _ _ _ _ _ _ _)
      | (with_reducible exact LeO.refl _)
      | (with_reducible exact LeO.none _)
      | (with_reducible refine LeO.ite ?_ ?_)
      | (with_reducible refine LeO.bind ?_ (fun _ => ?_))
      | exact ih0 _ _ _ _ _
      | exact ih1 _ _ _ _ _ _ _ _ _
      | exact LeO.none _
      | refine LeO.ite ?_ ?_
      | refine LeO.bind ?_ (fun _ => ?_)
theorem integer_times.mono : ∀ a0 a1 k, LeO (integer_times.f k a0 a1) (integer_times.f (k + 1) a0 a1) := by
  intro a0 a1 k; obtain ⟨ih0, ih1⟩ := integer_times.mono_l k
  unfold integer_times.f
  repeat' first
      | (with_reducible exact ih0 _ _ _ _ _)
      | (with_reducible exact ih1 _ _ _ _ _ _ _ _ _)
      | (with_reducible exact LeO.refl _)
      | (with_reducible exact LeO.none _)
      | (with_reducible refine LeO.ite ?_ ?_)
      | (with_reducible refine LeO.bind ?_ (fun _ => ?_))
      | exact ih0 _ _ _ _ _
      | exact ih1 _ _ _ _ _ _ _ _ _
      | exact LeO.none _
      | refine LeO.ite ?_ ?_
      | refine LeO.bind ?_ (fun _ => ?_)
set_option maxHeartbeats 8000000 in
set_option maxRecDepth 100000 in
theorem integer_times.calls (k : Nat) (A0 : Option Addr) (c0 : Nat) (l0 : List Int) (A1 : Option Addr) (c1 : Nat) (l1 : List Int) (r : List Int) (w : World) (hr0 : Kd.C (Kd.int .u32) w A0 l0.length l0) (hc0 : l0.length ≤ c0) (hr1 : Kd.C (Kd.int .u32) w A1 l1.length l1) (hc1 : l1.length ≤ c1) (h : integer_times.f k l0 l1 = some r) :
    Calls Try.prog 115 #[.slice A0 l0.length c0, .slice A1 l1.length c1] w fun e w' => ∃ v0_ : Value, e = .returned (v0_) ∧ Kd.V (Kd.int .u32) 98 w' w.heap.size (fun k_ => (w.heap.size ≤ k_)) v0_ r ∧ Below w.heap.size w w' := by
  have HR0 := Aside0.mk hr0; have HC0 := Aside0.mk hc0; clear hr0 hc0; have HR1 := Aside0.mk hr1; have HC1 := Aside0.mk hc1; clear hr1 hc1; have HB := Aside0.mk (Below.refl w.heap.size w); have H : (if 0 ≤ (wrap64 ((l0.length : Int) + (l1.length : Int))) then (if (wrap64 ((l0.length : Int) + (l1.length : Int)) : Int).toNat ≤ 70368744177664 then (integer_times.l0 k l0 l1 (List.replicate (wrap64 ((l0.length : Int) + (l1.length : Int)) : Int).toNat 0) (l0.length : Int) 0) else (none)) else (none)) = some r := h; clear h
  obtain ⟨ji3, hji3⟩ : ∃ j_ : Int, (wrap64 ((l0.length : Int) + (l1.length : Int))) = j_ := ⟨_, rfl⟩
  replace H : (if 0 ≤ (ji3) then (if (ji3 : Int).toNat ≤ 70368744177664 then (integer_times.l0 k l0 l1 (List.replicate (ji3 : Int).toNat 0) (l0.length : Int) 0) else (none)) else (none)) = some r := by first | (rw [hji3] at H; exact H) | (simp only [hji3] at H ⊢; exact H)
  have hji3w : (IntKind.i64.wrap ((l0.length : Int) + (l1.length : Int))) = ji3 := (i64_w _).trans hji3
  by_cases c4 : 0 ≤ (ji3)
  · rw [if_pos c4] at H
    have c4b0 := eq_true c4; have c4b1 : decide (0 ≤ (ji3)) = true := decide_eq_true c4; clear c4
    by_cases c5 : (ji3 : Int).toNat ≤ 70368744177664
    · rw [if_pos c5] at H
      have c5b0 := eq_true c5; have c5b1 : decide ((ji3 : Int).toNat ≤ 70368744177664) = true := decide_eq_true c5; clear c5
      obtain ⟨y135, hy135⟩ : ∃ y_ : List Int, y_ = (List.replicate (ji3 : Int).toNat 0) := ⟨_, rfl⟩
      replace H : (integer_times.l0 k l0 l1 y135 (l0.length : Int) 0) = some r := by first | (rw [hy135]; with_reducible exact H) | (have H2_ := (Option.bind_some _ _).symm.trans H; rw [hy135]; with_reducible exact H2_) | (have H2_ := (Option.bind_some _ _).symm.trans H; with_reducible exact H2_) | with_reducible exact H | (rw [hy135]; exact H) | exact H
      have Ny135 := Aside0.mk hy135; clear hy135; have H' := Aside0.mk H; clear H
      go_enter Try.func115, Try.ntmps115
      go_wp2_with (first | ((with_reducible refine gate_dst (N := 14) rfl ?_); refine Kd.R_make (Kd.int .u32) _ 98 rfl (N := 14) rfl 22 _ _ rfl ji3 rfl rfl Try.underlying22 (.int .u32 0) 4 info98 rfl (by decide) (by omega) 0 (ok := fun _ => True) (okp := fun _ => True) rfl (fun _ hk => hk) trivial (of_decide_eq_true (by first | (with_reducible assumption) | assumption)) (Nat.le_trans (Nat.mul_le_mul_right _ (of_decide_eq_true (by first | (with_reducible assumption) | assumption) : ji3.toNat ≤ 70368744177664)) (by omega)) (Below.refl _ _) (Nat.le_refl _) ?_; intro v136 w6 ho7 hb hg_ hnew_; clear hg_ hnew_; (first | rw [← Ny135.out] at ho7 | (simp only [Int.reduceToNat] at ho7; rw [← Ny135.out] at ho7)); have n0_ := Aside0.mk (Kd.R_lower (Kd.R_newM (M := fun k_ => (w.heap.size ≤ k_)) ho7 (below_size (by repeat (first | (with_reducible first | exact HB.out | apply below_alloc | apply pw_below_drewN | apply below_drew1) | exact HB.out))) (fun k_ h_ => h_)) (below_size (by repeat (first | (with_reducible first | exact HB.out | apply below_alloc | apply pw_below_drewN | apply below_drew1) | exact HB.out)))); have n1_ := Aside0.mk (below_step (by repeat (first | (with_reducible first | exact HB.out | apply below_alloc | apply pw_below_drewN | apply below_drew1) | exact HB.out)) hb); clear HB; have HO137 := n0_; have HB := n1_; clear n0_ n1_; clear hb ho7))
      repeat (go_quiet (first | ((with_reducible refine gate_dst (N := 14) rfl ?_); refine Kd.R_make (Kd.int .u32) _ 98 rfl (N := 14) rfl 22 _ _ rfl ji3 rfl rfl Try.underlying22 (.int .u32 0) 4 info98 rfl (by decide) (by omega) 0 (ok := fun _ => True) (okp := fun _ => True) rfl (fun _ hk => hk) trivial (of_decide_eq_true (by first | (with_reducible assumption) | assumption)) (Nat.le_trans (Nat.mul_le_mul_right _ (of_decide_eq_true (by first | (with_reducible assumption) | assumption) : ji3.toNat ≤ 70368744177664)) (by omega)) (Below.refl _ _) (Nat.le_refl _) ?_; intro v136 w6 ho7 hb hg_ hnew_; clear hg_ hnew_; (first | rw [← Ny135.out] at ho7 | (simp only [Int.reduceToNat] at ho7; rw [← Ny135.out] at ho7)); have n0_ := Aside0.mk (Kd.R_lower (Kd.R_newM (M := fun k_ => (w.heap.size ≤ k_)) ho7 (below_size (by repeat (first | (with_reducible first | exact HB.out | apply below_alloc | apply pw_below_drewN | apply below_drew1) | exact HB.out))) (fun k_ h_ => h_)) (below_size (by repeat (first | (with_reducible first | exact HB.out | apply below_alloc | apply pw_below_drewN | apply below_drew1) | exact HB.out)))); have n1_ := Aside0.mk (below_step (by repeat (first | (with_reducible first | exact HB.out | apply below_alloc | apply pw_below_drewN | apply below_drew1) | exact HB.out)) hb); clear HB; have HO137 := n0_; have HB := n1_; clear n0_ n1_; clear hb ho7)); try go_wp2_with (first | ((with_reducible refine gate_dst (N := 14) rfl ?_); refine Kd.R_make (Kd.int .u32) _ 98 rfl (N := 14) rfl 22 _ _ rfl ji3 rfl rfl Try.underlying22 (.int .u32 0) 4 info98 rfl (by decide) (by omega) 0 (ok := fun _ => True) (okp := fun _ => True) rfl (fun _ hk => hk) trivial (of_decide_eq_true (by first | (with_reducible assumption) | assumption)) (Nat.le_trans (Nat.mul_le_mul_right _ (of_decide_eq_true (by first | (with_reducible assumption) | assumption) : ji3.toNat ≤ 70368744177664)) (by omega)) (Below.refl _ _) (Nat.le_refl _) ?_; intro v136 w6 ho7 hb hg_ hnew_; clear hg_ hnew_; (first | rw [← Ny135.out] at ho7 | (simp only [Int.reduceToNat] at ho7; rw [← Ny135.out] at ho7)); have n0_ := Aside0.mk (Kd.R_lower (Kd.R_newM (M := fun k_ => (w.heap.size ≤ k_)) ho7 (below_size (by repeat (first | (with_reducible first | exact HB.out | apply below_alloc | apply pw_below_drewN | apply below_drew1) | exact HB.out))) (fun k_ h_ => h_)) (below_size (by repeat (first | (with_reducible first | exact HB.out | apply below_alloc | apply pw_below_drewN | apply below_drew1) | exact HB.out)))); have n1_ := Aside0.mk (below_step (by repeat (first | (with_reducible first | exact HB.out | apply below_alloc | apply pw_below_drewN | apply below_drew1) | exact HB.out)) hb); clear HB; have HO137 := n0_; have HB := n1_; clear n0_ n1_; clear hb ho7)))
      go_loopg [17] k (fun kq v17 w' => ∃ (x5_1 : List Int) (x17_1 : Int), v17 = .int .i64 x17_1 ∧ Aside0 (integer_times.l0 kq l0 l1 x5_1 (l0.length : Int) x17_1 = some r) ∧ Aside0 (kq ≤ k) ∧ Aside0 (Kd.R (Kd.int .u32) 98 w' w.heap.size (fun k_ => (w.heap.size ≤ k_)) v136 x5_1) ∧ Aside0 (Below w.heap.size w w'))
      case atStart => exact ⟨(y135), (0), (by first | rfl | (simp; done) | (simp [*]; done)), H', ⟨Nat.le_refl _⟩, ⟨by (with_reducible repeat (first | apply Kd.R_alloc | apply Kd.R_drewN | apply Kd.R_drew)); exact Kd.R_mono HO137.out (fun _ hk => hk.1)⟩, ⟨by repeat (first | (with_reducible first | exact HB.out | apply below_alloc | apply pw_below_drewN | apply below_drew1) | exact HB.out)⟩⟩
      case round =>
        clear H'
        try clear c1
        try clear p2
        try clear c4
        try clear c4b0
        try clear c4b1
        try clear c5
        try clear c5b0
        try clear c5b1
        try clear p6
        obtain ⟨x5_1, x17_1, rfl, HA, HK1, HO_5, HB⟩ := hrel; cases gk with
        | zero => exact absurd HA.out (by simp [integer_times.l0])
        | succ k1 =>
          have H := HA.out; clear HA
          simp only [integer_times.l0] at H
          by_cases c8 : x17_1 < (l0.length : Int)
          · rw [if_pos c8] at H
            have c8b0 : decide (x17_1 < (l0.length : Int)) = true := decide_eq_true c8; clear c8; have H' := Aside0.mk H; clear H
            go_wp2
            repeat (go_quiet (fail); try go_wp2)
            go_loopg [7, 22] k1 (fun kq v7 v22 w' => ∃ (x5_2 : List Int) (x7_2 : Int) (x22_2 : Int), v7 = .int .u64 x7_2 ∧ v22 = .int .i64 x22_2 ∧ Aside0 (integer_times.l1 kq l0 l1 x5_2 x17_1 x7_2 (l0.length : Int) x17_1 (l1.length : Int) x22_2 = some r) ∧ Aside0 (kq ≤ k1) ∧ Aside0 (Kd.R (Kd.int .u32) 98 w' w.heap.size (fun k_ => (w.heap.size ≤ k_)) v136 x5_2) ∧ Aside0 (Below w.heap.size w w'))
            case atStart => exact ⟨(x5_1), (0), (0), (by first | rfl | (simp; done) | (simp [*]; done)), (by first | rfl | (simp; done) | (simp [*]; done)), H', ⟨Nat.le_refl _⟩, ⟨by (with_reducible repeat (first | apply Kd.R_alloc | apply Kd.R_drewN | apply Kd.R_drew)); exact HO_5.out⟩, ⟨by repeat (first | (with_reducible first | exact HB.out | apply below_alloc | apply pw_below_drewN | apply below_drew1) | exact HB.out)⟩⟩
            case round =>
              clear H'
              try clear c1
              try clear p2
              try clear c4
              try clear c4b0
              try clear c4b1
              try clear c5
              try clear c5b0
              try clear c5b1
              try clear p6
              try clear c8
              try clear c8b0
              try clear p2
              try clear p6
              obtain ⟨x5_2, x7_2, x22_2, rfl, rfl, HA, HK2, HO_5, HB⟩ := hrel; cases gk with
              | zero => exact absurd HA.out (by simp [integer_times.l1])
              | succ k2 =>
                have H := HA.out; clear HA
                simp only [integer_times.l1] at H
                by_cases c9 : x22_2 < (l1.length : Int)
                · rw [if_pos c9] at H
                  have c9b0 : decide (x22_2 < (l1.length : Int)) = true := decide_eq_true c9; clear c9
                  by_cases c10 : 0 ≤ x17_1
                  · rw [if_pos c10] at H
                    have c10b0 : decide (0 ≤ x17_1) = true := decide_eq_true c10; clear c10
                    by_cases c11 : x17_1 < (l0.length : Int)
                    · rw [if_pos c11] at H
                      have c11b0 : decide (x17_1 < (l0.length : Int)) = true := decide_eq_true c11; clear c11
                      by_cases c12 : 0 ≤ x22_2
                      · rw [if_pos c12] at H
                        have c12b0 : decide (0 ≤ x22_2) = true := decide_eq_true c12; clear c12
                        by_cases c13 : x22_2 < (l1.length : Int)
                        · rw [if_pos c13] at H
                          have c13b0 : decide (x22_2 < (l1.length : Int)) = true := decide_eq_true c13; clear c13
                          obtain ⟨ji14, hji14⟩ : ∃ j_ : Int, (wrap64 (x17_1 + x22_2)) = j_ := ⟨_, rfl⟩
                          replace H : (if 0 ≤ (ji14) then (if (ji14) < (x5_2.length : Int) then (integer_times.l1 k2 l0 l1 (x5_2.set ((ji14) : Int).toNat ((IntKind.u64.wrap (x7_2 + (IntKind.u64.wrap ((IntKind.u64.wrap ((IntKind.u64.wrap (rd l0 x17_1)) * (IntKind.u64.wrap (rd l1 x22_2)))) + (IntKind.u64.wrap (rd x5_2 (ji14))))))) % 4294967296)) x17_1 ((IntKind.u64.wrap (x7_2 + (IntKind.u64.wrap ((IntKind.u64.wrap ((IntKind.u64.wrap (rd l0 x17_1)) * (IntKind.u64.wrap (rd l1 x22_2)))) + (IntKind.u64.wrap (rd x5_2 (ji14))))))) / 4294967296) (l0.length : Int) x17_1 (l1.length : Int) (wrap64 (x22_2 + 1))) else (none)) else (none)) = some r := by first | (rw [hji14] at H; exact H) | (simp only [hji14] at H ⊢; exact H)
                          have hji14w : (IntKind.i64.wrap (x17_1 + x22_2)) = ji14 := (i64_w _).trans hji14
                          by_cases c15 : 0 ≤ (ji14)
                          · rw [if_pos c15] at H
                            have c15b0 : decide (0 ≤ (ji14)) = true := decide_eq_true c15; clear c15
                            by_cases c16 : (ji14) < (x5_2.length : Int)
                            · rw [if_pos c16] at H
                              have c16b0 : decide ((ji14) < (x5_2.length : Int)) = true := decide_eq_true c16; clear c16
                              obtain ⟨y144, hy144⟩ : ∃ y_ : List Int, y_ = (x5_2.set ((ji14) : Int).toNat ((IntKind.u64.wrap (x7_2 + (IntKind.u64.wrap ((IntKind.u64.wrap ((IntKind.u64.wrap (rd l0 x17_1)) * (IntKind.u64.wrap (rd l1 x22_2)))) + (IntKind.u64.wrap (rd x5_2 (ji14))))))) % 4294967296)) := ⟨_, rfl⟩
                              replace H : (integer_times.l1 k2 l0 l1 y144 x17_1 ((IntKind.u64.wrap (x7_2 + (IntKind.u64.wrap ((IntKind.u64.wrap ((IntKind.u64.wrap (rd l0 x17_1)) * (IntKind.u64.wrap (rd l1 x22_2)))) + (IntKind.u64.wrap (rd x5_2 (ji14))))))) / 4294967296) (l0.length : Int) x17_1 (l1.length : Int) (wrap64 (x22_2 + 1))) = some r := by first | (rw [hy144]; with_reducible exact H) | (have H2_ := (Option.bind_some _ _).symm.trans H; rw [hy144]; with_reducible exact H2_) | (have H2_ := (Option.bind_some _ _).symm.trans H; with_reducible exact H2_) | with_reducible exact H | (rw [hy144]; exact H) | exact H
                              have Ny144 := Aside0.mk hy144; clear hy144; have H' := Aside0.mk H; clear H; have p141 : 0 ≤ (x17_1 : Int) := of_decide_eq_true (by first | (with_reducible assumption) | assumption); have q141 : x17_1 < (l0.length : Int) := of_decide_eq_true (by first | (with_reducible assumption) | assumption); obtain ⟨ad141, e141, hx141_0⟩ := Kd.at_int HR0.out x17_1 p141 q141; cases e141; replace hx141_0 := (HB.out.cell (World.block_lt_of_cell? w _ hx141_0)).trans hx141_0; replace p141 := eq_true p141; replace q141 := eq_true q141; have p142 : 0 ≤ (x22_2 : Int) := of_decide_eq_true (by first | (with_reducible assumption) | assumption); have q142 : x22_2 < (l1.length : Int) := of_decide_eq_true (by first | (with_reducible assumption) | assumption); obtain ⟨ad142, e142, hx142_0⟩ := Kd.at_int HR1.out x22_2 p142 q142; cases e142; replace hx142_0 := (HB.out.cell (World.block_lt_of_cell? w _ hx142_0)).trans hx142_0; replace p142 := eq_true p142; replace q142 := eq_true q142; obtain ⟨Ao18, co18, eo18⟩ := Kd.R_slice HO_5.out; subst eo18; have p143 : 0 ≤ ((ji14) : Int) := of_decide_eq_true (by first | (with_reducible assumption) | assumption); have q143 : (ji14) < (x5_2.length : Int) := of_decide_eq_true (by first | (with_reducible assumption) | assumption); obtain ⟨ad143, e143, hx143_0⟩ := Kd.at_int (Kd.R_reads' HO_5.out).2.2 (ji14) p143 q143; cases e143; replace p143 := eq_true p143; replace q143 := eq_true q143; have p17 : 0 ≤ ((ji14) : Int) := of_decide_eq_true (by first | (with_reducible assumption) | assumption); have q17 : ((ji14) : Int) < ((x5_2.length : Int) : Int) := of_decide_eq_true (by first | (with_reducible assumption) | assumption); obtain ⟨go17, co17, eo17, gb17, gl17, cl17, HG17⟩ := Kd.R_form HO_5.out (by omega)
                              (first | cases eo17 | (injection eo17 with ea_ en_ ec_; (first | subst ea_ | (injection ea_ with ea_; subst ea_)); subst ec_; clear en_))
                              have GB17 := Aside0.mk gb17; have GG17 := Aside0.mk HG17; clear gb17 gl17 HG17
                              (first | simp only [add_plain] at hx143_0 | skip)
                              obtain ⟨hx17_0, hf17_0⟩ := Kd.R_celln 0 HO_5.out ((ji14) : Int) p17 q17; replace p17 := eq_true p17; replace q17 := eq_true q17; have HP19 := Kd.R_putg HO_5.out ((ji14) : Int) ((IntKind.u64.wrap (x7_2 + (IntKind.u64.wrap ((IntKind.u64.wrap ((IntKind.u64.wrap (rd l0 x17_1)) * (IntKind.u64.wrap (rd l1 x22_2)))) + (IntKind.u64.wrap (rd x5_2 (ji14))))))) % 4294967296)
                              go_wp2_with (first | ((with_reducible refine gate_store (t := 98) (p := 52) rfl ?_); (try (rw [drewN_self wr]; generalize hq_ : World.drewN wr _ = wr; have n0_ := Aside0.mk (Kd.R_at hq_ HO_5.out); have n1_ := Aside0.mk (below_at hq_ HB.out); clear hq_ HO_5 HB; have HO_5 := n0_; have HB := n1_; clear n0_ n1_; (try (have HP19 := Kd.R_putg HO_5.out ((ji14) : Int) ((IntKind.u64.wrap (x7_2 + (IntKind.u64.wrap ((IntKind.u64.wrap ((IntKind.u64.wrap (rd l0 x17_1)) * (IntKind.u64.wrap (rd l1 x22_2)))) + (IntKind.u64.wrap (rd x5_2 (ji14))))))) % 4294967296))))); refine store_event (t := 98) (p := 52) (v := ?vo_w20) (w1 := (wr.setCell ⟨go17, ((ji14) : Int).toNat, none⟩ (.int .u32 ((IntKind.u64.wrap (x7_2 + (IntKind.u64.wrap ((IntKind.u64.wrap ((IntKind.u64.wrap (rd l0 x17_1)) * (IntKind.u64.wrap (rd l1 x22_2)))) + (IntKind.u64.wrap (rd x5_2 (ji14))))))) % 4294967296)))) ?hg ?ho ?hn ?hr ?_; (case ho => rfl); (case hg => rfl); (case hn => rfl); (case hr => first | (go_simp; done) | (go_simp; rfl)); intro w20 hw; have hg : wr.grownBy w20 (some go17) := (by rw [hw]; exact HP19.2); have hp_ : Kd.R (Kd.int .u32) 98 w20 w.heap.size (fun k_ => (w.heap.size ≤ k_)) (.slice (some ⟨go17, 0, none⟩) x5_2.length co18) y144 := (by rw [hw, Ny144.out]; exact HP19.1); clear HP19; have n0_ := Aside0.mk (hp_); have n1_ := Aside0.mk ((by rw [hw]; exact below_set (HB.out) GB17.out : Below w.heap.size w w20)); clear HO_5; clear HB; have HO_5 := n0_; have HB := n1_; clear n0_ n1_; clear hg hw hp_))
                              repeat (go_quiet (first | ((with_reducible refine gate_store (t := 98) (p := 52) rfl ?_); (try (rw [drewN_self wr]; generalize hq_ : World.drewN wr _ = wr; have n0_ := Aside0.mk (Kd.R_at hq_ HO_5.out); have n1_ := Aside0.mk (below_at hq_ HB.out); clear hq_ HO_5 HB; have HO_5 := n0_; have HB := n1_; clear n0_ n1_; (try (have HP19 := Kd.R_putg HO_5.out ((ji14) : Int) ((IntKind.u64.wrap (x7_2 + (IntKind.u64.wrap ((IntKind.u64.wrap ((IntKind.u64.wrap (rd l0 x17_1)) * (IntKind.u64.wrap (rd l1 x22_2)))) + (IntKind.u64.wrap (rd x5_2 (ji14))))))) % 4294967296))))); refine store_event (t := 98) (p := 52) (v := ?vo_w20) (w1 := (wr.setCell ⟨go17, ((ji14) : Int).toNat, none⟩ (.int .u32 ((IntKind.u64.wrap (x7_2 + (IntKind.u64.wrap ((IntKind.u64.wrap ((IntKind.u64.wrap (rd l0 x17_1)) * (IntKind.u64.wrap (rd l1 x22_2)))) + (IntKind.u64.wrap (rd x5_2 (ji14))))))) % 4294967296)))) ?hg ?ho ?hn ?hr ?_; (case ho => rfl); (case hg => rfl); (case hn => rfl); (case hr => first | (go_simp; done) | (go_simp; rfl)); intro w20 hw; have hg : wr.grownBy w20 (some go17) := (by rw [hw]; exact HP19.2); have hp_ : Kd.R (Kd.int .u32) 98 w20 w.heap.size (fun k_ => (w.heap.size ≤ k_)) (.slice (some ⟨go17, 0, none⟩) x5_2.length co18) y144 := (by rw [hw, Ny144.out]; exact HP19.1); clear HP19; have n0_ := Aside0.mk (hp_); have n1_ := Aside0.mk ((by rw [hw]; exact below_set (HB.out) GB17.out : Below w.heap.size w w20)); clear HO_5; clear HB; have HO_5 := n0_; have HB := n1_; clear n0_ n1_; clear hg hw hp_)); try go_wp2_with (first | ((with_reducible refine gate_store (t := 98) (p := 52) rfl ?_); (try (rw [drewN_self wr]; generalize hq_ : World.drewN wr _ = wr; have n0_ := Aside0.mk (Kd.R_at hq_ HO_5.out); have n1_ := Aside0.mk (below_at hq_ HB.out); clear hq_ HO_5 HB; have HO_5 := n0_; have HB := n1_; clear n0_ n1_; (try (have HP19 := Kd.R_putg HO_5.out ((ji14) : Int) ((IntKind.u64.wrap (x7_2 + (IntKind.u64.wrap ((IntKind.u64.wrap ((IntKind.u64.wrap (rd l0 x17_1)) * (IntKind.u64.wrap (rd l1 x22_2)))) + (IntKind.u64.wrap (rd x5_2 (ji14))))))) % 4294967296))))); refine store_event (t := 98) (p := 52) (v := ?vo_w20) (w1 := (wr.setCell ⟨go17, ((ji14) : Int).toNat, none⟩ (.int .u32 ((IntKind.u64.wrap (x7_2 + (IntKind.u64.wrap ((IntKind.u64.wrap ((IntKind.u64.wrap (rd l0 x17_1)) * (IntKind.u64.wrap (rd l1 x22_2)))) + (IntKind.u64.wrap (rd x5_2 (ji14))))))) % 4294967296)))) ?hg ?ho ?hn ?hr ?_; (case ho => rfl); (case hg => rfl); (case hn => rfl); (case hr => first | (go_simp; done) | (go_simp; rfl)); intro w20 hw; have hg : wr.grownBy w20 (some go17) := (by rw [hw]; exact HP19.2); have hp_ : Kd.R (Kd.int .u32) 98 w20 w.heap.size (fun k_ => (w.heap.size ≤ k_)) (.slice (some ⟨go17, 0, none⟩) x5_2.length co18) y144 := (by rw [hw, Ny144.out]; exact HP19.1); clear HP19; have n0_ := Aside0.mk (hp_); have n1_ := Aside0.mk ((by rw [hw]; exact below_set (HB.out) GB17.out : Below w.heap.size w w20)); clear HO_5; clear HB; have HO_5 := n0_; have HB := n1_; clear n0_ n1_; clear hg hw hp_)))
                              go_roundg k2
                              case measure => have := HK1.out; have := HK2.out; omega
                              case rel => exact ⟨(y144), ((IntKind.u64.wrap (x7_2 + (IntKind.u64.wrap ((IntKind.u64.wrap ((IntKind.u64.wrap (rd l0 x17_1)) * (IntKind.u64.wrap (rd l1 x22_2)))) + (IntKind.u64.wrap (rd x5_2 (ji14))))))) / 4294967296), (wrap64 (x22_2 + 1)), (by first | rfl | (simp; done) | (simp only [← hji14] <;> (first | rfl | simp)) | (simp [*]; done)), (by first | rfl | (simp; done) | (simp [*]; done)), H', ⟨by have := HK1.out; have := HK2.out; omega⟩, ⟨by first | ((with_reducible repeat (first | apply Kd.R_alloc | apply Kd.R_drewN | apply Kd.R_drew)); exact HO_5.out) | (rw [Ny144.out]; exact (Kd.R_putg (Kd.R_drewN HO_5.out _) ((ji14) : Int) _).1)⟩, ⟨by first | exact below_set (pw_below_drewN HB.out _) GB17.out | (repeat (first | (with_reducible first | exact HB.out | apply below_alloc | apply pw_below_drewN | apply below_drew1) | exact HB.out))⟩⟩
                            · rw [if_neg c16] at H
                              exact absurd H (by simp)
                          · rw [if_neg c15] at H
                            exact absurd H (by simp)
                        · rw [if_neg c13] at H
                          exact absurd H (by simp)
                      · rw [if_neg c12] at H
                        exact absurd H (by simp)
                    · rw [if_neg c11] at H
                      exact absurd H (by simp)
                  · rw [if_neg c10] at H
                    exact absurd H (by simp)
                · rw [if_neg c9] at H
                  have c9b0 : decide (x22_2 < (l1.length : Int)) = false := decide_eq_false c9; clear c9
                  obtain ⟨ji21, hji21⟩ : ∃ j_ : Int, (wrap64 (x17_1 + (l1.length : Int))) = j_ := ⟨_, rfl⟩
                  replace H : (if 0 ≤ (ji21) then (if (ji21) < (x5_2.length : Int) then (integer_times.l0 k2 l0 l1 (x5_2.set ((ji21) : Int).toNat ((x7_2) % 4294967296)) (l0.length : Int) (wrap64 (x17_1 + 1))) else (none)) else (none)) = some r := by first | (rw [hji21] at H; exact H) | (simp only [hji21] at H ⊢; exact H)
                  have hji21w : (IntKind.i64.wrap (x17_1 + (l1.length : Int))) = ji21 := (i64_w _).trans hji21
                  by_cases c22 : 0 ≤ (ji21)
                  · rw [if_pos c22] at H
                    have c22b0 : decide (0 ≤ (ji21)) = true := decide_eq_true c22; clear c22
                    by_cases c23 : (ji21) < (x5_2.length : Int)
                    · rw [if_pos c23] at H
                      have c23b0 : decide ((ji21) < (x5_2.length : Int)) = true := decide_eq_true c23; clear c23
                      obtain ⟨y145, hy145⟩ : ∃ y_ : List Int, y_ = (x5_2.set ((ji21) : Int).toNat ((x7_2) % 4294967296)) := ⟨_, rfl⟩
                      replace H : (integer_times.l0 k2 l0 l1 y145 (l0.length : Int) (wrap64 (x17_1 + 1))) = some r := by first | (rw [hy145]; with_reducible exact H) | (have H2_ := (Option.bind_some _ _).symm.trans H; rw [hy145]; with_reducible exact H2_) | (have H2_ := (Option.bind_some _ _).symm.trans H; with_reducible exact H2_) | with_reducible exact H | (rw [hy145]; exact H) | exact H
                      have Ny145 := Aside0.mk hy145; clear hy145; have H' := Aside0.mk H; clear H; have p24 : 0 ≤ ((ji21) : Int) := of_decide_eq_true (by first | (with_reducible assumption) | assumption); have q24 : ((ji21) : Int) < ((x5_2.length : Int) : Int) := of_decide_eq_true (by first | (with_reducible assumption) | assumption); obtain ⟨go24, co24, eo24, gb24, gl24, cl24, HG24⟩ := Kd.R_form HO_5.out (by omega)
                      (first | cases eo24 | (injection eo24 with ea_ en_ ec_; (first | subst ea_ | (injection ea_ with ea_; subst ea_)); subst ec_; clear en_))
                      have GB24 := Aside0.mk gb24; have GG24 := Aside0.mk HG24; clear gb24 gl24 HG24; obtain ⟨hx24_0, hf24_0⟩ := Kd.R_celln 0 HO_5.out ((ji21) : Int) p24 q24; replace p24 := eq_true p24; replace q24 := eq_true q24; have HP25 := Kd.R_putg HO_5.out ((ji21) : Int) ((x7_2) % 4294967296)
                      go_wp2_with (first | ((with_reducible refine gate_store (t := 98) (p := 63) rfl ?_); (try (rw [drewN_self wr]; generalize hq_ : World.drewN wr _ = wr; have n0_ := Aside0.mk (Kd.R_at hq_ HO_5.out); have n1_ := Aside0.mk (below_at hq_ HB.out); clear hq_ HO_5 HB; have HO_5 := n0_; have HB := n1_; clear n0_ n1_; (try (have HP25 := Kd.R_putg HO_5.out ((ji21) : Int) ((x7_2) % 4294967296))))); refine store_event (t := 98) (p := 63) (v := ?vo_w26) (w1 := (wr.setCell ⟨go24, ((ji21) : Int).toNat, none⟩ (.int .u32 ((x7_2) % 4294967296)))) ?hg ?ho ?hn ?hr ?_; (case ho => rfl); (case hg => rfl); (case hn => rfl); (case hr => first | (go_simp; done) | (go_simp; rfl)); intro w26 hw; have hg : wr.grownBy w26 (some go24) := (by rw [hw]; exact HP25.2); have hp_ : Kd.R (Kd.int .u32) 98 w26 w.heap.size (fun k_ => (w.heap.size ≤ k_)) (.slice (some ⟨go24, 0, none⟩) x5_2.length co24) y145 := (by rw [hw, Ny145.out]; exact HP25.1); clear HP25; have n0_ := Aside0.mk (hp_); have n1_ := Aside0.mk ((by rw [hw]; exact below_set (HB.out) GB24.out : Below w.heap.size w w26)); clear HO_5; clear HB; have HO_5 := n0_; have HB := n1_; clear n0_ n1_; clear hg hw hp_))
                      repeat (go_quiet (first | ((with_reducible refine gate_store (t := 98) (p := 63) rfl ?_); (try (rw [drewN_self wr]; generalize hq_ : World.drewN wr _ = wr; have n0_ := Aside0.mk (Kd.R_at hq_ HO_5.out); have n1_ := Aside0.mk (below_at hq_ HB.out); clear hq_ HO_5 HB; have HO_5 := n0_; have HB := n1_; clear n0_ n1_; (try (have HP25 := Kd.R_putg HO_5.out ((ji21) : Int) ((x7_2) % 4294967296))))); refine store_event (t := 98) (p := 63) (v := ?vo_w26) (w1 := (wr.setCell ⟨go24, ((ji21) : Int).toNat, none⟩ (.int .u32 ((x7_2) % 4294967296)))) ?hg ?ho ?hn ?hr ?_; (case ho => rfl); (case hg => rfl); (case hn => rfl); (case hr => first | (go_simp; done) | (go_simp; rfl)); intro w26 hw; have hg : wr.grownBy w26 (some go24) := (by rw [hw]; exact HP25.2); have hp_ : Kd.R (Kd.int .u32) 98 w26 w.heap.size (fun k_ => (w.heap.size ≤ k_)) (.slice (some ⟨go24, 0, none⟩) x5_2.length co24) y145 := (by rw [hw, Ny145.out]; exact HP25.1); clear HP25; have n0_ := Aside0.mk (hp_); have n1_ := Aside0.mk ((by rw [hw]; exact below_set (HB.out) GB24.out : Below w.heap.size w w26)); clear HO_5; clear HB; have HO_5 := n0_; have HB := n1_; clear n0_ n1_; clear hg hw hp_)); try go_wp2_with (first | ((with_reducible refine gate_store (t := 98) (p := 63) rfl ?_); (try (rw [drewN_self wr]; generalize hq_ : World.drewN wr _ = wr; have n0_ := Aside0.mk (Kd.R_at hq_ HO_5.out); have n1_ := Aside0.mk (below_at hq_ HB.out); clear hq_ HO_5 HB; have HO_5 := n0_; have HB := n1_; clear n0_ n1_; (try (have HP25 := Kd.R_putg HO_5.out ((ji21) : Int) ((x7_2) % 4294967296))))); refine store_event (t := 98) (p := 63) (v := ?vo_w26) (w1 := (wr.setCell ⟨go24, ((ji21) : Int).toNat, none⟩ (.int .u32 ((x7_2) % 4294967296)))) ?hg ?ho ?hn ?hr ?_; (case ho => rfl); (case hg => rfl); (case hn => rfl); (case hr => first | (go_simp; done) | (go_simp; rfl)); intro w26 hw; have hg : wr.grownBy w26 (some go24) := (by rw [hw]; exact HP25.2); have hp_ : Kd.R (Kd.int .u32) 98 w26 w.heap.size (fun k_ => (w.heap.size ≤ k_)) (.slice (some ⟨go24, 0, none⟩) x5_2.length co24) y145 := (by rw [hw, Ny145.out]; exact HP25.1); clear HP25; have n0_ := Aside0.mk (hp_); have n1_ := Aside0.mk ((by rw [hw]; exact below_set (HB.out) GB24.out : Below w.heap.size w w26)); clear HO_5; clear HB; have HO_5 := n0_; have HB := n1_; clear n0_ n1_; clear hg hw hp_)))
                      go_roundg k2
                      case measure => have := HK1.out; have := HK2.out; omega
                      case rel => exact ⟨(y145), (wrap64 (x17_1 + 1)), (by first | rfl | (simp; done) | (simp [*]; done)), H', ⟨by have := HK1.out; have := HK2.out; omega⟩, ⟨by first | ((with_reducible repeat (first | apply Kd.R_alloc | apply Kd.R_drewN | apply Kd.R_drew)); exact HO_5.out) | (rw [Ny145.out]; exact (Kd.R_putg (Kd.R_drewN HO_5.out _) ((ji21) : Int) _).1)⟩, ⟨by first | exact below_set (pw_below_drewN HB.out _) GB24.out | (repeat (first | (with_reducible first | exact HB.out | apply below_alloc | apply pw_below_drewN | apply below_drew1) | exact HB.out))⟩⟩
                    · rw [if_neg c23] at H
                      exact absurd H (by simp)
                  · rw [if_neg c22] at H
                    exact absurd H (by simp)
          · rw [if_neg c8] at H
            have c8b0 : decide (x17_1 < (l0.length : Int)) = false := decide_eq_false c8; clear c8; replace H := Option.bind_eq_some_iff.mp H; obtain ⟨t138, A270, H⟩ := H; replace H : (some t138) = some r := H; have A27 := Aside0.mk A270; clear A270; obtain rfl := Option.some.inj H; obtain ⟨Ao28, co28, eo28⟩ := Kd.R_slice HO_5.out; subst eo28
            go_wp2_with (first | (go_at_call 117; (with_reducible refine (integer_trim.calls (fun k_ => some k_ = (.slice Ao28 x5_1.length co28 : Value).ownBlock) _ _ x5_1 t138 _ ?side1 A27.out).mono ?_); (case side1 => exact Kd.R_V (Kd.R_tight rfl (HO_5.out))); rintro e w29 ⟨v139, rfl, ho0, hb⟩; have n0_ := Aside0.mk (Kd.R_below (by (with_reducible repeat (first | apply Kd.R_alloc | apply Kd.R_drewN | apply Kd.R_drew)); exact HO_5.out) hb); have n1_ := Aside0.mk (Kd.V_lower (Kd.V_mono (ok' := fun k_ => (w.heap.size ≤ k_)) ho0 (fun k_ hk_ => Or.elim hk_ (fun hs_ => ((HO_5.out).1 k_ hs_.symm)) (fun hn_ => (Nat.le_trans (below_size (by repeat (first | (with_reducible first | exact HB.out | apply below_alloc | apply pw_below_drewN | apply below_drew1) | exact HB.out))) hn_)))) (below_size (by repeat (first | (with_reducible first | exact HB.out | apply below_alloc | apply pw_below_drewN | apply below_drew1) | exact HB.out)))); have n2_ := Aside0.mk (below_step (by repeat (first | (with_reducible first | exact HB.out | apply below_alloc | apply pw_below_drewN | apply below_drew1) | exact HB.out)) hb); clear HO_5; clear HB; have HO_5 := n0_; have HO140 := n1_; have HB := n2_; clear n0_ n1_ n2_; (try clear hb); (try clear hb2); (try clear hk); (try clear hi); (try clear ho0)))
            repeat (go_quiet (first | (go_at_call 117; (with_reducible refine (integer_trim.calls (fun k_ => some k_ = (.slice Ao28 x5_1.length co28 : Value).ownBlock) _ _ x5_1 t138 _ ?side1 A27.out).mono ?_); (case side1 => exact Kd.R_V (Kd.R_tight rfl (HO_5.out))); rintro e w29 ⟨v139, rfl, ho0, hb⟩; have n0_ := Aside0.mk (Kd.R_below (by (with_reducible repeat (first | apply Kd.R_alloc | apply Kd.R_drewN | apply Kd.R_drew)); exact HO_5.out) hb); have n1_ := Aside0.mk (Kd.V_lower (Kd.V_mono (ok' := fun k_ => (w.heap.size ≤ k_)) ho0 (fun k_ hk_ => Or.elim hk_ (fun hs_ => ((HO_5.out).1 k_ hs_.symm)) (fun hn_ => (Nat.le_trans (below_size (by repeat (first | (with_reducible first | exact HB.out | apply below_alloc | apply pw_below_drewN | apply below_drew1) | exact HB.out))) hn_)))) (below_size (by repeat (first | (with_reducible first | exact HB.out | apply below_alloc | apply pw_below_drewN | apply below_drew1) | exact HB.out)))); have n2_ := Aside0.mk (below_step (by repeat (first | (with_reducible first | exact HB.out | apply below_alloc | apply pw_below_drewN | apply below_drew1) | exact HB.out)) hb); clear HO_5; clear HB; have HO_5 := n0_; have HO140 := n1_; have HB := n2_; clear n0_ n1_ n2_; (try clear hb); (try clear hb2); (try clear hk); (try clear hi); (try clear ho0))); try go_wp2_with (first | (go_at_call 117; (with_reducible refine (integer_trim.calls (fun k_ => some k_ = (.slice Ao28 x5_1.length co28 : Value).ownBlock) _ _ x5_1 t138 _ ?side1 A27.out).mono ?_); (case side1 => exact Kd.R_V (Kd.R_tight rfl (HO_5.out))); rintro e w29 ⟨v139, rfl, ho0, hb⟩; have n0_ := Aside0.mk (Kd.R_below (by (with_reducible repeat (first | apply Kd.R_alloc | apply Kd.R_drewN | apply Kd.R_drew)); exact HO_5.out) hb); have n1_ := Aside0.mk (Kd.V_lower (Kd.V_mono (ok' := fun k_ => (w.heap.size ≤ k_)) ho0 (fun k_ hk_ => Or.elim hk_ (fun hs_ => ((HO_5.out).1 k_ hs_.symm)) (fun hn_ => (Nat.le_trans (below_size (by repeat (first | (with_reducible first | exact HB.out | apply below_alloc | apply pw_below_drewN | apply below_drew1) | exact HB.out))) hn_)))) (below_size (by repeat (first | (with_reducible first | exact HB.out | apply below_alloc | apply pw_below_drewN | apply below_drew1) | exact HB.out)))); have n2_ := Aside0.mk (below_step (by repeat (first | (with_reducible first | exact HB.out | apply below_alloc | apply pw_below_drewN | apply below_drew1) | exact HB.out)) hb); clear HO_5; clear HB; have HO_5 := n0_; have HO140 := n1_; have HB := n2_; clear n0_ n1_ n2_; (try clear hb); (try clear hb2); (try clear hk); (try clear hi); (try clear ho0))))
            go_ret
            exact ⟨_, by first | rfl | (simp [errW_none, errW_some] <;> rfl) | (simp only [← hji3]; first | rfl | (simp [errW_none, errW_some] <;> rfl)) | (simp [*, errW_none, errW_some] <;> rfl), by (with_reducible repeat (first | apply Kd.V_alloc | apply Kd.V_drewN | apply Kd.V_drew)); exact HO140.out, by repeat (first | (with_reducible first | exact HB.out | apply below_alloc | apply pw_below_drewN | apply below_drew1) | exact HB.out)⟩
    · rw [if_neg c5] at H
      exact absurd H (by simp)
  · rw [if_neg c4] at H
    exact absurd H (by simp)
end Go.Proofs.Ytpkgckccfanchaa.M

namespace Go.Proofs.Ytpkgckccfanchaa.M
open Go.RowKit Go.Proofs.YtpkgckccfanchaaW.PrintWords Go.Proofs.YtpkgckccfanchaaW.PrintLast Go.Proofs.YtpkgckccfanchaaW.PrintMore
attribute [local go_sem] max2_int min2_int max_two min_two max_three min_three max_four min_four
set_option linter.unusedVariables false
set_option linter.unusedSimpArgs false
def integer_Mul.f (k : Nat) (a0_0 : Bool) (l0_1 : List Int) (a1_0 : Bool) (l1_1 : List Int) : Option (Bool × List Int) := (integer_magnitude.f a0_0 l0_1).bind fun t149 => ((integer_magnitude.f a1_0 l1_1).bind fun t152 => ((integer_times.f k t149 t152).bind fun t155 => ((integer_signed.f (a0_0 != a1_0) t155).bind fun bt158 => (some (bt158.1, bt158.2)))))
theorem integer_Mul.mono : ∀ a0 a1 a2 a3 k, LeO (integer_Mul.f k a0 a1 a2 a3) (integer_Mul.f (k + 1) a0 a1 a2 a3) := by
  intro a0 a1 a2 a3 k
  unfold integer_Mul.f
  repeat' first
      | (with_reducible exact integer_times.mono _ _ _)
      | (with_reducible exact LeO.refl _)
      | (with_reducible exact LeO.none _)
      | (with_reducible refine LeO.ite ?_ ?_)
      | (with_reducible refine LeO.bind ?_ (fun _ => ?_))
      | exact integer_times.mono _ _ _
      | exact LeO.none _
      | refine LeO.ite ?_ ?_
      | refine LeO.bind ?_ (fun _ => ?_)
def integer_Mul.T1 : Bool × List (List Nat × List Nat) := (true, [([], []), ([0], [0]), ([], []), ([2], [2]), ([1, 3], [1, 3]), ([], []), ([5], [5]), ([], []), ([7, 6], [7]), ([6, 8, 8], [6, 8]), ([4, 9, 9], [4, 9]), ([10, 10, 0, 1, 2, 3, 4, 5, 6, 7, 8, 9, 10], [10])])
def integer_Mul.B1 : List Nat := [0, 1, 0, 4, 15, 0, 32, 0, 224, 480, 1023, 2047]
theorem integer_Mul.tab1 : rtab .any (opsOf Try.f96 1) = integer_Mul.T1 := by kernel_rfl
theorem integer_Mul.bits1 : waitsOk integer_Mul.T1.2 integer_Mul.B1 = true := by kernel_rfl
set_option maxHeartbeats 8000000 in
set_option maxRecDepth 100000 in
theorem integer_Mul.calls (k : Nat) (a0_0 : Bool) (P0_1_ : Nat → Prop) (A0_1 : Option Addr) (c0_1 : Nat) (l0_1 : List Int) (a1_0 : Bool) (P1_1_ : Nat → Prop) (A1_1 : Option Addr) (c1_1 : Nat) (l1_1 : List Int) (r1 : Bool) (r2 : List Int) (w : World) (hs0_1 : Kd.V (Kd.int .u32) 98 w w.heap.size (fun k_ => P0_1_ k_) (.slice A0_1 l0_1.length c0_1) l0_1) (hs1_1 : Kd.V (Kd.int .u32) 98 w w.heap.size (fun k_ => P1_1_ k_) (.slice A1_1 l1_1.length c1_1) l1_1) (h : integer_Mul.f k a0_0 l0_1 a1_0 l1_1 = some (r1, r2)) :
    Calls Try.prog 96 #[.agg #[.bool a0_0, .slice A0_1 l0_1.length c0_1], .agg #[.bool a1_0, .slice A1_1 l1_1.length c1_1]] w fun e w' => ∃ v1_ : Value, e = .returned (.agg #[.bool r1, v1_]) ∧ Kd.V (Kd.int .u32) 98 w' w.heap.size (fun k_ => ((P0_1_ k_ ∨ P1_1_ k_) ∨ w.heap.size ≤ k_)) v1_ r2 ∧ Below w.heap.size w w' := by
  have hu24 := Try.underlying24; have HO0_1 := Aside0.mk (show Kd.V (Kd.int .u32) 98 w w.heap.size (fun k_ => ((P0_1_ k_ ∨ P1_1_ k_) ∨ w.heap.size ≤ k_)) (.slice A0_1 l0_1.length c0_1) l0_1 from Kd.V_mono hs0_1 (fun k_ hk => .inl (.inl hk))); have HO1_1 := Aside0.mk (show Kd.V (Kd.int .u32) 98 w w.heap.size (fun k_ => ((P0_1_ k_ ∨ P1_1_ k_) ∨ w.heap.size ≤ k_)) (.slice A1_1 l1_1.length c1_1) l1_1 from Kd.V_mono hs1_1 (fun k_ hk => .inl (.inr hk))); have HB := Aside0.mk (Below.refl w.heap.size w); have H : ((integer_magnitude.f a0_0 l0_1).bind fun t149 => ((integer_magnitude.f a1_0 l1_1).bind fun t152 => ((integer_times.f k t149 t152).bind fun t155 => ((integer_signed.f (a0_0 != a1_0) t155).bind fun bt158 => (some (bt158.1, bt158.2)))))) = some (r1, r2) := h; clear h; replace H := Option.bind_eq_some_iff.mp H; obtain ⟨t149, A30, H⟩ := H; replace H : ((integer_magnitude.f a1_0 l1_1).bind fun t152 => ((integer_times.f k t149 t152).bind fun t155 => ((integer_signed.f (a0_0 != a1_0) t155).bind fun bt158 => (some (bt158.1, bt158.2))))) = some (r1, r2) := H; have A3 := Aside0.mk A30; clear A30; replace H := Option.bind_eq_some_iff.mp H; obtain ⟨t152, A40, H⟩ := H; replace H : ((integer_times.f k t149 t152).bind fun t155 => ((integer_signed.f (a0_0 != a1_0) t155).bind fun bt158 => (some (bt158.1, bt158.2)))) = some (r1, r2) := H; have A4 := Aside0.mk A40; clear A40; replace H := Option.bind_eq_some_iff.mp H; obtain ⟨t155, A50, H⟩ := H; replace H : ((integer_signed.f (a0_0 != a1_0) t155).bind fun bt158 => (some (bt158.1, bt158.2))) = some (r1, r2) := H; have A5 := Aside0.mk A50; clear A50; replace H := Option.bind_eq_some_iff.mp H; obtain ⟨⟨t158, t159⟩, A60, H⟩ := H; replace H : (some (t158, t159)) = some (r1, r2) := H; have A6 := Aside0.mk A60; clear A60
  simp only [Option.some.injEq, Prod.mk.injEq] at H
  obtain ⟨rfl, rfl⟩ := H
  go_enter Try.func96, Try.ntmps96
  try go_wp2_with (first | ((with_reducible refine gate_dst (N := 2) rfl ?_); refine box_event ?hg (N := 2) ?hd (cs := #[.bool a0_0, .slice A0_1 l0_1.length c0_1]) (t := 24) ?hr ?_; (case hd => rfl); (case hg => rfl); (case hr => first | (go_simp; done) | (go_simp; rfl)); intro gb146 hg w7 hbox hb; have n0_ := Aside0.mk (Kd.V_below (Kd.V_elderB (by (with_reducible repeat (first | apply Kd.V_alloc | apply Kd.V_drewN | apply Kd.V_drew)); exact HO0_1.out) gb146 (Nat.le_of_eq hg.symm)) hb); have n1_ := Aside0.mk (Kd.V_below (Kd.V_elderB (by (with_reducible repeat (first | apply Kd.V_alloc | apply Kd.V_drewN | apply Kd.V_drew)); exact HO1_1.out) gb146 (Nat.le_of_eq hg.symm)) hb); have n2_ := Aside0.mk (below_step (by repeat (first | (with_reducible first | exact HB.out | apply below_alloc | apply pw_below_drewN | apply below_drew1) | exact HB.out)) hb); have n3_ := Aside0.mk (hbox); have n4_ := Aside0.mk ((by rw [hg]; exact (below_size (by repeat (first | (with_reducible first | exact HB.out | apply below_alloc | apply pw_below_drewN | apply below_drew1) | exact HB.out))) : w.heap.size ≤ gb146)); have n5_ := Aside0.mk ((by rw [hg]; exact (below_size (by repeat (first | (with_reducible first | exact HB.out | apply below_alloc | apply pw_below_drewN | apply below_drew1) | exact HB.out))) : w.heap.size ≤ gb146)); clear HO0_1; clear HO1_1; clear HB; have HO0_1 := n0_; have HO1_1 := n1_; have HB := n2_; have BK146 := n3_; have GW146 := n4_; have GE146 := n5_; clear n0_ n1_ n2_ n3_ n4_ n5_; clear hb hbox hg) | ((with_reducible refine gate_dst (N := 3) rfl ?_); refine box_event ?hg (N := 3) ?hd (cs := #[.bool a1_0, .slice A1_1 l1_1.length c1_1]) (t := 24) ?hr ?_; (case hd => rfl); (case hg => rfl); (case hr => first | (go_simp; done) | (go_simp; rfl)); intro gb147 hg w8 hbox hb; have n0_ := Aside0.mk (Kd.V_below (Kd.V_elderB (by (with_reducible repeat (first | apply Kd.V_alloc | apply Kd.V_drewN | apply Kd.V_drew)); exact HO0_1.out) gb147 (Nat.le_of_eq hg.symm)) hb); have n1_ := Aside0.mk (Kd.V_below (Kd.V_elderB (by (with_reducible repeat (first | apply Kd.V_alloc | apply Kd.V_drewN | apply Kd.V_drew)); exact HO1_1.out) gb147 (Nat.le_of_eq hg.symm)) hb); have n2_ := Aside0.mk (blk_below (g := gb146) (o := .cells #[.bool a0_0, .slice A0_1 l0_1.length c0_1] 24 (0, 0)) (by (with_reducible repeat (first | refine blk_drewN ?_ _ | refine blk_drew ?_ | refine blk_alloc ?_ _)); exact BK146.out) hb); have n3_ := Aside0.mk (below_step (by repeat (first | (with_reducible first | exact HB.out | apply below_alloc | apply pw_below_drewN | apply below_drew1 | refine below_set ?_ GE146.out) | exact HB.out)) hb); have n4_ := Aside0.mk (hbox); have n5_ := Aside0.mk ((by rw [hg]; exact (below_size (by repeat (first | (with_reducible first | exact HB.out | apply below_alloc | apply pw_below_drewN | apply below_drew1 | refine below_set ?_ GE146.out) | exact HB.out))) : w.heap.size ≤ gb147)); have n6_ := Aside0.mk ((by rw [hg]; exact (below_size (by repeat (first | (with_reducible first | exact HB.out | apply below_alloc | apply pw_below_drewN | apply below_drew1 | refine below_set ?_ GE146.out) | exact HB.out))) : w.heap.size ≤ gb147)); have n7_ := Aside0.mk ((by rw [hg]; exact Nat.ne_of_lt (blk_lt (g := gb146) (o := .cells #[.bool a0_0, .slice A0_1 l0_1.length c0_1] 24 (0, 0)) (by (with_reducible repeat (first | refine blk_drewN ?_ _ | refine blk_drew ?_ | refine blk_alloc ?_ _)); exact BK146.out)) : gb146 ≠ gb147)); have n8_ := Aside0.mk ((by rw [hg]; exact Nat.ne_of_gt (blk_lt (g := gb146) (o := .cells #[.bool a0_0, .slice A0_1 l0_1.length c0_1] 24 (0, 0)) (by (with_reducible repeat (first | refine blk_drewN ?_ _ | refine blk_drew ?_ | refine blk_alloc ?_ _)); exact BK146.out)) : gb147 ≠ gb146)); clear HO0_1; clear HO1_1; clear BK146; clear HB; have HO0_1 := n0_; have HO1_1 := n1_; have BK146 := n2_; have HB := n3_; have BK147 := n4_; have GW147 := n5_; have GE147 := n6_; have NB146_147 := n7_; have NB147_146 := n8_; clear n0_ n1_ n2_ n3_ n4_ n5_ n6_ n7_ n8_; clear hb hbox hg) | ((with_reducible refine gate_dst (N := 4) rfl ?_); refine box_event ?hg (N := 4) ?hd (cs := #[.bool false, .slice none 0 0]) (t := 24) ?hr ?_; (case hd => rfl); (case hg => rfl); (case hr => first | (go_simp; done) | (go_simp; rfl)); intro gb148 hg w9 hbox hb; have n0_ := Aside0.mk (Kd.V_below (Kd.V_elderB (by (with_reducible repeat (first | apply Kd.V_alloc | apply Kd.V_drewN | apply Kd.V_drew)); exact HO0_1.out) gb148 (Nat.le_of_eq hg.symm)) hb); have n1_ := Aside0.mk (Kd.V_below (Kd.V_elderB (by (with_reducible repeat (first | apply Kd.V_alloc | apply Kd.V_drewN | apply Kd.V_drew)); exact HO1_1.out) gb148 (Nat.le_of_eq hg.symm)) hb); have n2_ := Aside0.mk (blk_below (g := gb146) (o := .cells #[.bool a0_0, .slice A0_1 l0_1.length c0_1] 24 (0, 0)) (by (with_reducible repeat (first | refine blk_drewN ?_ _ | refine blk_drew ?_ | refine blk_alloc ?_ _)); exact BK146.out) hb); have n3_ := Aside0.mk (blk_below (g := gb147) (o := .cells #[.bool a1_0, .slice A1_1 l1_1.length c1_1] 24 (0, 0)) (by (with_reducible repeat (first | refine blk_drewN ?_ _ | refine blk_drew ?_ | refine blk_alloc ?_ _)); exact BK147.out) hb); have n4_ := Aside0.mk (below_step (by repeat (first | (with_reducible first | exact HB.out | apply below_alloc | apply pw_below_drewN | apply below_drew1 | refine below_set ?_ GE146.out | refine below_set ?_ GE147.out) | exact HB.out)) hb); have n5_ := Aside0.mk (hbox); have n6_ := Aside0.mk ((by rw [hg]; exact (below_size (by repeat (first | (with_reducible first | exact HB.out | apply below_alloc | apply pw_below_drewN | apply below_drew1 | refine below_set ?_ GE146.out | refine below_set ?_ GE147.out) | exact HB.out))) : w.heap.size ≤ gb148)); have n7_ := Aside0.mk ((by rw [hg]; exact (below_size (by repeat (first | (with_reducible first | exact HB.out | apply below_alloc | apply pw_below_drewN | apply below_drew1 | refine below_set ?_ GE146.out | refine below_set ?_ GE147.out) | exact HB.out))) : w.heap.size ≤ gb148)); have n8_ := Aside0.mk ((by rw [hg]; exact Nat.ne_of_lt (blk_lt (g := gb146) (o := .cells #[.bool a0_0, .slice A0_1 l0_1.length c0_1] 24 (0, 0)) (by (with_reducible repeat (first | refine blk_drewN ?_ _ | refine blk_drew ?_ | refine blk_alloc ?_ _)); exact BK146.out)) : gb146 ≠ gb148)); have n9_ := Aside0.mk ((by rw [hg]; exact Nat.ne_of_gt (blk_lt (g := gb146) (o := .cells #[.bool a0_0, .slice A0_1 l0_1.length c0_1] 24 (0, 0)) (by (with_reducible repeat (first | refine blk_drewN ?_ _ | refine blk_drew ?_ | refine blk_alloc ?_ _)); exact BK146.out)) : gb148 ≠ gb146)); have n10_ := Aside0.mk ((by rw [hg]; exact Nat.ne_of_lt (blk_lt (g := gb147) (o := .cells #[.bool a1_0, .slice A1_1 l1_1.length c1_1] 24 (0, 0)) (by (with_reducible repeat (first | refine blk_drewN ?_ _ | refine blk_drew ?_ | refine blk_alloc ?_ _)); exact BK147.out)) : gb147 ≠ gb148)); have n11_ := Aside0.mk ((by rw [hg]; exact Nat.ne_of_gt (blk_lt (g := gb147) (o := .cells #[.bool a1_0, .slice A1_1 l1_1.length c1_1] 24 (0, 0)) (by (with_reducible repeat (first | refine blk_drewN ?_ _ | refine blk_drew ?_ | refine blk_alloc ?_ _)); exact BK147.out)) : gb148 ≠ gb147)); clear HO0_1; clear HO1_1; clear BK146; clear BK147; clear HB; have HO0_1 := n0_; have HO1_1 := n1_; have BK146 := n2_; have BK147 := n3_; have HB := n4_; have BK148 := n5_; have GW148 := n6_; have GE148 := n7_; have NB146_148 := n8_; have NB148_146 := n9_; have NB147_148 := n10_; have NB148_147 := n11_; clear n0_ n1_ n2_ n3_ n4_ n5_ n6_ n7_ n8_ n9_ n10_ n11_; clear hb hbox hg))
  have n0_ := Aside0.mk (Kd.V_drew HO0_1.out); have n1_ := Aside0.mk (Kd.V_drew HO1_1.out); have n2_ := Aside0.mk (blk_drew BK146.out); have n3_ := Aside0.mk (blk_drew BK147.out); have n4_ := Aside0.mk (blk_drew BK148.out); have n5_ := Aside0.mk (below_drew1 HB.out); clear HO0_1; clear HO1_1; clear BK146; clear BK147; clear BK148; clear HB; have HO0_1 := n0_; have HO1_1 := n1_; have BK146 := n2_; have BK147 := n3_; have BK148 := n4_; have HB := n5_; clear n0_ n1_ n2_ n3_ n4_ n5_
  refine start_ (n := 12) (S := fun w' => w'.cell? ⟨gb146, 0, none⟩ = some (.bool a0_0) ∧ w'.cell? ⟨gb146, 1, none⟩ = some (.slice A0_1 l0_1.length c0_1) ∧ w'.cell? ⟨gb147, 0, none⟩ = some (.bool a1_0) ∧ w'.cell? ⟨gb147, 1, none⟩ = some (.slice A1_1 l1_1.length c1_1)) (ds := []) #[false, false, false, false, false, false, false, false, false, false, false, false] (by kernel_rfl) rfl rfl ⟨(blk_cell BK146.out 0).trans rfl, (blk_cell BK146.out 1).trans rfl, (blk_cell BK147.out 0).trans rfl, (blk_cell BK147.out 1).trans rfl⟩ (fun hHeld => ?_); refine with_tabW integer_Mul.tab1 integer_Mul.bits1 (fun HT_ HW_ => ?_)
  generalize w9.drew = w10 at HO0_1 HO1_1 BK146 BK147 BK148 HB hHeld ⊢
  refine pure_ (i := 0) (N := some 5) (v := ?_) (a' := ?_) #[true, false, false, false, false, false, false, false, false, false, false, false] rfl rfl (any_of HT_.out (by kernel_rfl)) (fun _ _ _ h => h) (Or.inl ⟨by rfl, ?_⟩) ?_ ?_
  rotate_left
  · intro w'
    go_simp
    with_reducible rfl
  rotate_left
  · simp only [Act.put, List.setIfInBounds_toArray, List.set_cons_zero, List.set_cons_succ, i64_w, i32_w]
    rfl
  refine pure_ (i := 2) (N := some 7) (v := ?_) (a' := ?_) #[true, false, true, false, false, false, false, false, false, false, false, false] rfl rfl (any_of HT_.out (by kernel_rfl)) (fun _ _ _ h => h) (Or.inl ⟨by rfl, ?_⟩) ?_ ?_
  rotate_left
  · intro w'
    go_simp
    with_reducible rfl
  rotate_left
  · simp only [Act.put, List.setIfInBounds_toArray, List.set_cons_zero, List.set_cons_succ, i64_w, i32_w]
    rfl
  refine take_ (i := 1) (N := some 6) (v := ?_) (a' := ?_) #[true, true, true, false, false, false, false, false, false, false, false, false] rfl rfl (take_ofW HT_.out HW_.out (by kernel_rfl)) (fun _ _ _ h => h) (Or.inl ⟨by rfl, ?_⟩) hHeld ?_ ?_
  rotate_left
  · rintro w' ⟨s0, s1, s2, s3⟩
    go_simp
    with_reducible rfl
  rotate_left
  · simp only [Act.put, List.setIfInBounds_toArray, List.set_cons_zero, List.set_cons_succ, i64_w, i32_w]
    rfl
  refine take_ (i := 3) (N := some 8) (v := ?_) (a' := ?_) #[true, true, true, true, false, false, false, false, false, false, false, false] rfl rfl (take_ofW HT_.out HW_.out (by kernel_rfl)) (fun _ _ _ h => h) (Or.inl ⟨by rfl, ?_⟩) hHeld ?_ ?_
  rotate_left
  · rintro w' ⟨s0, s1, s2, s3⟩
    go_simp
    with_reducible rfl
  rotate_left
  · simp only [Act.put, List.setIfInBounds_toArray, List.set_cons_zero, List.set_cons_succ, i64_w, i32_w]
    rfl
  refine pure_ (i := 4) (N := some 9) (v := ?_) (a' := ?_) #[true, true, true, true, true, false, false, false, false, false, false, false] rfl rfl (any_of HT_.out (by kernel_rfl)) (fun _ _ _ h => h) (Or.inl ⟨by rfl, ?_⟩) ?_ ?_
  rotate_left
  · intro w'
    go_simp
    with_reducible rfl
  rotate_left
  · simp only [Act.put, List.setIfInBounds_toArray, List.set_cons_zero, List.set_cons_succ, i64_w, i32_w]
    rfl
  refine take_ (i := 5) (N := some 10) (v := ?_) (a' := ?_) #[true, true, true, true, true, true, false, false, false, false, false, false] rfl rfl (take_ofW HT_.out HW_.out (by kernel_rfl)) (fun _ _ _ h => h) (Or.inl ⟨by rfl, ?_⟩) hHeld ?_ ?_
  rotate_left
  · rintro w' ⟨s0, s1, s2, s3⟩
    go_simp
    with_reducible rfl
  rotate_left
  · simp only [Act.put, List.setIfInBounds_toArray, List.set_cons_zero, List.set_cons_succ, i64_w, i32_w]
    rfl
  refine take_ (i := 7) (N := some 12) (v := ?_) (a' := ?_) #[true, true, true, true, true, true, false, true, false, false, false, false] rfl rfl (take_ofW HT_.out HW_.out (by kernel_rfl)) (fun _ _ _ h => h) (Or.inl ⟨by rfl, ?_⟩) hHeld ?_ ?_
  rotate_left
  · rintro w' ⟨s0, s1, s2, s3⟩
    go_simp
    with_reducible rfl
  rotate_left
  · simp only [Act.put, List.setIfInBounds_toArray, List.set_cons_zero, List.set_cons_succ, i64_w, i32_w]
    rfl
  refine one_ (i := 6) (N := some 11) #[true, true, true, true, true, true, true, true, false, false, false, false] rfl rfl (one_of HT_.out (by kernel_rfl)) (by decide) (fun K hK => ?_)
  refine goes_ Try.func101 (by kernel_rfl) rfl #[.agg #[.bool a0_0, .slice A0_1 l0_1.length c0_1]] (by rfl) rfl rfl (by (try simp only [List.map_toArray, List.map_cons, List.map_nil]); first | done | rfl | (simp only [List.length_drop, List.length_take]; rfl)) ?_
  with_reducible refine (integer_magnitude.calls a0_0 (fun k_ => (((((P0_1_ k_ ∨ P1_1_ k_) ∨ w.heap.size ≤ k_) ∧ k_ ≠ gb146) ∧ k_ ≠ gb147) ∧ k_ ≠ gb148)) _ _ l0_1 t149 _ ?side1 A3.out).mono ?_
  (case side1 => exact HO0_1.out)
  rintro e w11 ⟨v150, rfl, ho0, hb⟩; refine ⟨_, rfl, ?_⟩; have n0_ := Aside0.mk (Kd.V_below (by (with_reducible repeat (first | apply Kd.V_alloc | apply Kd.V_drewN | apply Kd.V_drew)); exact HO0_1.out) hb); have n1_ := Aside0.mk (Kd.V_below (by (with_reducible repeat (first | apply Kd.V_alloc | apply Kd.V_drewN | apply Kd.V_drew)); exact HO1_1.out) hb); have n2_ := Aside0.mk (Kd.V_lower (Kd.V_mono (ok' := fun k_ => ((P0_1_ k_ ∨ P1_1_ k_) ∨ w.heap.size ≤ k_) ∧ k_ ≠ gb146 ∧ k_ ≠ gb147 ∧ k_ ≠ gb148) ho0 (fun k_ hk_ => ⟨Or.elim hk_ (fun hs_ => hs_.1.1.1) (fun hn_ => (.inr (Nat.le_trans (below_size (by repeat (first | (with_reducible first | exact HB.out | apply below_alloc | apply pw_below_drewN | apply below_drew1 | refine below_set ?_ GE146.out | refine below_set ?_ GE147.out | refine below_set ?_ GE148.out) | exact HB.out))) hn_))), Or.elim hk_ (fun hs_ => hs_.1.1.2) (fun hn_ => (Kd.freshB (g := gb146) (o := .cells #[.bool a0_0, .slice A0_1 l0_1.length c0_1] 24 (0, 0)) (by (with_reducible repeat (first | refine blk_drewN ?_ _ | refine blk_drew ?_ | refine blk_alloc ?_ _)); exact BK146.out) k_ hn_)), Or.elim hk_ (fun hs_ => hs_.1.2) (fun hn_ => (Kd.freshB (g := gb147) (o := .cells #[.bool a1_0, .slice A1_1 l1_1.length c1_1] 24 (0, 0)) (by (with_reducible repeat (first | refine blk_drewN ?_ _ | refine blk_drew ?_ | refine blk_alloc ?_ _)); exact BK147.out) k_ hn_)), Or.elim hk_ (fun hs_ => hs_.2) (fun hn_ => (Kd.freshB (g := gb148) (o := .cells #[.bool false, .slice none 0 0] 24 (0, 0)) (by (with_reducible repeat (first | refine blk_drewN ?_ _ | refine blk_drew ?_ | refine blk_alloc ?_ _)); exact BK148.out) k_ hn_))⟩)) (below_size (by repeat (first | (with_reducible first | exact HB.out | apply below_alloc | apply pw_below_drewN | apply below_drew1 | refine below_set ?_ GE146.out | refine below_set ?_ GE147.out | refine below_set ?_ GE148.out) | exact HB.out)))); have n3_ := Aside0.mk (blk_below (g := gb146) (o := .cells #[.bool a0_0, .slice A0_1 l0_1.length c0_1] 24 (0, 0)) (by (with_reducible repeat (first | refine blk_drewN ?_ _ | refine blk_drew ?_ | refine blk_alloc ?_ _)); exact BK146.out) hb); have n4_ := Aside0.mk (blk_below (g := gb147) (o := .cells #[.bool a1_0, .slice A1_1 l1_1.length c1_1] 24 (0, 0)) (by (with_reducible repeat (first | refine blk_drewN ?_ _ | refine blk_drew ?_ | refine blk_alloc ?_ _)); exact BK147.out) hb); have n5_ := Aside0.mk (blk_below (g := gb148) (o := .cells #[.bool false, .slice none 0 0] 24 (0, 0)) (by (with_reducible repeat (first | refine blk_drewN ?_ _ | refine blk_drew ?_ | refine blk_alloc ?_ _)); exact BK148.out) hb); have n6_ := Aside0.mk (below_step (by repeat (first | (with_reducible first | exact HB.out | apply below_alloc | apply pw_below_drewN | apply below_drew1 | refine below_set ?_ GE146.out | refine below_set ?_ GE147.out | refine below_set ?_ GE148.out) | exact HB.out)) hb); clear HO0_1; clear HO1_1; clear BK146; clear BK147; clear BK148; clear HB; have HO0_1 := n0_; have HO1_1 := n1_; have HO151 := n2_; have BK146 := n3_; have BK147 := n4_; have BK148 := n5_; have HB := n6_; clear n0_ n1_ n2_ n3_ n4_ n5_ n6_
  (try clear hb)
  (try clear hb2)
  (try clear hk)
  (try clear hi)
  (try clear ho0)
  refine hK.out _ _ ⟨(blk_cell BK146.out 0).trans rfl, (blk_cell BK146.out 1).trans rfl, (blk_cell BK147.out 0).trans rfl, (blk_cell BK147.out 1).trans rfl⟩ (fun hHeld => ?_); clear hK K
  refine norm_ (a' := ?_) ?_ ?_
  rotate_left
  · show Act.put _ (some 11) _ = _
    simp only [Act.put, List.setIfInBounds_toArray, List.set_cons_zero, List.set_cons_succ, i64_w, i32_w]
    rfl
  refine one_ (i := 8) (N := some 13) #[true, true, true, true, true, true, true, true, true, false, false, false] rfl rfl (one_of HT_.out (by kernel_rfl)) (by decide) (fun K hK => ?_)
  refine goes_ Try.func101 (by kernel_rfl) rfl #[.agg #[.bool a1_0, .slice A1_1 l1_1.length c1_1]] (by rfl) rfl rfl (by (try simp only [List.map_toArray, List.map_cons, List.map_nil]); first | done | rfl | (simp only [List.length_drop, List.length_take]; rfl)) ?_
  with_reducible refine (integer_magnitude.calls a1_0 (fun k_ => (((((P0_1_ k_ ∨ P1_1_ k_) ∨ w.heap.size ≤ k_) ∧ k_ ≠ gb146) ∧ k_ ≠ gb147) ∧ k_ ≠ gb148)) _ _ l1_1 t152 _ ?side1 A4.out).mono ?_
  (case side1 => exact HO1_1.out)
  rintro e w12 ⟨v153, rfl, ho0, hb⟩; refine ⟨_, rfl, ?_⟩; have n0_ := Aside0.mk (Kd.V_below (by (with_reducible repeat (first | apply Kd.V_alloc | apply Kd.V_drewN | apply Kd.V_drew)); exact HO0_1.out) hb); have n1_ := Aside0.mk (Kd.V_below (by (with_reducible repeat (first | apply Kd.V_alloc | apply Kd.V_drewN | apply Kd.V_drew)); exact HO1_1.out) hb); have n2_ := Aside0.mk (Kd.V_below (by (with_reducible repeat (first | apply Kd.V_alloc | apply Kd.V_drewN | apply Kd.V_drew)); exact HO151.out) hb); have n3_ := Aside0.mk (Kd.V_lower (Kd.V_mono (ok' := fun k_ => ((P0_1_ k_ ∨ P1_1_ k_) ∨ w.heap.size ≤ k_) ∧ k_ ≠ gb146 ∧ k_ ≠ gb147 ∧ k_ ≠ gb148) ho0 (fun k_ hk_ => ⟨Or.elim hk_ (fun hs_ => hs_.1.1.1) (fun hn_ => (.inr (Nat.le_trans (below_size (by repeat (first | (with_reducible first | exact HB.out | apply below_alloc | apply pw_below_drewN | apply below_drew1 | refine below_set ?_ GE146.out | refine below_set ?_ GE147.out | refine below_set ?_ GE148.out) | exact HB.out))) hn_))), Or.elim hk_ (fun hs_ => hs_.1.1.2) (fun hn_ => (Kd.freshB (g := gb146) (o := .cells #[.bool a0_0, .slice A0_1 l0_1.length c0_1] 24 (0, 0)) (by (with_reducible repeat (first | refine blk_drewN ?_ _ | refine blk_drew ?_ | refine blk_alloc ?_ _)); exact BK146.out) k_ hn_)), Or.elim hk_ (fun hs_ => hs_.1.2) (fun hn_ => (Kd.freshB (g := gb147) (o := .cells #[.bool a1_0, .slice A1_1 l1_1.length c1_1] 24 (0, 0)) (by (with_reducible repeat (first | refine blk_drewN ?_ _ | refine blk_drew ?_ | refine blk_alloc ?_ _)); exact BK147.out) k_ hn_)), Or.elim hk_ (fun hs_ => hs_.2) (fun hn_ => (Kd.freshB (g := gb148) (o := .cells #[.bool false, .slice none 0 0] 24 (0, 0)) (by (with_reducible repeat (first | refine blk_drewN ?_ _ | refine blk_drew ?_ | refine blk_alloc ?_ _)); exact BK148.out) k_ hn_))⟩)) (below_size (by repeat (first | (with_reducible first | exact HB.out | apply below_alloc | apply pw_below_drewN | apply below_drew1 | refine below_set ?_ GE146.out | refine below_set ?_ GE147.out | refine below_set ?_ GE148.out) | exact HB.out)))); have n4_ := Aside0.mk (blk_below (g := gb146) (o := .cells #[.bool a0_0, .slice A0_1 l0_1.length c0_1] 24 (0, 0)) (by (with_reducible repeat (first | refine blk_drewN ?_ _ | refine blk_drew ?_ | refine blk_alloc ?_ _)); exact BK146.out) hb); have n5_ := Aside0.mk (blk_below (g := gb147) (o := .cells #[.bool a1_0, .slice A1_1 l1_1.length c1_1] 24 (0, 0)) (by (with_reducible repeat (first | refine blk_drewN ?_ _ | refine blk_drew ?_ | refine blk_alloc ?_ _)); exact BK147.out) hb); have n6_ := Aside0.mk (blk_below (g := gb148) (o := .cells #[.bool false, .slice none 0 0] 24 (0, 0)) (by (with_reducible repeat (first | refine blk_drewN ?_ _ | refine blk_drew ?_ | refine blk_alloc ?_ _)); exact BK148.out) hb); have n7_ := Aside0.mk (below_step (by repeat (first | (with_reducible first | exact HB.out | apply below_alloc | apply pw_below_drewN | apply below_drew1 | refine below_set ?_ GE146.out | refine below_set ?_ GE147.out | refine below_set ?_ GE148.out) | exact HB.out)) hb); clear HO0_1; clear HO1_1; clear HO151; clear BK146; clear BK147; clear BK148; clear HB; have HO0_1 := n0_; have HO1_1 := n1_; have HO151 := n2_; have HO154 := n3_; have BK146 := n4_; have BK147 := n5_; have BK148 := n6_; have HB := n7_; clear n0_ n1_ n2_ n3_ n4_ n5_ n6_ n7_
  (try clear hb)
  (try clear hb2)
  (try clear hk)
  (try clear hi)
  (try clear ho0)
  obtain ⟨Ao13, co13, eo13⟩ := Kd.V_slice HO151.out
  (first | subst eo13 | (injection eo13 with f1_ f2_ f3_; have f4_ := f1_.symm; have f5_ := f3_.symm; clear f1_ f2_ f3_; subst f4_; subst f5_))
  obtain ⟨Ao14, co14, eo14⟩ := Kd.V_slice HO154.out
  (first | subst eo14 | (injection eo14 with f1_ f2_ f3_; have f4_ := f1_.symm; have f5_ := f3_.symm; clear f1_ f2_ f3_; subst f4_; subst f5_))
  refine hK.out _ _ ⟨(blk_cell BK146.out 0).trans rfl, (blk_cell BK146.out 1).trans rfl, (blk_cell BK147.out 0).trans rfl, (blk_cell BK147.out 1).trans rfl⟩ (fun hHeld => ?_); clear hK K
  refine norm_ (a' := ?_) ?_ ?_
  rotate_left
  · show Act.put _ (some 13) _ = _
    simp only [Act.put, List.setIfInBounds_toArray, List.set_cons_zero, List.set_cons_succ, i64_w, i32_w]
    rfl
  refine one_ (i := 9) (N := some 14) #[true, true, true, true, true, true, true, true, true, true, false, false] rfl rfl (one_of HT_.out (by kernel_rfl)) (by decide) (fun K hK => ?_)
  refine goes_ Try.func115 (by kernel_rfl) rfl #[.slice Ao13 t149.length co13, .slice Ao14 t152.length co14] (by rfl) rfl rfl (by (try simp only [List.map_toArray, List.map_cons, List.map_nil]); first | done | rfl | (simp only [List.length_drop, List.length_take]; rfl)) ?_
  with_reducible refine (integer_times.calls k _ _ t149 _ _ t152 t155 _ ?side1 ?side2 ?side3 ?side4 A5.out).mono ?_
  (case side1 => repeat (first | exact (Kd.V_reads' HO151.out).2.2 | (with_reducible refine Kd.C_alloc ?_ _) | (with_reducible refine Kd.C_drewN ?_ _) | (with_reducible refine Kd.C_drew ?_)))
  (case side2 => exact (Kd.V_reads' HO151.out).2.1)
  (case side3 => repeat (first | exact (Kd.V_reads' HO154.out).2.2 | (with_reducible refine Kd.C_alloc ?_ _) | (with_reducible refine Kd.C_drewN ?_ _) | (with_reducible refine Kd.C_drew ?_)))
  (case side4 => exact (Kd.V_reads' HO154.out).2.1)
  rintro e w15 ⟨v156, rfl, ho0, hb⟩; refine ⟨_, rfl, ?_⟩; have n0_ := Aside0.mk (Kd.V_below (by (with_reducible repeat (first | apply Kd.V_alloc | apply Kd.V_drewN | apply Kd.V_drew)); exact HO0_1.out) hb); have n1_ := Aside0.mk (Kd.V_below (by (with_reducible repeat (first | apply Kd.V_alloc | apply Kd.V_drewN | apply Kd.V_drew)); exact HO1_1.out) hb); have n2_ := Aside0.mk (Kd.V_below (by (with_reducible repeat (first | apply Kd.V_alloc | apply Kd.V_drewN | apply Kd.V_drew)); exact HO151.out) hb); have n3_ := Aside0.mk (Kd.V_below (by (with_reducible repeat (first | apply Kd.V_alloc | apply Kd.V_drewN | apply Kd.V_drew)); exact HO154.out) hb); have n4_ := Aside0.mk (Kd.V_lower (Kd.V_mono (ok' := fun k_ => ((P0_1_ k_ ∨ P1_1_ k_) ∨ w.heap.size ≤ k_) ∧ k_ ≠ gb146 ∧ k_ ≠ gb147 ∧ k_ ≠ gb148) ho0 (fun k_ hk_ => ⟨(.inr (Nat.le_trans (below_size (by repeat (first | (with_reducible first | exact HB.out | apply below_alloc | apply pw_below_drewN | apply below_drew1 | refine below_set ?_ GE146.out | refine below_set ?_ GE147.out | refine below_set ?_ GE148.out) | exact HB.out))) hk_)), (Kd.freshB (g := gb146) (o := .cells #[.bool a0_0, .slice A0_1 l0_1.length c0_1] 24 (0, 0)) (by (with_reducible repeat (first | refine blk_drewN ?_ _ | refine blk_drew ?_ | refine blk_alloc ?_ _)); exact BK146.out) k_ hk_), (Kd.freshB (g := gb147) (o := .cells #[.bool a1_0, .slice A1_1 l1_1.length c1_1] 24 (0, 0)) (by (with_reducible repeat (first | refine blk_drewN ?_ _ | refine blk_drew ?_ | refine blk_alloc ?_ _)); exact BK147.out) k_ hk_), (Kd.freshB (g := gb148) (o := .cells #[.bool false, .slice none 0 0] 24 (0, 0)) (by (with_reducible repeat (first | refine blk_drewN ?_ _ | refine blk_drew ?_ | refine blk_alloc ?_ _)); exact BK148.out) k_ hk_)⟩)) (below_size (by repeat (first | (with_reducible first | exact HB.out | apply below_alloc | apply pw_below_drewN | apply below_drew1 | refine below_set ?_ GE146.out | refine below_set ?_ GE147.out | refine below_set ?_ GE148.out) | exact HB.out)))); have n5_ := Aside0.mk (blk_below (g := gb146) (o := .cells #[.bool a0_0, .slice A0_1 l0_1.length c0_1] 24 (0, 0)) (by (with_reducible repeat (first | refine blk_drewN ?_ _ | refine blk_drew ?_ | refine blk_alloc ?_ _)); exact BK146.out) hb); have n6_ := Aside0.mk (blk_below (g := gb147) (o := .cells #[.bool a1_0, .slice A1_1 l1_1.length c1_1] 24 (0, 0)) (by (with_reducible repeat (first | refine blk_drewN ?_ _ | refine blk_drew ?_ | refine blk_alloc ?_ _)); exact BK147.out) hb); have n7_ := Aside0.mk (blk_below (g := gb148) (o := .cells #[.bool false, .slice none 0 0] 24 (0, 0)) (by (with_reducible repeat (first | refine blk_drewN ?_ _ | refine blk_drew ?_ | refine blk_alloc ?_ _)); exact BK148.out) hb); have n8_ := Aside0.mk (below_step (by repeat (first | (with_reducible first | exact HB.out | apply below_alloc | apply pw_below_drewN | apply below_drew1 | refine below_set ?_ GE146.out | refine below_set ?_ GE147.out | refine below_set ?_ GE148.out) | exact HB.out)) hb); clear HO0_1; clear HO1_1; clear HO151; clear HO154; clear BK146; clear BK147; clear BK148; clear HB; have HO0_1 := n0_; have HO1_1 := n1_; have HO151 := n2_; have HO154 := n3_; have HO157 := n4_; have BK146 := n5_; have BK147 := n6_; have BK148 := n7_; have HB := n8_; clear n0_ n1_ n2_ n3_ n4_ n5_ n6_ n7_ n8_
  (try clear hb)
  (try clear hb2)
  (try clear hk)
  (try clear hi)
  (try clear ho0)
  obtain ⟨Ao16, co16, eo16⟩ := Kd.V_slice HO157.out
  (first | subst eo16 | (injection eo16 with f1_ f2_ f3_; have f4_ := f1_.symm; have f5_ := f3_.symm; clear f1_ f2_ f3_; subst f4_; subst f5_))
  refine hK.out _ _ ⟨(blk_cell BK146.out 0).trans rfl, (blk_cell BK146.out 1).trans rfl, (blk_cell BK147.out 0).trans rfl, (blk_cell BK147.out 1).trans rfl⟩ (fun hHeld => ?_); clear hK K
  refine norm_ (a' := ?_) ?_ ?_
  rotate_left
  · show Act.put _ (some 14) _ = _
    simp only [Act.put, List.setIfInBounds_toArray, List.set_cons_zero, List.set_cons_succ, i64_w, i32_w]
    rfl
  refine one_ (i := 10) (N := some 15) #[true, true, true, true, true, true, true, true, true, true, true, false] rfl rfl (one_of HT_.out (by kernel_rfl)) (by decide) (fun K hK => ?_)
  refine goes_ Try.func102 (by kernel_rfl) rfl #[.bool (a0_0 != a1_0), .slice Ao16 t155.length co16] (by rfl) rfl rfl (by (try simp only [List.map_toArray, List.map_cons, List.map_nil]); first | done | rfl | (simp only [List.length_drop, List.length_take]; rfl)) ?_
  with_reducible refine (integer_signed.calls (a0_0 != a1_0) (fun k_ => (((P0_1_ k_ ∨ P1_1_ k_) ∨ w.heap.size ≤ k_) ∧ (k_ ≠ gb146 ∧ (k_ ≠ gb147 ∧ k_ ≠ gb148)))) _ _ t155 t158 t159 _ ?side1 A6.out).mono ?_
  (case side1 => exact HO157.out)
  rintro e w17 ⟨v160, rfl, ho0, hb⟩; refine ⟨_, rfl, ?_⟩; have n0_ := Aside0.mk (Kd.V_below (by (with_reducible repeat (first | apply Kd.V_alloc | apply Kd.V_drewN | apply Kd.V_drew)); exact HO0_1.out) hb); have n1_ := Aside0.mk (Kd.V_below (by (with_reducible repeat (first | apply Kd.V_alloc | apply Kd.V_drewN | apply Kd.V_drew)); exact HO1_1.out) hb); have n2_ := Aside0.mk (Kd.V_below (by (with_reducible repeat (first | apply Kd.V_alloc | apply Kd.V_drewN | apply Kd.V_drew)); exact HO151.out) hb); have n3_ := Aside0.mk (Kd.V_below (by (with_reducible repeat (first | apply Kd.V_alloc | apply Kd.V_drewN | apply Kd.V_drew)); exact HO154.out) hb); have n4_ := Aside0.mk (Kd.V_below (by (with_reducible repeat (first | apply Kd.V_alloc | apply Kd.V_drewN | apply Kd.V_drew)); exact HO157.out) hb); have n5_ := Aside0.mk (Kd.V_lower (Kd.V_mono (ok' := fun k_ => ((P0_1_ k_ ∨ P1_1_ k_) ∨ w.heap.size ≤ k_) ∧ k_ ≠ gb146 ∧ k_ ≠ gb147 ∧ k_ ≠ gb148) ho0 (fun k_ hk_ => ⟨Or.elim hk_ (fun hs_ => hs_.1) (fun hn_ => (.inr (Nat.le_trans (below_size (by repeat (first | (with_reducible first | exact HB.out | apply below_alloc | apply pw_below_drewN | apply below_drew1 | refine below_set ?_ GE146.out | refine below_set ?_ GE147.out | refine below_set ?_ GE148.out) | exact HB.out))) hn_))), Or.elim hk_ (fun hs_ => hs_.2.1) (fun hn_ => (Kd.freshB (g := gb146) (o := .cells #[.bool a0_0, .slice A0_1 l0_1.length c0_1] 24 (0, 0)) (by (with_reducible repeat (first | refine blk_drewN ?_ _ | refine blk_drew ?_ | refine blk_alloc ?_ _)); exact BK146.out) k_ hn_)), Or.elim hk_ (fun hs_ => hs_.2.2.1) (fun hn_ => (Kd.freshB (g := gb147) (o := .cells #[.bool a1_0, .slice A1_1 l1_1.length c1_1] 24 (0, 0)) (by (with_reducible repeat (first | refine blk_drewN ?_ _ | refine blk_drew ?_ | refine blk_alloc ?_ _)); exact BK147.out) k_ hn_)), Or.elim hk_ (fun hs_ => hs_.2.2.2) (fun hn_ => (Kd.freshB (g := gb148) (o := .cells #[.bool false, .slice none 0 0] 24 (0, 0)) (by (with_reducible repeat (first | refine blk_drewN ?_ _ | refine blk_drew ?_ | refine blk_alloc ?_ _)); exact BK148.out) k_ hn_))⟩)) (below_size (by repeat (first | (with_reducible first | exact HB.out | apply below_alloc | apply pw_below_drewN | apply below_drew1 | refine below_set ?_ GE146.out | refine below_set ?_ GE147.out | refine below_set ?_ GE148.out) | exact HB.out)))); have n6_ := Aside0.mk (blk_below (g := gb146) (o := .cells #[.bool a0_0, .slice A0_1 l0_1.length c0_1] 24 (0, 0)) (by (with_reducible repeat (first | refine blk_drewN ?_ _ | refine blk_drew ?_ | refine blk_alloc ?_ _)); exact BK146.out) hb); have n7_ := Aside0.mk (blk_below (g := gb147) (o := .cells #[.bool a1_0, .slice A1_1 l1_1.length c1_1] 24 (0, 0)) (by (with_reducible repeat (first | refine blk_drewN ?_ _ | refine blk_drew ?_ | refine blk_alloc ?_ _)); exact BK147.out) hb); have n8_ := Aside0.mk (blk_below (g := gb148) (o := .cells #[.bool false, .slice none 0 0] 24 (0, 0)) (by (with_reducible repeat (first | refine blk_drewN ?_ _ | refine blk_drew ?_ | refine blk_alloc ?_ _)); exact BK148.out) hb); have n9_ := Aside0.mk (below_step (by repeat (first | (with_reducible first | exact HB.out | apply below_alloc | apply pw_below_drewN | apply below_drew1 | refine below_set ?_ GE146.out | refine below_set ?_ GE147.out | refine below_set ?_ GE148.out) | exact HB.out)) hb); clear HO0_1; clear HO1_1; clear HO151; clear HO154; clear HO157; clear BK146; clear BK147; clear BK148; clear HB; have HO0_1 := n0_; have HO1_1 := n1_; have HO151 := n2_; have HO154 := n3_; have HO157 := n4_; have HO161 := n5_; have BK146 := n6_; have BK147 := n7_; have BK148 := n8_; have HB := n9_; clear n0_ n1_ n2_ n3_ n4_ n5_ n6_ n7_ n8_ n9_
  (try clear hb)
  (try clear hb2)
  (try clear hk)
  (try clear hi)
  (try clear ho0)
  obtain ⟨Ao19, co19, eo19⟩ := Kd.V_slice HO161.out
  (first | subst eo19 | (injection eo19 with f1_ f2_ f3_; have f4_ := f1_.symm; have f5_ := f3_.symm; clear f1_ f2_ f3_; subst f4_; subst f5_))
  refine hK.out _ _ ⟨(blk_cell BK146.out 0).trans rfl, (blk_cell BK146.out 1).trans rfl, (blk_cell BK147.out 0).trans rfl, (blk_cell BK147.out 1).trans rfl⟩ (fun hHeld => ?_); clear hK K
  refine norm_ (a' := ?_) ?_ ?_
  rotate_left
  · show Act.put _ (some 15) _ = _
    simp only [Act.put, List.setIfInBounds_toArray, List.set_cons_zero, List.set_cons_succ, i64_w, i32_w]
    rfl
  refine one_ (i := 11) (N := none) #[true, true, true, true, true, true, true, true, true, true, true, true] rfl rfl (one_of HT_.out (by kernel_rfl)) (by decide) (fun K hK => ?_); have hs18 : w17.cell? ⟨gb148, 0, none⟩ = some (.bool false) := (blk_cell BK148.out 0).trans rfl; have hfs18 := blk_frozen BK148.out 0; have hns18_0 := NB146_148.out; have hns18_1 := NB147_148.out; have hms18_0 := NB148_146.out; have hms18_1 := NB148_147.out; have hs20 : w17.cell? ⟨gb148, 1, none⟩ = some (.slice none 0 0) := (blk_cell BK148.out 1).trans rfl; have hfs20 := blk_frozen BK148.out 1; have hns20_0 := NB146_148.out; have hns20_1 := NB147_148.out; have hms20_0 := NB148_146.out; have hms20_1 := NB148_147.out
  refine skip_ (w1 := ?_) (by rfl) rfl ?_ ?_
  rotate_left
  · go_simp
    rfl
  refine hK.out _ _ ⟨((cell_far (p := ⟨gb148, _, none⟩) NB146_148.out _).trans (((cell_far (p := ⟨gb148, _, none⟩) NB146_148.out _).trans (hHeld.1)))), ((cell_far (p := ⟨gb148, _, none⟩) NB146_148.out _).trans (((cell_far (p := ⟨gb148, _, none⟩) NB146_148.out _).trans (hHeld.2.1)))), ((cell_far (p := ⟨gb148, _, none⟩) NB147_148.out _).trans (((cell_far (p := ⟨gb148, _, none⟩) NB147_148.out _).trans (hHeld.2.2.1)))), ((cell_far (p := ⟨gb148, _, none⟩) NB147_148.out _).trans (((cell_far (p := ⟨gb148, _, none⟩) NB147_148.out _).trans (hHeld.2.2.2))))⟩ (fun hHeld => ?_); clear hK K
  refine done_ (done_of HT_.out (by kernel_rfl)) ?_
  try go_wp2
  refine bodyPost_ret (results_cell_row rfl _ _ gb148 24 #[.bool t158, .slice Ao19 t159.length co19] (0, 0) _ rfl (by (with_reducible repeat (first | refine blk_drewN ?_ _ | refine blk_drew ?_ | refine blk_alloc ?_ _)); refine blk_put (cs := #[.bool t158, .slice none 0 0]) ?_ 1 _ rfl; (with_reducible repeat (first | refine blk_drewN ?_ _ | refine blk_drew ?_ | refine blk_alloc ?_ _)); refine blk_put (cs := #[.bool false, .slice none 0 0]) ?_ 0 _ rfl; (with_reducible repeat (first | refine blk_drewN ?_ _ | refine blk_drew ?_ | refine blk_alloc ?_ _)); exact BK148.out) Try.underlying24 rfl (by kernel_rfl)) rfl ?_
  exact ⟨_, by first | rfl | (simp [errW_none, errW_some] <;> rfl) | (simp [*, errW_none, errW_some] <;> rfl), by (with_reducible repeat (first | apply Kd.V_alloc | apply Kd.V_drewN | apply Kd.V_drew)); exact Kd.V_mono (Kd.V_far (p := ⟨gb148, 1, none⟩) (Kd.V_far (p := ⟨gb148, 0, none⟩) (Kd.V_mono HO161.out (fun k_ hk => (⟨hk, hk.2.2.2⟩ : _ ∧ k_ ≠ gb148))) (fun _ hk => hk.2) (.bool t158)) (fun _ hk => hk.2) (.slice Ao19 t159.length co19)) (fun _ hk => hk.1.1), by repeat (first | (with_reducible first | exact HB.out | apply below_alloc | apply pw_below_drewN | apply below_drew1 | refine below_set ?_ GE146.out | refine below_set ?_ GE147.out | refine below_set ?_ GE148.out) | exact HB.out)⟩
end Go.Proofs.Ytpkgckccfanchaa.M

namespace Go.Proofs.Ytpkgckccfanchaa.M
open Go.RowKit Go.Proofs.YtpkgckccfanchaaW.PrintWords Go.Proofs.YtpkgckccfanchaaW.PrintLast Go.Proofs.YtpkgckccfanchaaW.PrintMore
attribute [local go_sem] max2_int min2_int max_two min_two max_three min_three max_four min_four
set_option linter.unusedVariables false
set_option linter.unusedSimpArgs false
def stabchain_product.l0 : Nat → List Int → Int → Int → Bool → List Int → Option (Bool × List Int)
  | 0, _, _, _, _, _ => none
  | k + 1, x7, x8, x9, x168000, x168001 => if x9 < x8 then (if 0 ≤ x9 then (if x9 < (x7.length : Int) then ((integer_Small.f (rd x7 x9)).bind fun bt169 => ((integer_Mul.f k x168000 x168001 bt169.1 bt169.2).bind fun bt173 => (stabchain_product.l0 k x7 x8 (wrap64 (x9 + 1)) bt173.1 bt173.2))) else (none)) else (none)) else (some (x168000, x168001))
def stabchain_product.f (k : Nat) (l0 : List Int) : Option (Bool × List Int) := (integer_Small.f 1).bind fun bt163 => (stabchain_product.l0 k l0 (l0.length : Int) 0 bt163.1 bt163.2)
theorem stabchain_product.mono_l : ∀ k, (∀ y0 y1 y2 y3 y4, LeO (stabchain_product.l0 k y0 y1 y2 y3 y4) (stabchain_product.l0 (k + 1) y0 y1 y2 y3 y4))
  | 0 => fun _ _ _ _ _ r h => by simp [stabchain_product.l0] at h
  | k + 1 => by
    have ih0 := stabchain_product.mono_l k
    · intro y0 y1 y2 y3 y4
      unfold stabchain_product.l0
      repeat' first
      | (with_reducible exact ih0 _ _ _ _ _)
      | (with_reducible exact integer_Mul.mono _ _ _ _ _)
      | (with_reducible exact LeO.refl _)
      | (with_reducible exact LeO.none _)
      | (with_reducible refine LeO.ite ?_ ?_)
      | (with_reducible refine LeO.bind ?_ (fun _ => ?_))
      | exact ih0 _ _ _ _ _
      | exact integer_Mul.mono _ _ _ _ _
      | exact LeO.none _
      | refine LeO.ite ?_ ?_
      | refine LeO.bind ?_ (fun _ => ?_)
theorem stabchain_product.mono : ∀ a0 k, LeO (stabchain_product.f k a0) (stabchain_product.f (k + 1) a0) := by
  intro a0 k; have ih0 := stabchain_product.mono_l k
  unfold stabchain_product.f
  repeat' first
      | (with_reducible exact ih0 _ _ _ _ _)
      | (with_reducible exact integer_Mul.mono _ _ _ _ _)
      | (with_reducible exact LeO.refl _)
      | (with_reducible exact LeO.none _)
      | (with_reducible refine LeO.ite ?_ ?_)
      | (with_reducible refine LeO.bind ?_ (fun _ => ?_))
      | exact ih0 _ _ _ _ _
      | exact integer_Mul.mono _ _ _ _ _
      | exact LeO.none _
      | refine LeO.ite ?_ ?_
      | refine LeO.bind ?_ (fun _ => ?_)
set_option maxHeartbeats 8000000 in
set_option maxRecDepth 100000 in
theorem stabchain_product.calls (k : Nat) (A0 : Option Addr) (c0 : Nat) (l0 : List Int) (r1 : Bool) (r2 : List Int) (w : World) (hr0 : Kd.C (Kd.int .i64) w A0 l0.length l0) (hc0 : l0.length ≤ c0) (h : stabchain_product.f k l0 = some (r1, r2)) :
    Calls Try.prog 68 #[.slice A0 l0.length c0] w fun e w' => ∃ v1_ : Value, e = .returned (.agg #[.bool r1, v1_]) ∧ Kd.V (Kd.int .u32) 98 w' w.heap.size (fun k_ => (w.heap.size ≤ k_)) v1_ r2 ∧ Below w.heap.size w w' := by
  have hu24 := Try.underlying24; have HR0 := Aside0.mk hr0; have HC0 := Aside0.mk hc0; clear hr0 hc0; have HB := Aside0.mk (Below.refl w.heap.size w); have H : ((integer_Small.f 1).bind fun bt163 => (stabchain_product.l0 k l0 (l0.length : Int) 0 bt163.1 bt163.2)) = some (r1, r2) := h; clear h; replace H := Option.bind_eq_some_iff.mp H; obtain ⟨⟨t163, t164⟩, A20, H⟩ := H; replace H : (stabchain_product.l0 k l0 (l0.length : Int) 0 t163 t164) = some (r1, r2) := H; have A2 := Aside0.mk A20; clear A20; have H' := Aside0.mk H; clear H
  go_enter Try.func68, Try.ntmps68
  go_wp2_with (first | ((with_reducible refine gate_dst (N := 2) rfl ?_); refine box_event ?hg (N := 2) ?hd (cs := #[.bool false, .slice none 0 0]) (t := 24) ?hr ?_; (case hd => rfl); (case hg => rfl); (case hr => first | (go_simp; done) | (go_simp; rfl)); intro gb162 hg w3 hbox hb; have n0_ := Aside0.mk (below_step (by repeat (first | (with_reducible first | exact HB.out | apply below_alloc | apply pw_below_drewN | apply below_drew1) | exact HB.out)) hb); have n1_ := Aside0.mk (hbox); have n2_ := Aside0.mk ((by rw [hg]; exact (below_size (by repeat (first | (with_reducible first | exact HB.out | apply below_alloc | apply pw_below_drewN | apply below_drew1) | exact HB.out))) : w.heap.size ≤ gb162)); have n3_ := Aside0.mk ((by rw [hg]; exact (below_size (by repeat (first | (with_reducible first | exact HB.out | apply below_alloc | apply pw_below_drewN | apply below_drew1) | exact HB.out))) : w.heap.size ≤ gb162)); clear HB; have HB := n0_; have BK162 := n1_; have GW162 := n2_; have GE162 := n3_; clear n0_ n1_ n2_ n3_; clear hb hbox hg) | ((with_reducible refine gate_callee (f := 71) rfl ?_); refine goesL_ (some 6) rfl rfl Try.func71 (by kernel_rfl) rfl #[.int .i64 1] rfl (by (try simp only [List.map_toArray, List.map_cons, List.map_nil]); first | done | rfl | (simp only [List.length_drop, List.length_take]; rfl)) ?_; (with_reducible refine (integer_Small.calls 1 t163 t164 _ A2.out).mono ?_); rintro e w4 ⟨v165, rfl, ho0, hb⟩; refine ⟨_, rfl, ?_⟩; have n0_ := Aside0.mk (Kd.V_lower (Kd.V_mono (ok' := fun k_ => (w.heap.size ≤ k_) ∧ k_ ≠ gb162) ho0 (fun k_ hk_ => ⟨(Nat.le_trans (below_size (by repeat (first | (with_reducible first | exact HB.out | apply below_alloc | apply pw_below_drewN | apply below_drew1 | refine below_set ?_ GE162.out) | exact HB.out))) hk_), (Kd.freshB (g := gb162) (o := .cells #[.bool false, .slice none 0 0] 24 (0, 0)) (by (with_reducible repeat (first | refine blk_drewN ?_ _ | refine blk_drew ?_ | refine blk_alloc ?_ _)); exact BK162.out) k_ hk_)⟩)) (below_size (by repeat (first | (with_reducible first | exact HB.out | apply below_alloc | apply pw_below_drewN | apply below_drew1 | refine below_set ?_ GE162.out) | exact HB.out)))); have n1_ := Aside0.mk (blk_below (g := gb162) (o := .cells #[.bool false, .slice none 0 0] 24 (0, 0)) (by (with_reducible repeat (first | refine blk_drewN ?_ _ | refine blk_drew ?_ | refine blk_alloc ?_ _)); exact BK162.out) hb); have n2_ := Aside0.mk (below_step (by repeat (first | (with_reducible first | exact HB.out | apply below_alloc | apply pw_below_drewN | apply below_drew1 | refine below_set ?_ GE162.out) | exact HB.out)) hb); clear BK162; clear HB; have HO166 := n0_; have BK162 := n1_; have HB := n2_; clear n0_ n1_ n2_; (try clear hb); (try clear hb2); (try clear hk); (try clear hi); (try clear ho0)) | ((with_reducible refine gate_dst (N := 3) rfl ?_); refine box_event ?hg (N := 3) ?hd (cs := #[.bool false, .slice none 0 0]) (t := 24) ?hr ?_; (case hd => rfl); (case hg => rfl); (case hr => first | (go_simp; done) | (go_simp; rfl)); intro gb167 hg w5 hbox hb; have n0_ := Aside0.mk (Kd.V_below (Kd.V_elderB (by (with_reducible repeat (first | apply Kd.V_alloc | apply Kd.V_drewN | apply Kd.V_drew)); exact HO166.out) gb167 (Nat.le_of_eq hg.symm)) hb); have n1_ := Aside0.mk (blk_below (g := gb162) (o := .cells #[.bool false, .slice none 0 0] 24 (0, 0)) (by (with_reducible repeat (first | refine blk_drewN ?_ _ | refine blk_drew ?_ | refine blk_alloc ?_ _)); exact BK162.out) hb); have n2_ := Aside0.mk (below_step (by repeat (first | (with_reducible first | exact HB.out | apply below_alloc | apply pw_below_drewN | apply below_drew1 | refine below_set ?_ GE162.out) | exact HB.out)) hb); have n3_ := Aside0.mk (hbox); have n4_ := Aside0.mk ((by rw [hg]; exact (below_size (by repeat (first | (with_reducible first | exact HB.out | apply below_alloc | apply pw_below_drewN | apply below_drew1 | refine below_set ?_ GE162.out) | exact HB.out))) : w.heap.size ≤ gb167)); have n5_ := Aside0.mk ((by rw [hg]; exact (below_size (by repeat (first | (with_reducible first | exact HB.out | apply below_alloc | apply pw_below_drewN | apply below_drew1 | refine below_set ?_ GE162.out) | exact HB.out))) : w.heap.size ≤ gb167)); have n6_ := Aside0.mk ((by rw [hg]; exact Nat.ne_of_lt (blk_lt (g := gb162) (o := .cells #[.bool false, .slice none 0 0] 24 (0, 0)) (by (with_reducible repeat (first | refine blk_drewN ?_ _ | refine blk_drew ?_ | refine blk_alloc ?_ _)); exact BK162.out)) : gb162 ≠ gb167)); have n7_ := Aside0.mk ((by rw [hg]; exact Nat.ne_of_gt (blk_lt (g := gb162) (o := .cells #[.bool false, .slice none 0 0] 24 (0, 0)) (by (with_reducible repeat (first | refine blk_drewN ?_ _ | refine blk_drew ?_ | refine blk_alloc ?_ _)); exact BK162.out)) : gb167 ≠ gb162)); clear HO166; clear BK162; clear HB; have HO166 := n0_; have BK162 := n1_; have HB := n2_; have BK167 := n3_; have GW167 := n4_; have GE167 := n5_; have NB162_167 := n6_; have NB167_162 := n7_; clear n0_ n1_ n2_ n3_ n4_ n5_ n6_ n7_; clear hb hbox hg; have hnb6 := NB167_162.out; have hnc6 := NB162_167.out; have hcz7_0 : w5.cell? ⟨gb167, 0, none⟩ = some (.bool false) := (blk_cell BK167.out 0).trans rfl; have hcz7_1 : w5.cell? ⟨gb167, 1, none⟩ = some (.slice none 0 0) := (blk_cell BK167.out 1).trans rfl; have hfz7_0 := blk_frozen BK167.out 0; have hfz7_1 := blk_frozen BK167.out 1; obtain ⟨Ao8, co8, eo8⟩ := Kd.V_slice HO166.out; subst eo8))
  go_loopg [9] k (fun kq v9 w' => ∃ (x9_1 : Int) (x168000_1 : Bool) (x168001_1 : List Int) (u168001 : Value), v9 = .int .i64 x9_1 ∧ Aside0 (stabchain_product.l0 kq l0 (l0.length : Int) x9_1 x168000_1 x168001_1 = some (r1, r2)) ∧ Aside0 (kq ≤ k) ∧ Aside0 (Kd.V (Kd.int .u32) 98 w' w.heap.size (fun k_ => (w.heap.size ≤ k_) ∧ k_ ≠ gb162 ∧ k_ ≠ gb167) u168001 x168001_1) ∧ Aside0 (w'.heap[gb162]? = some (.cells #[.bool false, (.slice none 0 0)] 24 (0, 0))) ∧ Aside0 (w'.heap[gb167]? = some (.cells #[.bool x168000_1, u168001] 24 (0, 0))) ∧ Aside0 (Below w.heap.size w w'))
  case atStart => exact ⟨(0), (t163), (t164), (.slice Ao8 t164.length co8), (by first | rfl | (simp; done) | (simp [*]; done)), H', ⟨Nat.le_refl _⟩, ⟨by (with_reducible repeat (first | apply Kd.V_alloc | apply Kd.V_drewN | apply Kd.V_drew)); exact Kd.V_mono (Kd.V_far (p := ⟨gb167, 1, none⟩) (Kd.V_far (p := ⟨gb167, 0, none⟩) (Kd.V_mono HO166.out (fun k_ hk => (⟨hk, hk.2⟩ : _ ∧ k_ ≠ gb167))) (fun _ hk => hk.2) (.bool t163)) (fun _ hk => hk.2) (.slice Ao8 t164.length co8)) (fun _ hk => ⟨hk.1.1.1, ⟨hk.1.1.2, hk.1.2⟩⟩)⟩, ⟨by (with_reducible repeat (first | refine blk_drewN ?_ _ | refine blk_drew ?_ | refine blk_alloc ?_ _)); refine blk_far ?_ NB162_167.out _; (with_reducible repeat (first | refine blk_drewN ?_ _ | refine blk_drew ?_ | refine blk_alloc ?_ _)); refine blk_far ?_ NB162_167.out _; (with_reducible repeat (first | refine blk_drewN ?_ _ | refine blk_drew ?_ | refine blk_alloc ?_ _)); exact BK162.out⟩, ⟨by (with_reducible repeat (first | refine blk_drewN ?_ _ | refine blk_drew ?_ | refine blk_alloc ?_ _)); refine blk_put (cs := #[.bool t163, .slice none 0 0]) ?_ 1 _ rfl; (with_reducible repeat (first | refine blk_drewN ?_ _ | refine blk_drew ?_ | refine blk_alloc ?_ _)); refine blk_put (cs := #[.bool false, .slice none 0 0]) ?_ 0 _ rfl; (with_reducible repeat (first | refine blk_drewN ?_ _ | refine blk_drew ?_ | refine blk_alloc ?_ _)); exact BK167.out⟩, ⟨by repeat (first | (with_reducible first | exact HB.out | apply below_alloc | apply pw_below_drewN | apply below_drew1 | refine below_set ?_ GE162.out | refine below_set ?_ GE167.out) | exact HB.out)⟩⟩
  case round =>
    clear H'
    try clear p2
    try clear c6
    try clear c7
    try clear hcz7_0
    try clear hcz7_1
    try clear hfz7_0
    try clear hfz7_1
    obtain ⟨x9_1, x168000_1, x168001_1, u168001, rfl, HA, HK1, HO_168001, BK162, BK167, HB⟩ := hrel; cases gk with
    | zero => exact absurd HA.out (by simp [stabchain_product.l0])
    | succ k1 =>
      have H := HA.out; clear HA
      simp only [stabchain_product.l0] at H
      by_cases c9 : x9_1 < (l0.length : Int)
      · rw [if_pos c9] at H
        have c9b0 : decide (x9_1 < (l0.length : Int)) = true := decide_eq_true c9; clear c9
        by_cases c10 : 0 ≤ x9_1
        · rw [if_pos c10] at H
          have c10b0 : decide (0 ≤ x9_1) = true := decide_eq_true c10; clear c10
          by_cases c11 : x9_1 < (l0.length : Int)
          · rw [if_pos c11] at H
            have c11b0 : decide (x9_1 < (l0.length : Int)) = true := decide_eq_true c11; clear c11; replace H := Option.bind_eq_some_iff.mp H; obtain ⟨⟨t169, t170⟩, A120, H⟩ := H; replace H : ((integer_Mul.f k1 x168000_1 x168001_1 t169 t170).bind fun bt173 => (stabchain_product.l0 k1 l0 (l0.length : Int) (wrap64 (x9_1 + 1)) bt173.1 bt173.2)) = some (r1, r2) := H; have A12 := Aside0.mk A120; clear A120; replace H := Option.bind_eq_some_iff.mp H; obtain ⟨⟨t173, t174⟩, A130, H⟩ := H; replace H : (stabchain_product.l0 k1 l0 (l0.length : Int) (wrap64 (x9_1 + 1)) t173 t174) = some (r1, r2) := H; have A13 := Aside0.mk A130; clear A130; have H' := Aside0.mk H; clear H; have p168 : 0 ≤ (x9_1 : Int) := of_decide_eq_true (by first | (with_reducible assumption) | assumption); have q168 : x9_1 < (l0.length : Int) := of_decide_eq_true (by first | (with_reducible assumption) | assumption); obtain ⟨ad168, e168, hx168_0⟩ := Kd.at_int HR0.out x9_1 p168 q168; cases e168; replace hx168_0 := (HB.out.cell (World.block_lt_of_cell? w _ hx168_0)).trans hx168_0; replace p168 := eq_true p168; replace q168 := eq_true q168
            try go_wp2
            have n0_ := Aside0.mk (Kd.V_drew HO_168001.out); have n1_ := Aside0.mk (blk_drew BK162.out); have n2_ := Aside0.mk (blk_drew BK167.out); have n3_ := Aside0.mk (below_drew1 HB.out); clear HO_168001; clear BK162; clear BK167; clear HB; have HO_168001 := n0_; have BK162 := n1_; have BK167 := n2_; have HB := n3_; clear n0_ n1_ n2_ n3_; refine start_ (n := 5) (S := fun w' => w'.cell? ⟨gb167, 0, none⟩ = some (.bool x168000_1) ∧ w'.cell? ⟨gb167, 1, none⟩ = some (u168001)) (ds := [4]) #[false, false, false, false, false] (by kernel_rfl) rfl rfl ⟨(blk_cell BK167.out 0).trans rfl, (blk_cell BK167.out 1).trans rfl⟩ (fun hHeld => ?_)
            generalize wr.drew = w14 at HO_168001 BK162 BK167 HB hHeld ⊢
            refine pure_ (i := 1) (N := some 14) (v := ?_) (a' := ?_) #[false, true, false, false, false] rfl rfl (by kernel_rfl) (fun _ _ _ h => h) (Or.inl ⟨by rfl, ?_⟩) ?_ ?_
            rotate_left
            · intro w'
              go_simp
              with_reducible rfl
            rotate_left
            · simp only [Act.put, List.setIfInBounds_toArray, List.set_cons_zero, List.set_cons_succ, i64_w, i32_w]
              rfl
            refine take_ (i := 0) (N := some 13) (v := ?_) (a' := ?_) #[true, true, false, false, false] rfl rfl (by kernel_rfl) (fun _ _ _ h => h) (Or.inl ⟨by rfl, ?_⟩) hHeld ?_ ?_
            rotate_left
            · rintro w' ⟨s0, s1⟩
              go_simp
              with_reducible rfl
            rotate_left
            · simp only [Act.put, List.setIfInBounds_toArray, List.set_cons_zero, List.set_cons_succ, i64_w, i32_w]
              rfl
            refine one_ (i := 2) (N := some 15) #[true, true, true, false, false] rfl rfl (by kernel_rfl) (by decide) (fun K hK => ?_)
            refine goes_ Try.func71 (by kernel_rfl) rfl #[.int .i64 (rd l0 x9_1)] (by rfl) rfl rfl (by (try simp only [List.map_toArray, List.map_cons, List.map_nil]); first | done | rfl | (simp only [List.length_drop, List.length_take]; rfl)) ?_
            with_reducible refine (integer_Small.calls (rd l0 x9_1) t169 t170 _ A12.out).mono ?_
            rintro e w15 ⟨v171, rfl, ho0, hb⟩; refine ⟨_, rfl, ?_⟩; have n0_ := Aside0.mk (Kd.V_below (by (with_reducible repeat (first | apply Kd.V_alloc | apply Kd.V_drewN | apply Kd.V_drew)); exact HO_168001.out) hb); have n1_ := Aside0.mk (Kd.V_lower (Kd.V_mono (ok' := fun k_ => (w.heap.size ≤ k_) ∧ k_ ≠ gb162 ∧ k_ ≠ gb167) ho0 (fun k_ hk_ => ⟨(Nat.le_trans (below_size (by repeat (first | (with_reducible first | exact HB.out | apply below_alloc | apply pw_below_drewN | apply below_drew1 | refine below_set ?_ GE162.out | refine below_set ?_ GE167.out) | exact HB.out))) hk_), (Kd.freshB (g := gb162) (o := .cells #[.bool false, .slice none 0 0] 24 (0, 0)) (by (with_reducible repeat (first | refine blk_drewN ?_ _ | refine blk_drew ?_ | refine blk_alloc ?_ _)); exact BK162.out) k_ hk_), (Kd.freshB (g := gb167) (o := .cells #[.bool x168000_1, u168001] 24 (0, 0)) (by (with_reducible repeat (first | refine blk_drewN ?_ _ | refine blk_drew ?_ | refine blk_alloc ?_ _)); exact BK167.out) k_ hk_)⟩)) (below_size (by repeat (first | (with_reducible first | exact HB.out | apply below_alloc | apply pw_below_drewN | apply below_drew1 | refine below_set ?_ GE162.out | refine below_set ?_ GE167.out) | exact HB.out)))); have n2_ := Aside0.mk (blk_below (g := gb162) (o := .cells #[.bool false, .slice none 0 0] 24 (0, 0)) (by (with_reducible repeat (first | refine blk_drewN ?_ _ | refine blk_drew ?_ | refine blk_alloc ?_ _)); exact BK162.out) hb); have n3_ := Aside0.mk (blk_below (g := gb167) (o := .cells #[.bool x168000_1, u168001] 24 (0, 0)) (by (with_reducible repeat (first | refine blk_drewN ?_ _ | refine blk_drew ?_ | refine blk_alloc ?_ _)); exact BK167.out) hb); have n4_ := Aside0.mk (below_step (by repeat (first | (with_reducible first | exact HB.out | apply below_alloc | apply pw_below_drewN | apply below_drew1 | refine below_set ?_ GE162.out | refine below_set ?_ GE167.out) | exact HB.out)) hb); clear HO_168001; clear BK162; clear BK167; clear HB; have HO_168001 := n0_; have HO172 := n1_; have BK162 := n2_; have BK167 := n3_; have HB := n4_; clear n0_ n1_ n2_ n3_ n4_
            (try clear hb)
            (try clear hb2)
            (try clear hk)
            (try clear hi)
            (try clear ho0)
            obtain ⟨Ao16, co16, eo16⟩ := Kd.V_slice HO_168001.out
            (first | subst eo16 | (injection eo16 with f1_ f2_ f3_; have f4_ := f1_.symm; have f5_ := f3_.symm; clear f1_ f2_ f3_; subst f4_; subst f5_))
            obtain ⟨Ao17, co17, eo17⟩ := Kd.V_slice HO172.out
            (first | subst eo17 | (injection eo17 with f1_ f2_ f3_; have f4_ := f1_.symm; have f5_ := f3_.symm; clear f1_ f2_ f3_; subst f4_; subst f5_))
            refine hK.out _ _ ⟨(blk_cell BK167.out 0).trans rfl, (blk_cell BK167.out 1).trans rfl⟩ (fun hHeld => ?_); clear hK K
            refine norm_ (a' := ?_) ?_ ?_
            rotate_left
            · show Act.put _ (some 15) _ = _
              simp only [Act.put, List.setIfInBounds_toArray, List.set_cons_zero, List.set_cons_succ, i64_w, i32_w]
              rfl
            refine one_ (i := 3) (N := some 16) #[true, true, true, true, false] rfl rfl (by kernel_rfl) (by decide) (fun K hK => ?_)
            refine goes_ Try.func96 (by kernel_rfl) rfl #[.agg #[.bool x168000_1, .slice Ao16 x168001_1.length co16], .agg #[.bool t169, .slice Ao17 t170.length co17]] (by rfl) rfl rfl (by (try simp only [List.map_toArray, List.map_cons, List.map_nil]); first | done | rfl | (simp only [List.length_drop, List.length_take]; rfl)) ?_
            with_reducible refine (integer_Mul.calls k1 x168000_1 (fun k_ => ((w.heap.size ≤ k_) ∧ (k_ ≠ gb162 ∧ k_ ≠ gb167))) _ _ x168001_1 t169 (fun k_ => ((w.heap.size ≤ k_) ∧ (k_ ≠ gb162 ∧ k_ ≠ gb167))) _ _ t170 t173 t174 _ ?side1 ?side2 A13.out).mono ?_
            (case side1 => exact HO_168001.out)
            (case side2 => exact HO172.out)
            rintro e w18 ⟨v175, rfl, ho0, hb⟩; refine ⟨_, rfl, ?_⟩; have n0_ := Aside0.mk (Kd.V_below (by (with_reducible repeat (first | apply Kd.V_alloc | apply Kd.V_drewN | apply Kd.V_drew)); exact HO_168001.out) hb); have n1_ := Aside0.mk (Kd.V_below (by (with_reducible repeat (first | apply Kd.V_alloc | apply Kd.V_drewN | apply Kd.V_drew)); exact HO172.out) hb); have n2_ := Aside0.mk (Kd.V_lower (Kd.V_mono (ok' := fun k_ => (w.heap.size ≤ k_) ∧ k_ ≠ gb162 ∧ k_ ≠ gb167) ho0 (fun k_ hk_ => ⟨Or.elim hk_ (fun hs_ => Or.elim hs_ (fun hs_ => hs_.1) (fun hs_ => hs_.1)) (fun hn_ => (Nat.le_trans (below_size (by repeat (first | (with_reducible first | exact HB.out | apply below_alloc | apply pw_below_drewN | apply below_drew1 | refine below_set ?_ GE162.out | refine below_set ?_ GE167.out) | exact HB.out))) hn_)), Or.elim hk_ (fun hs_ => Or.elim hs_ (fun hs_ => hs_.2.1) (fun hs_ => hs_.2.1)) (fun hn_ => (Kd.freshB (g := gb162) (o := .cells #[.bool false, .slice none 0 0] 24 (0, 0)) (by (with_reducible repeat (first | refine blk_drewN ?_ _ | refine blk_drew ?_ | refine blk_alloc ?_ _)); exact BK162.out) k_ hn_)), Or.elim hk_ (fun hs_ => Or.elim hs_ (fun hs_ => hs_.2.2) (fun hs_ => hs_.2.2)) (fun hn_ => (Kd.freshB (g := gb167) (o := .cells #[.bool x168000_1, .slice Ao16 x168001_1.length co16] 24 (0, 0)) (by (with_reducible repeat (first | refine blk_drewN ?_ _ | refine blk_drew ?_ | refine blk_alloc ?_ _)); exact BK167.out) k_ hn_))⟩)) (below_size (by repeat (first | (with_reducible first | exact HB.out | apply below_alloc | apply pw_below_drewN | apply below_drew1 | refine below_set ?_ GE162.out | refine below_set ?_ GE167.out) | exact HB.out)))); have n3_ := Aside0.mk (blk_below (g := gb162) (o := .cells #[.bool false, .slice none 0 0] 24 (0, 0)) (by (with_reducible repeat (first | refine blk_drewN ?_ _ | refine blk_drew ?_ | refine blk_alloc ?_ _)); exact BK162.out) hb); have n4_ := Aside0.mk (blk_below (g := gb167) (o := .cells #[.bool x168000_1, .slice Ao16 x168001_1.length co16] 24 (0, 0)) (by (with_reducible repeat (first | refine blk_drewN ?_ _ | refine blk_drew ?_ | refine blk_alloc ?_ _)); exact BK167.out) hb); have n5_ := Aside0.mk (below_step (by repeat (first | (with_reducible first | exact HB.out | apply below_alloc | apply pw_below_drewN | apply below_drew1 | refine below_set ?_ GE162.out | refine below_set ?_ GE167.out) | exact HB.out)) hb); clear HO_168001; clear HO172; clear BK162; clear BK167; clear HB; have HO_168001 := n0_; have HO172 := n1_; have HO176 := n2_; have BK162 := n3_; have BK167 := n4_; have HB := n5_; clear n0_ n1_ n2_ n3_ n4_ n5_
            (try clear hb)
            (try clear hb2)
            (try clear hk)
            (try clear hi)
            (try clear ho0)
            obtain ⟨Ao20, co20, eo20⟩ := Kd.V_slice HO176.out
            (first | subst eo20 | (injection eo20 with f1_ f2_ f3_; have f4_ := f1_.symm; have f5_ := f3_.symm; clear f1_ f2_ f3_; subst f4_; subst f5_))
            refine hK.out _ _ ⟨(blk_cell BK167.out 0).trans rfl, (blk_cell BK167.out 1).trans rfl⟩ (fun hHeld => ?_); clear hK K
            refine norm_ (a' := ?_) ?_ ?_
            rotate_left
            · show Act.put _ (some 16) _ = _
              simp only [Act.put, List.setIfInBounds_toArray, List.set_cons_zero, List.set_cons_succ, i64_w, i32_w]
              rfl
            refine last_ (i := 4) (N := none) #[true, true, true, true, true] rfl rfl (by kernel_rfl) (by decide) (fun K hK => ?_); have hs19 : w18.cell? ⟨gb167, 0, none⟩ = some (.bool x168000_1) := (blk_cell BK167.out 0).trans rfl; have hfs19 := blk_frozen BK167.out 0; have hns19_0 := NB162_167.out; have hms19_0 := NB167_162.out; have hs21 : w18.cell? ⟨gb167, 1, none⟩ = some (.slice Ao16 x168001_1.length co16) := (blk_cell BK167.out 1).trans rfl; have hfs21 := blk_frozen BK167.out 1; have hns21_0 := NB162_167.out; have hms21_0 := NB167_162.out
            refine skip_ (w1 := ?_) (by rfl) rfl ?_ ?_
            rotate_left
            · go_simp
              rfl
            refine hK.out _ _ ?_
            clear hK K
            refine done_ (by kernel_rfl) ?_
            try go_wp2
            go_roundg k1
            case measure => have := HK1.out; omega
            case rel => exact ⟨(wrap64 (x9_1 + 1)), (t173), (t174), (.slice Ao20 t174.length co20), (by first | rfl | (simp; done) | (simp [*]; done)), H', ⟨by have := HK1.out; omega⟩, ⟨by (with_reducible repeat (first | apply Kd.V_alloc | apply Kd.V_drewN | apply Kd.V_drew)); exact Kd.V_mono (Kd.V_far (p := ⟨gb167, 1, none⟩) (Kd.V_far (p := ⟨gb167, 0, none⟩) (Kd.V_mono HO176.out (fun k_ hk => (⟨hk, hk.2.2⟩ : _ ∧ k_ ≠ gb167))) (fun _ hk => hk.2) (.bool t173)) (fun _ hk => hk.2) (.slice Ao20 t174.length co20)) (fun _ hk => ⟨hk.1.1, ⟨hk.1.2.1, hk.1.2.2⟩⟩)⟩, ⟨by (with_reducible repeat (first | refine blk_drewN ?_ _ | refine blk_drew ?_ | refine blk_alloc ?_ _)); refine blk_far ?_ NB162_167.out _; (with_reducible repeat (first | refine blk_drewN ?_ _ | refine blk_drew ?_ | refine blk_alloc ?_ _)); refine blk_far ?_ NB162_167.out _; (with_reducible repeat (first | refine blk_drewN ?_ _ | refine blk_drew ?_ | refine blk_alloc ?_ _)); exact BK162.out⟩, ⟨by (with_reducible repeat (first | refine blk_drewN ?_ _ | refine blk_drew ?_ | refine blk_alloc ?_ _)); refine blk_put (cs := #[.bool t173, .slice Ao16 x168001_1.length co16]) ?_ 1 _ rfl; (with_reducible repeat (first | refine blk_drewN ?_ _ | refine blk_drew ?_ | refine blk_alloc ?_ _)); refine blk_put (cs := #[.bool x168000_1, .slice Ao16 x168001_1.length co16]) ?_ 0 _ rfl; (with_reducible repeat (first | refine blk_drewN ?_ _ | refine blk_drew ?_ | refine blk_alloc ?_ _)); exact BK167.out⟩, ⟨by repeat (first | (with_reducible first | exact HB.out | apply below_alloc | apply pw_below_drewN | apply below_drew1 | refine below_set ?_ GE162.out | refine below_set ?_ GE167.out) | exact HB.out)⟩⟩
          · rw [if_neg c11] at H
            exact absurd H (by simp)
        · rw [if_neg c10] at H
          exact absurd H (by simp)
      · rw [if_neg c9] at H
        have c9b0 : decide (x9_1 < (l0.length : Int)) = false := decide_eq_false c9; clear c9
        simp only [Option.some.injEq, Prod.mk.injEq] at H
        obtain ⟨rfl, rfl⟩ := H; have hnb22 := NB167_162.out; have hnc22 := NB162_167.out; have hcz23_0 : wr.cell? ⟨gb167, 0, none⟩ = some (.bool x168000_1) := (blk_cell BK167.out 0).trans rfl; have hcz23_1 : wr.cell? ⟨gb167, 1, none⟩ = some (u168001) := (blk_cell BK167.out 1).trans rfl; have hfz23_0 := blk_frozen BK167.out 0; have hfz23_1 := blk_frozen BK167.out 1; have hcz24_0 : wr.cell? ⟨gb162, 0, none⟩ = some (.bool false) := (blk_cell BK162.out 0).trans rfl; have hcz24_1 : wr.cell? ⟨gb162, 1, none⟩ = some (.slice none 0 0) := (blk_cell BK162.out 1).trans rfl; have hfz24_0 := blk_frozen BK162.out 0; have hfz24_1 := blk_frozen BK162.out 1; obtain ⟨Ao25, co25, eo25⟩ := Kd.V_slice HO_168001.out; subst eo25
        go_wp2
        refine bodyPost_ret (results_cell_row rfl _ _ gb162 24 #[.bool x168000_1, .slice Ao25 x168001_1.length co25] (0, 0) _ rfl (by (with_reducible repeat (first | refine blk_drewN ?_ _ | refine blk_drew ?_ | refine blk_alloc ?_ _)); refine blk_put (cs := #[.bool x168000_1, .slice none 0 0]) ?_ 1 _ rfl; (with_reducible repeat (first | refine blk_drewN ?_ _ | refine blk_drew ?_ | refine blk_alloc ?_ _)); refine blk_put (cs := #[.bool false, .slice none 0 0]) ?_ 0 _ rfl; (with_reducible repeat (first | refine blk_drewN ?_ _ | refine blk_drew ?_ | refine blk_alloc ?_ _)); exact BK162.out) Try.underlying24 rfl (by kernel_rfl)) rfl ?_
        exact ⟨_, by first | rfl | (simp [errW_none, errW_some] <;> rfl) | (simp [*, errW_none, errW_some] <;> rfl), by (with_reducible repeat (first | apply Kd.V_alloc | apply Kd.V_drewN | apply Kd.V_drew)); exact Kd.V_mono (Kd.V_far (p := ⟨gb162, 1, none⟩) (Kd.V_far (p := ⟨gb162, 0, none⟩) (Kd.V_mono HO_168001.out (fun k_ hk => (⟨hk, hk.2.1⟩ : _ ∧ k_ ≠ gb162))) (fun _ hk => hk.2) (.bool x168000_1)) (fun _ hk => hk.2) (.slice Ao25 x168001_1.length co25)) (fun _ hk => hk.1.1), by repeat (first | (with_reducible first | exact HB.out | apply below_alloc | apply pw_below_drewN | apply below_drew1 | refine below_set ?_ GE162.out | refine below_set ?_ GE167.out) | exact HB.out)⟩
end Go.Proofs.Ytpkgckccfanchaa.M

namespace Go.Proofs.Ytpkgckccfanchaa.M
open Go.RowKit Go.Proofs.YtpkgckccfanchaaW.PrintWords Go.Proofs.YtpkgckccfanchaaW.PrintLast Go.Proofs.YtpkgckccfanchaaW.PrintMore
open Sims
set_option linter.unusedVariables false
set_option linter.unusedSimpArgs false
def lensF (ls : List Lv) : List Int := ls.map (fun l => (l.reps.length : Int))
theorem lensF_take (ls : List Lv) {j : Nat} {l : Lv} (h : ls[j]? = some l) : lensF (ls.take (j + 1)) = lensF (ls.take j) ++ [(l.reps.length : Int)] := by
  obtain ⟨h1, h2⟩ := List.getElem?_eq_some_iff.1 h
  unfold lensF
  rw [List.take_succ_eq_append_getElem h1, h2, List.map_append]
  rfl
theorem lensF_length (ls : List Lv) : (lensF ls).length = ls.length := by simp [lensF]
set_option maxHeartbeats 4000000 in
set_option maxRecDepth 100000 in
theorem lengths_calls {w : World} {B g n : Nat} {PB : Nat → Prop} {av : Value} {cs : List LC} {ls : List Lv} (hG : GrAt w B PB g n av cs ls) (hln : ls.length ≤ 1000000) :
    Calls Try.prog 64 #[.pointer (some ⟨g, 0, none⟩)] w fun e w' => ∃ v, e = .returned v ∧ Kd.R (Kd.int .i64) 3 w' w.heap.size (fun _ => True) v (lensF ls) ∧ Below w.heap.size w w' := by
  obtain ⟨Aa, ca, rfl⟩ := own_slice hG.arr
  have hc1 : w.cell? ⟨g, 1, none⟩ = some (.slice Aa cs.length ca) := by simp [World.cell?, hG.cells]
  have HCL := Aside0.mk hG.len
  have HG := Aside0.mk hG
  obtain ⟨m, hm⟩ : ∃ m, cs.length = m := ⟨_, rfl⟩
  rw [hm] at hc1
  have HM := Aside0.mk hm
  have hmm : m ≤ 1000000 := by have := hG.len; omega
  have HBR := Aside0.mk (Below.refl w.heap.size w)
  clear hG hm hln
  go_enter Try.func64, Try.ntmps64
  go_wp2_with (fail)
  go_loopw [3, 11] (fun v i wr => ∃ j : Nat, i = .int .i64 j ∧ j ≤ m ∧ Aside0 (Kd.R (Kd.int .i64) 3 wr w.heap.size (fun _ => True) v (lensF (ls.take j))) ∧ Aside0 (Below w.heap.size w wr)) (fun _ i _ => m - (intOf i).toNat)
  case atStart => exact ⟨0, rfl, by omega, ⟨Kd.R_nil _ _ _ _ _⟩, HBR⟩
  case round =>
    clear HBR
    obtain ⟨j, rfl, hj, HO, HB⟩ := hrel
    by_cases hlt : j < m
    · obtain ⟨c, hcj⟩ : ∃ c, cs[j]? = some c := ⟨cs[j]'(by rw [HM.out]; exact hlt), List.getElem?_eq_getElem _⟩
      obtain ⟨l, hl, hlv⟩ := (HG.out.below HB.out).at_ hcj
      obtain ⟨-, ad, rfl, hcp⟩ := HG.out.ptr_at hcj
      have hcr := (HB.out.cell (World.block_lt_of_cell? w _ hcp)).trans hcp
      obtain ⟨-, -, hc2, -, -⟩ := hlv.cell
      obtain ⟨Ao, co, ho⟩ := own_slice hlv.orb
      have hdl : (dom l).length = l.reps.length := by simp [dom]
      rw [ho, hdl] at hc2
      have hlen : (lensF (ls.take j)).length = j := by rw [lensF_length, List.length_take]; have := HCL.out; have := HM.out; omega
      have hlt2 : (j : Int) < (m : Int) := by omega
      have HT := Aside0.mk (lensF_take ls hl)
      clear hl hlv hcp ho hdl hcj
      go_wp2_with ((with_reducible refine gate_builtin (b := .append) (xs := #[.tmp 15, .tmp 21]) rfl ?_); at_builtin; go_must (refine Kd.R_append (Kd.int .i64) (w0 := w) w.heap.size rfl (.tmp 15) (.tmp 21) 28 3 (.int .i64 0) 8 rfl Try.underlying28 info3 rfl (by decide) (by omega) u3 (lensF (ls.take j)) (l.reps.length : Int) [.int .i64 (l.reps.length : Int)] (fun _ => True) (fun _ => False) rfl rfl ?aP (fun _ hk => hk.elim) ?aF ?aO ?aB ?aS ?aL ?_); (case aP => go_must (exact rfl)); (case aB => go_must (exact HB.out)); (case aF => go_must (exact (fun _ _ => trivial))); (case aO => go_must (exact HO.out)); (case aS => go_must (exact below_size HB.out)); (case aL => go_must (omega)); intro v1 w1 ho hb hg hat; go_must (rw [← HT.out] at ho); have ho2 := Aside0.mk ho; have hb2 := Aside0.mk hb; clear ho hb hg hat HO HB)
      go_roundw
      case rel => exact ⟨j + 1, by go_num, by omega, ho2, hb2⟩
      case measure => simp [intOf]; omega
    · obtain rfl : j = m := by omega
      clear hlt hj
      go_wp2_with (fail)
      go_ret
      have e1 : ls.take j = ls := List.take_of_length_le (by have := HM.out; have := HCL.out; omega)
      have ho := HO.out
      rw [e1] at ho
      exact ⟨_, rfl, ho, HB.out⟩
set_option maxHeartbeats 4000000 in
set_option maxRecDepth 100000 in
theorem order_calls {w : World} {B g n k : Nat} {PB : Nat → Prop} {av : Value} {cs : List LC} {ls : List Lv} {r1 : Bool} {r2 : List Int} (hG : GrAt w B PB g n av cs ls) (hln : ls.length ≤ 1000000) (h : stabchain_product.f k (lensF ls) = some (r1, r2)) :
    Calls Try.prog 49 #[.pointer (some ⟨g, 0, none⟩)] w fun e w' => ∃ v1_ : Value, e = .returned (.agg #[.bool r1, v1_]) ∧ Kd.V (Kd.int .u32) 98 w' w.heap.size (fun k_ => (w.heap.size ≤ k_)) v1_ r2 ∧ Below w.heap.size w w' := by
  have HG := Aside0.mk hG
  have H := Aside0.mk h
  clear hG h
  go_enter Try.func49, Try.ntmps49
  go_wp2_with (first | ((with_reducible refine gate_dst (N := 2) rfl ?_); refine box_event ?hg (N := 2) ?hd (cs := #[.bool false, .slice none 0 0]) (t := 24) ?hr ?_; (case hd => rfl); (case hg => rfl); (case hr => first | (go_simp; done) | (go_simp; rfl)); intro gb hg w5 hbox hb; have GB := Aside0.mk hbox; have HB0 := Aside0.mk hb; have HGB : Aside0 (w.heap.size ≤ gb) := ⟨by rw [hg]; exact Nat.le_refl _⟩; clear hg hbox hb) | (go_at_call 64; (with_reducible refine (lengths_calls (HG.out.below HB0.out) hln).mono ?_); rintro e w6 ⟨v, rfl, hR, hb6⟩; obtain ⟨A6, c6, rfl, hl6, hC6⟩ := Kd.R_reads hR; have GB6 := Aside0.mk (blk_below GB.out hb6); have HC6 := Aside0.mk hC6; have HL6 := Aside0.mk hl6; have HB6 := Aside0.mk hb6; clear hR hl6 hC6 hb6) | (go_at_call 68; (with_reducible refine (stabchain_product.calls k A6 c6 (lensF ls) r1 r2 w6 HC6.out HL6.out H.out).mono ?_); rintro e w7 ⟨v1, rfl, hV, hb7⟩; obtain ⟨A7, c7, rfl⟩ := Kd.V_slice hV; have GB7 := Aside0.mk (blk_below GB6.out hb7); have hg0 := (blk_cell GB7.out 0).trans (show _ = some (Value.bool false) from rfl); have hg1 := (blk_cell GB7.out 1).trans (show _ = some (Value.slice none 0 0) from rfl); have hg2 := blk_frozen GB7.out 0; have hg3 := blk_frozen GB7.out 1; have HV7 := Aside0.mk hV; have HB7 := Aside0.mk hb7; clear hV hb7))
  have hs0 : w.heap.size ≤ w5.heap.size := HB0.out.size
  have hs6 : gb < w6.heap.size := blk_lt GB6.out
  refine bodyPost_ret (results_cell_row rfl _ _ gb 24 #[.bool r1, .slice A7 r2.length c7] (0, 0) _ rfl (by refine blk_put (cs := #[.bool r1, .slice none 0 0]) ?_ 1 _ rfl; refine blk_put (cs := #[.bool false, .slice none 0 0]) ?_ 0 _ rfl; exact GB7.out) Try.underlying24 rfl (by kernel_rfl)) rfl ?_
  refine ⟨_, rfl, ?_, ?_⟩
  · exact Kd.V_mono (Kd.V_far (p := ⟨gb, 1, none⟩) (Kd.V_far (p := ⟨gb, 0, none⟩) HV7.out (fun k hk e => by have e2 : k = gb := e; omega) (.bool r1)) (fun k hk e => by have e2 : k = gb := e; omega) _) (fun k hk => Nat.le_trans (Nat.le_trans hs0 HB6.out.size) hk)
  · exact below_set (below_set (below_then (below_then HB0.out hs0 HB6.out) (Nat.le_trans hs0 HB6.out.size) HB7.out) HGB.out) HGB.out
end Go.Proofs.Ytpkgckccfanchaa.M

namespace Go.Proofs.Ytpkgckccfanchaa.M
open Go.RowKit Go.Proofs.YtpkgckccfanchaaW.PrintWords Go.Proofs.YtpkgckccfanchaaW.PrintLast Go.Proofs.YtpkgckccfanchaaW.PrintMore
attribute [local go_sem] max2_int min2_int max_two min_two max_three min_three max_four min_four
set_option linter.unusedVariables false
set_option linter.unusedSimpArgs false
def or8 (x : Int) (i : Nat) (v : Int) : Int := if (x / 64).toNat = i then bits BinOp.or .u64 v (IntKind.u64.wrap (2 ^ (x % 64).toNat)) else v
def permutation_set_with.f (a0_0 a0_1 a0_2 a0_3 a0_4 a0_5 a0_6 a0_7 a1 : Int) : Option (Int × Int × Int × Int × Int × Int × Int × Int) := if 0 ≤ a1 ∧ a1 < 512 then some (or8 a1 0 a0_0, or8 a1 1 a0_1, or8 a1 2 a0_2, or8 a1 3 a0_3, or8 a1 4 a0_4, or8 a1 5 a0_5, or8 a1 6 a0_6, or8 a1 7 a0_7) else none
set_option maxHeartbeats 1000000 in
theorem permutation_set_with.calls (a0_0 : Int) (a0_1 : Int) (a0_2 : Int) (a0_3 : Int) (a0_4 : Int) (a0_5 : Int) (a0_6 : Int) (a0_7 : Int) (a1 : Int) (r1 : Int) (r2 : Int) (r3 : Int) (r4 : Int) (r5 : Int) (r6 : Int) (r7 : Int) (r8 : Int) (w : World) (h : permutation_set_with.f a0_0 a0_1 a0_2 a0_3 a0_4 a0_5 a0_6 a0_7 a1 = some (r1, r2, r3, r4, r5, r6, r7, r8)) :
    Calls Try.prog 110 #[.agg #[.int .u64 a0_0, .int .u64 a0_1, .int .u64 a0_2, .int .u64 a0_3, .int .u64 a0_4, .int .u64 a0_5, .int .u64 a0_6, .int .u64 a0_7], .int .i64 a1] w fun e w' => e = .returned (.agg #[.int .u64 r1, .int .u64 r2, .int .u64 r3, .int .u64 r4, .int .u64 r5, .int .u64 r6, .int .u64 r7, .int .u64 r8]) ∧ Below w.heap.size w w' := by
  unfold permutation_set_with.f at h
  split at h
  case isFalse => simp at h
  case isTrue hx =>
  obtain ⟨h0, h1⟩ := hx; have hr := Option.some.inj h; clear h
  simp only [Prod.mk.injEq] at hr
  obtain ⟨rfl, rfl, rfl, rfl, rfl, rfl, rfl, rfl⟩ := hr
  have hs0 : 0 ≤ a1 % 64 := by omega
  have hs1 : a1 % 64 < 64 := by omega
  have hq : (a1 / 64).toNat = 0 ∨ (a1 / 64).toNat = 1 ∨ (a1 / 64).toNat = 2 ∨ (a1 / 64).toNat = 3 ∨ (a1 / 64).toNat = 4 ∨ (a1 / 64).toNat = 5 ∨ (a1 / 64).toNat = 6 ∨ (a1 / 64).toNat = 7 := by omega
  rcases hq with h | h | h | h | h | h | h | h
  all_goals
    simp only [or8, h, if_true, if_false, Nat.reduceEqDiff, reduceIte]
    go_enter Try.func110, Try.ntmps110
    go_wp2
    go_region
    go_wp2
    refine bodyPost_ret (v := .agg _) (by simp [results, Try.results110, go_sem]) rfl ⟨rfl, ?_⟩; exact below_drew1 (below_alloc (below_alloc (Below.refl _ _) _) _)
end Go.Proofs.Ytpkgckccfanchaa.M

namespace Go.Proofs.Ytpkgckccfanchaa.M
open Go.RowKit Go.Proofs.YtpkgckccfanchaaW.PrintWords Go.Proofs.YtpkgckccfanchaaW.PrintLast Go.Proofs.YtpkgckccfanchaaW.PrintMore
attribute [local go_sem] max2_int min2_int max_two min_two max_three min_three max_four min_four
set_option linter.unusedVariables false
set_option linter.unusedSimpArgs false
def permutation_Valid.l0 : Nat → List Int → List Int → Int → Int → Int → Int → Int → Int → Int → Int → Int → Int → Option (Bool)
  | 0, _, _, _, _, _, _, _, _, _, _, _, _ => none
  | k + 1, x0, x6, x7, x8, x102000, x102001, x102002, x102003, x102004, x102005, x102006, x102007 => if x8 < x7 then (if 0 ≤ x8 then (if x8 < (x6.length : Int) then (if (x0.length : Int) > 512 then (some false) else (if (rd x6 x8) < 0 then (some false) else (if (rd x6 x8) ≥ (x0.length : Int) then (some false) else ((permutation_set_has.f x102000 x102001 x102002 x102003 x102004 x102005 x102006 x102007 (rd x6 x8)).bind fun t103 => (if t103 = true then (some false) else ((permutation_set_with.f x102000 x102001 x102002 x102003 x102004 x102005 x102006 x102007 (rd x6 x8)).bind fun bt104 => (permutation_Valid.l0 k x0 x6 x7 (wrap64 (x8 + 1)) bt104.1 bt104.2.1 bt104.2.2.1 bt104.2.2.2.1 bt104.2.2.2.2.1 bt104.2.2.2.2.2.1 bt104.2.2.2.2.2.2.1 bt104.2.2.2.2.2.2.2))))))) else (none)) else (none)) else (some (decide ((x0.length : Int) > 0)))
def permutation_Valid.f (k : Nat) (l0 : List Int) : Option (Bool) := permutation_Valid.l0 k l0 l0 (l0.length : Int) 0 0 0 0 0 0 0 0 0
theorem permutation_Valid.mono_l : ∀ k, (∀ y0 y1 y2 y3 y4 y5 y6 y7 y8 y9 y10 y11, LeO (permutation_Valid.l0 k y0 y1 y2 y3 y4 y5 y6 y7 y8 y9 y10 y11) (permutation_Valid.l0 (k + 1) y0 y1 y2 y3 y4 y5 y6 y7 y8 y9 y10 y11))
  | 0 => fun _ _ _ _ _ _ _ _ _ _ _ _ r h => by simp [permutation_Valid.l0] at h
  | k + 1 => by
    have ih0 := permutation_Valid.mono_l k
    · intro y0 y1 y2 y3 y4 y5 y6 y7 y8 y9 y10 y11
      unfold permutation_Valid.l0
      repeat' first
      | (with_reducible exact ih0 _ _ _ _ _ _ _ _ _ _ _ _)
      | (with_reducible exact LeO.refl _)
      | (with_reducible exact LeO.none _)
      | (with_reducible refine LeO.ite ?_ ?_)
      | (with_reducible refine LeO.bind ?_ (fun _ => ?_))
      | exact ih0 _ _ _ _ _ _ _ _ _ _ _ _
      | exact LeO.none _
      | refine LeO.ite ?_ ?_
      | refine LeO.bind ?_ (fun _ => ?_)
theorem permutation_Valid.mono : ∀ a0 k, LeO (permutation_Valid.f k a0) (permutation_Valid.f (k + 1) a0) := by
  intro a0 k; have ih0 := permutation_Valid.mono_l k
  unfold permutation_Valid.f
  repeat' first
      | (with_reducible exact ih0 _ _ _ _ _ _ _ _ _ _ _ _)
      | (with_reducible exact LeO.refl _)
      | (with_reducible exact LeO.none _)
      | (with_reducible refine LeO.ite ?_ ?_)
      | (with_reducible refine LeO.bind ?_ (fun _ => ?_))
      | exact ih0 _ _ _ _ _ _ _ _ _ _ _ _
      | exact LeO.none _
      | refine LeO.ite ?_ ?_
      | refine LeO.bind ?_ (fun _ => ?_)
set_option maxHeartbeats 8000000 in
set_option maxRecDepth 100000 in
theorem permutation_Valid.calls (k : Nat) (A0 : Option Addr) (c0 : Nat) (l0 : List Int) (r : Bool) (w : World) (hr0 : Kd.C (Kd.int .i64) w A0 l0.length l0) (hc0 : l0.length ≤ c0) (h : permutation_Valid.f k l0 = some r) :
    Calls Try.prog 91 #[.slice A0 l0.length c0] w fun e w' => e = .returned (.bool r) ∧ Below w.heap.size w w' := by
  have hu142 := Try.underlying142; have HR0 := Aside0.mk hr0; have HC0 := Aside0.mk hc0; clear hr0 hc0; have HB := Aside0.mk (Below.refl w.heap.size w); have H : (permutation_Valid.l0 k l0 l0 (l0.length : Int) 0 0 0 0 0 0 0 0 0) = some r := h; clear h; have H' := Aside0.mk H; clear H
  go_enter Try.func91, Try.ntmps91
  go_wp2_with (first | ((with_reducible refine gate_dst (N := 3) rfl ?_); (try (refine gate_guard (by rfl) ?_; dsimp only)); refine box_event ?hg (N := 3) ?hd (cs := #[.int .u64 0, .int .u64 0, .int .u64 0, .int .u64 0, .int .u64 0, .int .u64 0, .int .u64 0, .int .u64 0]) (t := 142) ?hr ?_; (case hd => rfl); (case hg => rfl); (case hr => first | (go_simp; done) | (go_simp; rfl)); intro gb101 hg w2 hbox hb; have n0_ := Aside0.mk (below_step (by repeat (first | (with_reducible first | exact HB.out | apply below_alloc | apply pw_below_drewN | apply below_drew1) | exact HB.out)) hb); have n1_ := Aside0.mk (hbox); have n2_ := Aside0.mk ((by rw [hg]; exact (below_size (by repeat (first | (with_reducible first | exact HB.out | apply below_alloc | apply pw_below_drewN | apply below_drew1) | exact HB.out))) : w.heap.size ≤ gb101)); have n3_ := Aside0.mk ((by rw [hg]; exact (below_size (by repeat (first | (with_reducible first | exact HB.out | apply below_alloc | apply pw_below_drewN | apply below_drew1) | exact HB.out))) : w.heap.size ≤ gb101)); clear HB; have HB := n0_; have BK101 := n1_; have GW101 := n2_; have GE101 := n3_; clear n0_ n1_ n2_ n3_; clear hb hbox hg))
  go_loopg [8] k (fun kq v8 w' => ∃ (x8_1 : Int) (x102000_1 : Int) (x102001_1 : Int) (x102002_1 : Int) (x102003_1 : Int) (x102004_1 : Int) (x102005_1 : Int) (x102006_1 : Int) (x102007_1 : Int), v8 = .int .i64 x8_1 ∧ Aside0 (permutation_Valid.l0 kq l0 l0 (l0.length : Int) x8_1 x102000_1 x102001_1 x102002_1 x102003_1 x102004_1 x102005_1 x102006_1 x102007_1 = some r) ∧ Aside0 (kq ≤ k) ∧ Aside0 (w'.heap[gb101]? = some (.cells #[.int .u64 x102000_1, .int .u64 x102001_1, .int .u64 x102002_1, .int .u64 x102003_1, .int .u64 x102004_1, .int .u64 x102005_1, .int .u64 x102006_1, .int .u64 x102007_1] 142 (0, 0))) ∧ Aside0 (Below w.heap.size w w'))
  case atStart => exact ⟨(0), (0), (0), (0), (0), (0), (0), (0), (0), (by first | rfl | (simp; done) | (simp [*]; done)), H', ⟨Nat.le_refl _⟩, ⟨by (with_reducible repeat (first | refine blk_drewN ?_ _ | refine blk_drew ?_ | refine blk_alloc ?_ _)); exact BK101.out⟩, ⟨by repeat (first | (with_reducible first | exact HB.out | apply below_alloc | apply pw_below_drewN | apply below_drew1 | refine below_set ?_ GE101.out) | exact HB.out)⟩⟩
  case round =>
    clear H'
    try clear p2
    obtain ⟨x8_1, x102000_1, x102001_1, x102002_1, x102003_1, x102004_1, x102005_1, x102006_1, x102007_1, rfl, HA, HK1, BK101, HB⟩ := hrel; cases gk with
    | zero => exact absurd HA.out (by simp [permutation_Valid.l0])
    | succ k1 =>
      have H := HA.out; clear HA
      simp only [permutation_Valid.l0] at H
      by_cases c3 : x8_1 < (l0.length : Int)
      · rw [if_pos c3] at H
        have c3b0 : decide (x8_1 < (l0.length : Int)) = true := decide_eq_true c3; clear c3
        by_cases c4 : 0 ≤ x8_1
        · rw [if_pos c4] at H
          have c4b0 : decide (0 ≤ x8_1) = true := decide_eq_true c4; clear c4
          by_cases c5 : x8_1 < (l0.length : Int)
          · rw [if_pos c5] at H
            have c5b0 : decide (x8_1 < (l0.length : Int)) = true := decide_eq_true c5; clear c5
            by_cases c6 : (l0.length : Int) > 512
            · rw [if_pos c6] at H
              have c6b0 : decide (512 < (l0.length : Int)) = true := decide_eq_true c6; have c6b1 : decide (512 < l0.length) = true := decide_eq_true (by omega); clear c6; obtain rfl := Option.some.inj H; have p102 : 0 ≤ (x8_1 : Int) := of_decide_eq_true (by first | (with_reducible assumption) | assumption); have q102 : x8_1 < (l0.length : Int) := of_decide_eq_true (by first | (with_reducible assumption) | assumption); obtain ⟨ad102, e102, hx102_0⟩ := Kd.at_int HR0.out x8_1 p102 q102; cases e102; replace hx102_0 := (HB.out.cell (World.block_lt_of_cell? w _ hx102_0)).trans hx102_0; replace p102 := eq_true p102; replace q102 := eq_true q102
              go_wp2
              go_ret
              exact ⟨by first | rfl | (simp [errW_none, errW_some] <;> rfl) | (simp [*, errW_none, errW_some] <;> rfl), by repeat (first | (with_reducible first | exact HB.out | apply below_alloc | apply pw_below_drewN | apply below_drew1 | refine below_set ?_ GE101.out) | exact HB.out)⟩
            · rw [if_neg c6] at H
              have c6b0 : decide (512 < (l0.length : Int)) = false := decide_eq_false c6; have c6b1 : decide (512 < l0.length) = false := decide_eq_false (by omega); clear c6
              by_cases c7 : (rd l0 x8_1) < 0
              · rw [if_pos c7] at H
                have c7b0 : decide ((rd l0 x8_1) < 0) = true := decide_eq_true c7; clear c7; obtain rfl := Option.some.inj H; have p102 : 0 ≤ (x8_1 : Int) := of_decide_eq_true (by first | (with_reducible assumption) | assumption); have q102 : x8_1 < (l0.length : Int) := of_decide_eq_true (by first | (with_reducible assumption) | assumption); obtain ⟨ad102, e102, hx102_0⟩ := Kd.at_int HR0.out x8_1 p102 q102; cases e102; replace hx102_0 := (HB.out.cell (World.block_lt_of_cell? w _ hx102_0)).trans hx102_0; replace p102 := eq_true p102; replace q102 := eq_true q102
                go_wp2
                go_ret
                exact ⟨by first | rfl | (simp [errW_none, errW_some] <;> rfl) | (simp [*, errW_none, errW_some] <;> rfl), by repeat (first | (with_reducible first | exact HB.out | apply below_alloc | apply pw_below_drewN | apply below_drew1 | refine below_set ?_ GE101.out) | exact HB.out)⟩
              · rw [if_neg c7] at H
                have c7b0 : decide ((rd l0 x8_1) < 0) = false := decide_eq_false c7; clear c7
                by_cases c8 : (rd l0 x8_1) ≥ (l0.length : Int)
                · rw [if_pos c8] at H
                  have c8b0 : decide ((l0.length : Int) ≤ (rd l0 x8_1)) = true := decide_eq_true c8; clear c8; obtain rfl := Option.some.inj H; have p102 : 0 ≤ (x8_1 : Int) := of_decide_eq_true (by first | (with_reducible assumption) | assumption); have q102 : x8_1 < (l0.length : Int) := of_decide_eq_true (by first | (with_reducible assumption) | assumption); obtain ⟨ad102, e102, hx102_0⟩ := Kd.at_int HR0.out x8_1 p102 q102; cases e102; replace hx102_0 := (HB.out.cell (World.block_lt_of_cell? w _ hx102_0)).trans hx102_0; replace p102 := eq_true p102; replace q102 := eq_true q102
                  go_wp2
                  go_ret
                  exact ⟨by first | rfl | (simp [errW_none, errW_some] <;> rfl) | (simp [*, errW_none, errW_some] <;> rfl), by repeat (first | (with_reducible first | exact HB.out | apply below_alloc | apply pw_below_drewN | apply below_drew1 | refine below_set ?_ GE101.out) | exact HB.out)⟩
                · rw [if_neg c8] at H
                  have c8b0 : decide ((l0.length : Int) ≤ (rd l0 x8_1)) = false := decide_eq_false c8; clear c8; replace H := Option.bind_eq_some_iff.mp H; obtain ⟨t103, A90, H⟩ := H; replace H : (if t103 = true then (some false) else ((permutation_set_with.f x102000_1 x102001_1 x102002_1 x102003_1 x102004_1 x102005_1 x102006_1 x102007_1 (rd l0 x8_1)).bind fun bt104 => (permutation_Valid.l0 k1 l0 l0 (l0.length : Int) (wrap64 (x8_1 + 1)) bt104.1 bt104.2.1 bt104.2.2.1 bt104.2.2.2.1 bt104.2.2.2.2.1 bt104.2.2.2.2.2.1 bt104.2.2.2.2.2.2.1 bt104.2.2.2.2.2.2.2))) = some r := H; have A9 := Aside0.mk A90; clear A90
                  by_cases c10 : t103 = true
                  · subst c10
                    have H1 : (some false) = some r := by rw [if_pos rfl] at H; exact H
                    clear H; have H := H1; clear H1; obtain rfl := Option.some.inj H; have p102 : 0 ≤ (x8_1 : Int) := of_decide_eq_true (by first | (with_reducible assumption) | assumption); have q102 : x8_1 < (l0.length : Int) := of_decide_eq_true (by first | (with_reducible assumption) | assumption); obtain ⟨ad102, e102, hx102_0⟩ := Kd.at_int HR0.out x8_1 p102 q102; cases e102; replace hx102_0 := (HB.out.cell (World.block_lt_of_cell? w _ hx102_0)).trans hx102_0; replace p102 := eq_true p102; replace q102 := eq_true q102; have hcz11_0 : wr.cell? ⟨gb101, 0, none⟩ = some (.int .u64 x102000_1) := (blk_cell BK101.out 0).trans rfl; have hcz11_1 : wr.cell? ⟨gb101, 1, none⟩ = some (.int .u64 x102001_1) := (blk_cell BK101.out 1).trans rfl; have hcz11_2 : wr.cell? ⟨gb101, 2, none⟩ = some (.int .u64 x102002_1) := (blk_cell BK101.out 2).trans rfl; have hcz11_3 : wr.cell? ⟨gb101, 3, none⟩ = some (.int .u64 x102003_1) := (blk_cell BK101.out 3).trans rfl; have hcz11_4 : wr.cell? ⟨gb101, 4, none⟩ = some (.int .u64 x102004_1) := (blk_cell BK101.out 4).trans rfl; have hcz11_5 : wr.cell? ⟨gb101, 5, none⟩ = some (.int .u64 x102005_1) := (blk_cell BK101.out 5).trans rfl; have hcz11_6 : wr.cell? ⟨gb101, 6, none⟩ = some (.int .u64 x102006_1) := (blk_cell BK101.out 6).trans rfl; have hcz11_7 : wr.cell? ⟨gb101, 7, none⟩ = some (.int .u64 x102007_1) := (blk_cell BK101.out 7).trans rfl; have hfz11_0 := blk_frozen BK101.out 0; have hfz11_1 := blk_frozen BK101.out 1; have hfz11_2 := blk_frozen BK101.out 2; have hfz11_3 := blk_frozen BK101.out 3; have hfz11_4 := blk_frozen BK101.out 4; have hfz11_5 := blk_frozen BK101.out 5; have hfz11_6 := blk_frozen BK101.out 6; have hfz11_7 := blk_frozen BK101.out 7
                    go_wp2_with (first | (go_at_call 109; (with_reducible refine (permutation_set_has.calls x102000_1 x102001_1 x102002_1 x102003_1 x102004_1 x102005_1 x102006_1 x102007_1 (rd l0 x8_1) true _ A9.out).mono ?_); rintro e w12 ⟨rfl, hb⟩; have n0_ := Aside0.mk (blk_below (g := gb101) (o := .cells #[.int .u64 x102000_1, .int .u64 x102001_1, .int .u64 x102002_1, .int .u64 x102003_1, .int .u64 x102004_1, .int .u64 x102005_1, .int .u64 x102006_1, .int .u64 x102007_1] 142 (0, 0)) (by (with_reducible repeat (first | refine blk_drewN ?_ _ | refine blk_drew ?_ | refine blk_alloc ?_ _)); exact BK101.out) hb); have n1_ := Aside0.mk (below_step (by repeat (first | (with_reducible first | exact HB.out | apply below_alloc | apply pw_below_drewN | apply below_drew1 | refine below_set ?_ GE101.out) | exact HB.out)) hb); clear BK101; clear HB; have BK101 := n0_; have HB := n1_; clear n0_ n1_; (try clear hb); (try clear hb2); (try clear hk); (try clear hi)))
                    go_ret
                    exact ⟨by first | rfl | (simp [errW_none, errW_some] <;> rfl) | (simp [*, errW_none, errW_some] <;> rfl), by repeat (first | (with_reducible first | exact HB.out | apply below_alloc | apply pw_below_drewN | apply below_drew1 | refine below_set ?_ GE101.out) | exact HB.out)⟩
                  · replace c10 := Bool.eq_false_iff.mpr c10
                    subst c10
                    have H1 : ((permutation_set_with.f x102000_1 x102001_1 x102002_1 x102003_1 x102004_1 x102005_1 x102006_1 x102007_1 (rd l0 x8_1)).bind fun bt104 => (permutation_Valid.l0 k1 l0 l0 (l0.length : Int) (wrap64 (x8_1 + 1)) bt104.1 bt104.2.1 bt104.2.2.1 bt104.2.2.2.1 bt104.2.2.2.2.1 bt104.2.2.2.2.2.1 bt104.2.2.2.2.2.2.1 bt104.2.2.2.2.2.2.2)) = some r := by rw [if_neg (show ¬ (false = true) by decide)] at H; exact H
                    clear H; have H := H1; clear H1; replace H := Option.bind_eq_some_iff.mp H; obtain ⟨⟨t104, t105, t106, t107, t108, t109, t110, t111⟩, A130, H⟩ := H; replace H : (permutation_Valid.l0 k1 l0 l0 (l0.length : Int) (wrap64 (x8_1 + 1)) t104 t105 t106 t107 t108 t109 t110 t111) = some r := H; have A13 := Aside0.mk A130; clear A130; have H' := Aside0.mk H; clear H; have p102 : 0 ≤ (x8_1 : Int) := of_decide_eq_true (by first | (with_reducible assumption) | assumption); have q102 : x8_1 < (l0.length : Int) := of_decide_eq_true (by first | (with_reducible assumption) | assumption); obtain ⟨ad102, e102, hx102_0⟩ := Kd.at_int HR0.out x8_1 p102 q102; cases e102; replace hx102_0 := (HB.out.cell (World.block_lt_of_cell? w _ hx102_0)).trans hx102_0; replace p102 := eq_true p102; replace q102 := eq_true q102; have hcz14_0 : wr.cell? ⟨gb101, 0, none⟩ = some (.int .u64 x102000_1) := (blk_cell BK101.out 0).trans rfl; have hcz14_1 : wr.cell? ⟨gb101, 1, none⟩ = some (.int .u64 x102001_1) := (blk_cell BK101.out 1).trans rfl; have hcz14_2 : wr.cell? ⟨gb101, 2, none⟩ = some (.int .u64 x102002_1) := (blk_cell BK101.out 2).trans rfl; have hcz14_3 : wr.cell? ⟨gb101, 3, none⟩ = some (.int .u64 x102003_1) := (blk_cell BK101.out 3).trans rfl; have hcz14_4 : wr.cell? ⟨gb101, 4, none⟩ = some (.int .u64 x102004_1) := (blk_cell BK101.out 4).trans rfl; have hcz14_5 : wr.cell? ⟨gb101, 5, none⟩ = some (.int .u64 x102005_1) := (blk_cell BK101.out 5).trans rfl; have hcz14_6 : wr.cell? ⟨gb101, 6, none⟩ = some (.int .u64 x102006_1) := (blk_cell BK101.out 6).trans rfl; have hcz14_7 : wr.cell? ⟨gb101, 7, none⟩ = some (.int .u64 x102007_1) := (blk_cell BK101.out 7).trans rfl; have hfz14_0 := blk_frozen BK101.out 0; have hfz14_1 := blk_frozen BK101.out 1; have hfz14_2 := blk_frozen BK101.out 2; have hfz14_3 := blk_frozen BK101.out 3; have hfz14_4 := blk_frozen BK101.out 4; have hfz14_5 := blk_frozen BK101.out 5; have hfz14_6 := blk_frozen BK101.out 6; have hfz14_7 := blk_frozen BK101.out 7
                    go_wp2_with (first | (go_at_call 109; (with_reducible refine (permutation_set_has.calls x102000_1 x102001_1 x102002_1 x102003_1 x102004_1 x102005_1 x102006_1 x102007_1 (rd l0 x8_1) false _ A9.out).mono ?_); rintro e w15 ⟨rfl, hb⟩; have n0_ := Aside0.mk (blk_below (g := gb101) (o := .cells #[.int .u64 x102000_1, .int .u64 x102001_1, .int .u64 x102002_1, .int .u64 x102003_1, .int .u64 x102004_1, .int .u64 x102005_1, .int .u64 x102006_1, .int .u64 x102007_1] 142 (0, 0)) (by (with_reducible repeat (first | refine blk_drewN ?_ _ | refine blk_drew ?_ | refine blk_alloc ?_ _)); exact BK101.out) hb); have n1_ := Aside0.mk (below_step (by repeat (first | (with_reducible first | exact HB.out | apply below_alloc | apply pw_below_drewN | apply below_drew1 | refine below_set ?_ GE101.out) | exact HB.out)) hb); clear BK101; clear HB; have BK101 := n0_; have HB := n1_; clear n0_ n1_; (try clear hb); (try clear hb2); (try clear hk); (try clear hi); have hcz16_0 : w15.cell? ⟨gb101, 0, none⟩ = some (.int .u64 x102000_1) := (blk_cell BK101.out 0).trans rfl; have hcz16_1 : w15.cell? ⟨gb101, 1, none⟩ = some (.int .u64 x102001_1) := (blk_cell BK101.out 1).trans rfl; have hcz16_2 : w15.cell? ⟨gb101, 2, none⟩ = some (.int .u64 x102002_1) := (blk_cell BK101.out 2).trans rfl; have hcz16_3 : w15.cell? ⟨gb101, 3, none⟩ = some (.int .u64 x102003_1) := (blk_cell BK101.out 3).trans rfl; have hcz16_4 : w15.cell? ⟨gb101, 4, none⟩ = some (.int .u64 x102004_1) := (blk_cell BK101.out 4).trans rfl; have hcz16_5 : w15.cell? ⟨gb101, 5, none⟩ = some (.int .u64 x102005_1) := (blk_cell BK101.out 5).trans rfl; have hcz16_6 : w15.cell? ⟨gb101, 6, none⟩ = some (.int .u64 x102006_1) := (blk_cell BK101.out 6).trans rfl; have hcz16_7 : w15.cell? ⟨gb101, 7, none⟩ = some (.int .u64 x102007_1) := (blk_cell BK101.out 7).trans rfl; have hfz16_0 := blk_frozen BK101.out 0; have hfz16_1 := blk_frozen BK101.out 1; have hfz16_2 := blk_frozen BK101.out 2; have hfz16_3 := blk_frozen BK101.out 3; have hfz16_4 := blk_frozen BK101.out 4; have hfz16_5 := blk_frozen BK101.out 5; have hfz16_6 := blk_frozen BK101.out 6; have hfz16_7 := blk_frozen BK101.out 7) | ((with_reducible refine gate_callee (f := 110) rfl ?_); refine goesL_ (some 32) rfl rfl Try.func110 (by kernel_rfl) rfl #[.agg #[.int .u64 x102000_1, .int .u64 x102001_1, .int .u64 x102002_1, .int .u64 x102003_1, .int .u64 x102004_1, .int .u64 x102005_1, .int .u64 x102006_1, .int .u64 x102007_1], .int .i64 (rd l0 x8_1)] rfl (by (try simp only [List.map_toArray, List.map_cons, List.map_nil]); first | done | rfl | (simp only [List.length_drop, List.length_take]; rfl)) ?_; (with_reducible refine (permutation_set_with.calls x102000_1 x102001_1 x102002_1 x102003_1 x102004_1 x102005_1 x102006_1 x102007_1 (rd l0 x8_1) t104 t105 t106 t107 t108 t109 t110 t111 _ A13.out).mono ?_); rintro e w17 ⟨rfl, hb⟩; refine ⟨_, rfl, ?_⟩; have n0_ := Aside0.mk (blk_below (g := gb101) (o := .cells #[.int .u64 x102000_1, .int .u64 x102001_1, .int .u64 x102002_1, .int .u64 x102003_1, .int .u64 x102004_1, .int .u64 x102005_1, .int .u64 x102006_1, .int .u64 x102007_1] 142 (0, 0)) (by (with_reducible repeat (first | refine blk_drewN ?_ _ | refine blk_drew ?_ | refine blk_alloc ?_ _)); exact BK101.out) hb); have n1_ := Aside0.mk (below_step (by repeat (first | (with_reducible first | exact HB.out | apply below_alloc | apply pw_below_drewN | apply below_drew1 | refine below_set ?_ GE101.out) | exact HB.out)) hb); clear BK101; clear HB; have BK101 := n0_; have HB := n1_; clear n0_ n1_; (try clear hb); (try clear hb2); (try clear hk); (try clear hi); have hcz18_0 : w17.cell? ⟨gb101, 0, none⟩ = some (.int .u64 x102000_1) := (blk_cell BK101.out 0).trans rfl; have hcz18_1 : w17.cell? ⟨gb101, 1, none⟩ = some (.int .u64 x102001_1) := (blk_cell BK101.out 1).trans rfl; have hcz18_2 : w17.cell? ⟨gb101, 2, none⟩ = some (.int .u64 x102002_1) := (blk_cell BK101.out 2).trans rfl; have hcz18_3 : w17.cell? ⟨gb101, 3, none⟩ = some (.int .u64 x102003_1) := (blk_cell BK101.out 3).trans rfl; have hcz18_4 : w17.cell? ⟨gb101, 4, none⟩ = some (.int .u64 x102004_1) := (blk_cell BK101.out 4).trans rfl; have hcz18_5 : w17.cell? ⟨gb101, 5, none⟩ = some (.int .u64 x102005_1) := (blk_cell BK101.out 5).trans rfl; have hcz18_6 : w17.cell? ⟨gb101, 6, none⟩ = some (.int .u64 x102006_1) := (blk_cell BK101.out 6).trans rfl; have hcz18_7 : w17.cell? ⟨gb101, 7, none⟩ = some (.int .u64 x102007_1) := (blk_cell BK101.out 7).trans rfl; have hfz18_0 := blk_frozen BK101.out 0; have hfz18_1 := blk_frozen BK101.out 1; have hfz18_2 := blk_frozen BK101.out 2; have hfz18_3 := blk_frozen BK101.out 3; have hfz18_4 := blk_frozen BK101.out 4; have hfz18_5 := blk_frozen BK101.out 5; have hfz18_6 := blk_frozen BK101.out 6; have hfz18_7 := blk_frozen BK101.out 7))
                    go_roundg k1
                    case measure => have := HK1.out; omega
                    case rel => exact ⟨(wrap64 (x8_1 + 1)), (t104), (t105), (t106), (t107), (t108), (t109), (t110), (t111), (by first | rfl | (simp; done) | (simp [*]; done)), H', ⟨by have := HK1.out; omega⟩, ⟨by (with_reducible repeat (first | refine blk_drewN ?_ _ | refine blk_drew ?_ | refine blk_alloc ?_ _)); refine blk_put (cs := #[.int .u64 t104, .int .u64 t105, .int .u64 t106, .int .u64 t107, .int .u64 t108, .int .u64 t109, .int .u64 t110, .int .u64 x102007_1]) ?_ 7 _ rfl; (with_reducible repeat (first | refine blk_drewN ?_ _ | refine blk_drew ?_ | refine blk_alloc ?_ _)); refine blk_put (cs := #[.int .u64 t104, .int .u64 t105, .int .u64 t106, .int .u64 t107, .int .u64 t108, .int .u64 t109, .int .u64 x102006_1, .int .u64 x102007_1]) ?_ 6 _ rfl; (with_reducible repeat (first | refine blk_drewN ?_ _ | refine blk_drew ?_ | refine blk_alloc ?_ _)); refine blk_put (cs := #[.int .u64 t104, .int .u64 t105, .int .u64 t106, .int .u64 t107, .int .u64 t108, .int .u64 x102005_1, .int .u64 x102006_1, .int .u64 x102007_1]) ?_ 5 _ rfl; (with_reducible repeat (first | refine blk_drewN ?_ _ | refine blk_drew ?_ | refine blk_alloc ?_ _)); refine blk_put (cs := #[.int .u64 t104, .int .u64 t105, .int .u64 t106, .int .u64 t107, .int .u64 x102004_1, .int .u64 x102005_1, .int .u64 x102006_1, .int .u64 x102007_1]) ?_ 4 _ rfl; (with_reducible repeat (first | refine blk_drewN ?_ _ | refine blk_drew ?_ | refine blk_alloc ?_ _)); refine blk_put (cs := #[.int .u64 t104, .int .u64 t105, .int .u64 t106, .int .u64 x102003_1, .int .u64 x102004_1, .int .u64 x102005_1, .int .u64 x102006_1, .int .u64 x102007_1]) ?_ 3 _ rfl; (with_reducible repeat (first | refine blk_drewN ?_ _ | refine blk_drew ?_ | refine blk_alloc ?_ _)); refine blk_put (cs := #[.int .u64 t104, .int .u64 t105, .int .u64 x102002_1, .int .u64 x102003_1, .int .u64 x102004_1, .int .u64 x102005_1, .int .u64 x102006_1, .int .u64 x102007_1]) ?_ 2 _ rfl; (with_reducible repeat (first | refine blk_drewN ?_ _ | refine blk_drew ?_ | refine blk_alloc ?_ _)); refine blk_put (cs := #[.int .u64 t104, .int .u64 x102001_1, .int .u64 x102002_1, .int .u64 x102003_1, .int .u64 x102004_1, .int .u64 x102005_1, .int .u64 x102006_1, .int .u64 x102007_1]) ?_ 1 _ rfl; (with_reducible repeat (first | refine blk_drewN ?_ _ | refine blk_drew ?_ | refine blk_alloc ?_ _)); refine blk_put (cs := #[.int .u64 x102000_1, .int .u64 x102001_1, .int .u64 x102002_1, .int .u64 x102003_1, .int .u64 x102004_1, .int .u64 x102005_1, .int .u64 x102006_1, .int .u64 x102007_1]) ?_ 0 _ rfl; (with_reducible repeat (first | refine blk_drewN ?_ _ | refine blk_drew ?_ | refine blk_alloc ?_ _)); exact BK101.out⟩, ⟨by repeat (first | (with_reducible first | exact HB.out | apply below_alloc | apply pw_below_drewN | apply below_drew1 | refine below_set ?_ GE101.out) | exact HB.out)⟩⟩
          · rw [if_neg c5] at H
            exact absurd H (by simp)
        · rw [if_neg c4] at H
          exact absurd H (by simp)
      · rw [if_neg c3] at H
        have c3b0 : decide (x8_1 < (l0.length : Int)) = false := decide_eq_false c3; clear c3; obtain rfl := Option.some.inj H
        go_wp2
        go_ret
        exact ⟨by first | rfl | (simp [errW_none, errW_some] <;> rfl) | (simp [*, errW_none, errW_some] <;> rfl), by repeat (first | (with_reducible first | exact HB.out | apply below_alloc | apply pw_below_drewN | apply below_drew1 | refine below_set ?_ GE101.out) | exact HB.out)⟩
end Go.Proofs.Ytpkgckccfanchaa.M
