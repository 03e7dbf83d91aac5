/- Part of the proof of StabchainProducts: merged and pruned by merge2.py. -/
import Derived.Test.YtpkgckccfanchaaBStabchainProducts9
import Derived.Test.YtpkgckccfanchaaBStabchainProducts7
import Derived.Test.YtpkgckccfanchaaBStabchainProducts3

namespace Go.Proofs.Ytpkgckccfanchaa.M
open Go.RowKit YtpkgckccfanchaaW.PrintWords YtpkgckccfanchaaW.PrintLast YtpkgckccfanchaaW.PrintMore
set_option linter.unusedVariables false
set_option linter.unusedSimpArgs false
def lw_awake.f (k : Nat)  : Option (Bool) := (some (([(([1, 2, 0] : List Int)), (([1, 0, 2] : List Int))] : List (List Int)) : List (List Int))).bind fun y351 => ((sc_Order.f k 3 y351).bind fun bt354 => ((sc_Lengths.f k 3 y351 (([0, 1] : List Int))).bind fun bt363 => ((sc_Contains.f k 4 (([(([1, 2, 3, 0] : List Int))] : List (List Int))) (([2, 3, 0, 1] : List Int))).bind fun bt376 => ((sc_Contains.f k 4 (([(([1, 2, 3, 0] : List Int))] : List (List Int))) (([1, 0, 2, 3] : List Int))).bind fun bt387 => (if bt354.2.2 = 0 then (if bt363.2 = 0 then (if bt376.2 = 0 then (if bt387.2 = 0 then ((ra_Small.f 6).bind fun bt389 => ((ra_Same.f k bt354.1 bt354.2.1 bt389.1 bt389.2).bind fun t393 => (if t393 = true then ((rb_Same.f k bt363.1 (([3, 2] : List Int))).bind fun t397 => (if t397 = true then (if bt376.1 = true then (some (!bt387.1)) else (some false)) else (some false))) else (some false)))) else (some false)) else (some false)) else (some false)) else (some false))))))
theorem lw_awake.mono : ∀ k, LeO (lw_awake.f k ) (lw_awake.f (k + 1) ) := by
  intro  k
  unfold lw_awake.f
  repeat' first
      | (with_reducible exact ra_Same.mono _ _ _ _ _)
      | (with_reducible exact rb_Same.mono _ _ _)
      | (with_reducible exact sc_Contains.mono _ _ _ _)
      | (with_reducible exact sc_Lengths.mono _ _ _ _)
      | (with_reducible exact sc_Order.mono _ _ _)
      | (with_reducible exact LeO.refl _)
      | (with_reducible exact LeO.none _)
      | (with_reducible refine LeO.ite ?_ ?_)
      | (with_reducible refine LeO.bind ?_ (fun _ => ?_))
      | exact ra_Same.mono _ _ _ _ _
      | exact rb_Same.mono _ _ _
      | exact sc_Contains.mono _ _ _ _
      | exact sc_Lengths.mono _ _ _ _
      | exact sc_Order.mono _ _ _
      | exact LeO.none _
      | refine LeO.ite ?_ ?_
      | refine LeO.bind ?_ (fun _ => ?_)
abbrev AG (W : World) (A : Option Addr) (rows : List (List Int)) : Prop := Kd.C (Kd.slice 3 (Kd.int .i64)) W A rows.length rows
theorem C_lit {W : World} {g t : Nat} {xs : List Int} {cs : Array Value} (hg : W.heap[g]? = some (.cells cs t (0, 0))) (hc : ∀ j : Nat, j < xs.length → cs[j]? = some (.int .i64 (xs.getD j 0))) (hl : xs.length ≤ 100) : Kd.C (Kd.int .i64) W (some ⟨g, 0, none⟩) xs.length xs := by
  refine Kd.C_of_reads (enc := Value.int .i64) (d := (0 : Int)) (h1 := fun _ => rfl) ⟨rfl, by omega, fun _ => ⟨_, rfl, fun j hj => ?_⟩⟩
  have e : (⟨g, 0, none⟩ : Addr).add j = ⟨g, j, none⟩ := by
    unfold Addr.add
    split
    · next h => subst h; rfl
    · simp
  rw [e]; exact (pzH hg j).trans (hc j hj)
theorem C_rows {W : World} {g : Nat} {rows : List (List Int)} {cs : Array Value} (hg : W.heap[g]? = some (.cells cs 28 (0, 0))) (hv : ∀ (j : Nat) p, rows[j]? = some p → ∃ A c, cs[j]? = some (.slice A p.length c) ∧ p.length ≤ c ∧ Kd.C (Kd.int .i64) W A p.length p) (hl : rows.length ≤ 100) : Kd.C (Kd.slice 3 (Kd.int .i64)) W (some ⟨g, 0, none⟩) rows.length rows := by
  refine ⟨rfl, by omega, fun _ => ⟨_, rfl, fun j q hq => ?_⟩⟩; obtain ⟨A, c, h1, h2, h3⟩ := hv j q hq; refine ⟨[.slice A q.length c], rfl, ⟨A, c, rfl, h2, h3⟩, ?_⟩; intro i u hu
  match i, hu with
  | 0, hu =>
    cases hu
    have e : (⟨g, 0, none⟩ : Addr).add (j * (Kd.slice 3 (Kd.int .i64)).sz + 0) = ⟨g, j, none⟩ := by
      have e2 : j * (Kd.slice 3 (Kd.int .i64)).sz + 0 = j := by show j * 1 + 0 = j; omega
      rw [e2]
      unfold Addr.add
      split
      · next h => subst h; rfl
      · simp
    rw [e]; exact (pzH hg j).trans h1
theorem blk_at {w : World} {cs : Array Value} {t n : Nat} (h : n = w.heap.size) : (w.alloc (.cells cs t)).heap[n]? = some (.cells cs t (0, 0)) := by rw [h]; exact blk_new w _
theorem lits4 (w : World) (a b c d a' b' c' d' : Int) : AG (((w.alloc (.cells #[.int .i64 a, .int .i64 b, .int .i64 c, .int .i64 d] 3)).alloc (.cells #[.slice (some ⟨w.heap.size, 0, none⟩) 4 4] 28)).alloc (.cells #[.int .i64 a', .int .i64 b', .int .i64 c', .int .i64 d'] 3)) (some ⟨w.heap.size + 1, 0, none⟩) [[a, b, c, d]] ∧ Kd.C (Kd.int .i64) (((w.alloc (.cells #[.int .i64 a, .int .i64 b, .int .i64 c, .int .i64 d] 3)).alloc (.cells #[.slice (some ⟨w.heap.size, 0, none⟩) 4 4] 28)).alloc (.cells #[.int .i64 a', .int .i64 b', .int .i64 c', .int .i64 d'] 3)) (some ⟨w.heap.size + 1 + 1, 0, none⟩) 4 [a', b', c', d'] := by
  refine ⟨C_rows (pzI (blk_at (by simp only [World.size_alloc])) (pzB (Below.refl _ _) _)) (fun j p hp => ?_) (by simp), C_lit (xs := [a', b', c', d']) (blk_at (by simp only [World.size_alloc])) (fun j hj => ?_) (by simp)⟩
  · match j, hp with
    | 0, hp =>
      cases hp; exact ⟨_, 4, rfl, by simp, C_lit (xs := [a, b, c, d]) (pzI (blk_new w _) (pzB (pzB (Below.refl _ _) _) _)) (fun j hj => by match j, hj with | 0, _ => rfl | 1, _ => rfl | 2, _ => rfl | 3, _ => rfl) (by simp)⟩
  · match j, hj with
    | 0, _ => rfl
    | 1, _ => rfl
    | 2, _ => rfl
    | 3, _ => rfl
set_option maxRecDepth 100000 in
theorem aw_order : sc_Order.f 60 3 [[1, 2, 0], [1, 0, 2]] = some (false, [6], 0) := by decide +kernel
set_option maxRecDepth 100000 in
theorem aw_lengths : sc_Lengths.f 60 3 [[1, 2, 0], [1, 0, 2]] [0, 1] = some ([3, 2], 0) := by decide +kernel
set_option maxRecDepth 100000 in
theorem aw_in : sc_Contains.f 60 4 [[1, 2, 3, 0]] [2, 3, 0, 1] = some (true, 0) := by decide +kernel
set_option maxRecDepth 100000 in
theorem aw_out : sc_Contains.f 60 4 [[1, 2, 3, 0]] [1, 0, 2, 3] = some (false, 0) := by decide +kernel
theorem aw_small : ra_Small.f 6 = some (false, [6]) := by decide +kernel
theorem aw_same : ra_Same.f 60 false [6] false [6] = some true := by decide +kernel
theorem aw_same16 : rb_Same.f 60 [3, 2] [3, 2] = some true := by decide +kernel
set_option maxHeartbeats 8000000 in
set_option maxRecDepth 100000 in
theorem awake_calls (w : World) : Calls Try.prog 21 #[] w fun e w' => e = .returned (.bool true) ∧ Below w.heap.size w w' := by
  have CO : Aside0 (∀ (W : World) A, AG W A [[1, 2, 0], [1, 0, 2]] → Calls Try.prog 15 #[.int .i64 3, .slice A 2 2] W fun e w' => ∃ A c, e = .returned (.tuple #[.agg #[.bool false, .slice A 1 c], .int .i64 0]) ∧ Aside0 (Kd.C (Kd.int .u32) w' A 1 [6]) ∧ 1 ≤ c ∧ Below W.heap.size W w') := ⟨fun W A hA => by
    refine (sc_Order.calls 60 3 A 2 [[1, 2, 0], [1, 0, 2]] false [6] 0 W hA (by simp) aw_order).mono ?_
    rintro e w' ⟨v, rfl, hV, hb⟩; obtain ⟨A, c, rfl⟩ := Kd.V_slice hV; obtain ⟨-, h3, h4⟩ := Kd.V_reads' hV
    exact ⟨A, c, rfl, ⟨h4⟩, h3, hb⟩⟩
  have CL : Aside0 (∀ (W : World) A A', AG W A [[1, 2, 0], [1, 0, 2]] → Kd.C (Kd.int .i64) W A' 2 [0, 1] → Calls Try.prog 30 #[.int .i64 3, .slice A 2 2, .slice A' 2 2] W fun e w' => ∃ A c, e = .returned (.tuple #[.slice A 2 c, .int .i64 0]) ∧ Aside0 (Kd.C (Kd.int .i64) w' A 2 [3, 2]) ∧ 2 ≤ c ∧ Below W.heap.size W w') := ⟨fun W A A' hA hA' => by
    refine (sc_Lengths.calls 60 3 A 2 [[1, 2, 0], [1, 0, 2]] A' 2 [0, 1] [3, 2] 0 W hA (by simp) hA' (by simp) aw_lengths).mono ?_
    rintro e w' ⟨v, rfl, hR, hb⟩; obtain ⟨A, c, rfl, hl, hC⟩ := Kd.R_reads hR
    exact ⟨A, c, rfl, ⟨hC⟩, hl, hb⟩⟩
  have CI : Aside0 (∀ (W : World) A A', AG W A [[1, 2, 3, 0]] ∧ Kd.C (Kd.int .i64) W A' 4 [2, 3, 0, 1] → Calls Try.prog 23 #[.int .i64 4, .slice A 1 1, .slice A' 4 4] W fun e w' => e = .returned (.tuple #[.bool true, .int .i64 0]) ∧ Below W.heap.size W w') := ⟨fun W A A' h => sc_Contains.calls 60 4 A 1 [[1, 2, 3, 0]] A' 4 [2, 3, 0, 1] true 0 W h.1 (by simp) h.2 (by simp) aw_in⟩
  have CX : Aside0 (∀ (W : World) A A', AG W A [[1, 2, 3, 0]] ∧ Kd.C (Kd.int .i64) W A' 4 [1, 0, 2, 3] → Calls Try.prog 23 #[.int .i64 4, .slice A 1 1, .slice A' 4 4] W fun e w' => e = .returned (.tuple #[.bool false, .int .i64 0]) ∧ Below W.heap.size W w') := ⟨fun W A A' h => sc_Contains.calls 60 4 A 1 [[1, 2, 3, 0]] A' 4 [1, 0, 2, 3] false 0 W h.1 (by simp) h.2 (by simp) aw_out⟩
  go_enter Try.func21, Try.ntmps21
  go_upto_region 2 with (fail)
  obtain ⟨W1, hW1⟩ : ∃ W1, W1 = (((w.alloc (.cells #[.int .i64 1, .int .i64 2, .int .i64 0] 3)).alloc (.cells #[.int .i64 1, .int .i64 0, .int .i64 2] 3)).alloc (.cells #[.slice (some ⟨w.heap.size, 0, none⟩) 3 3, .slice (some ⟨w.heap.size + 1, 0, none⟩) 3 3] 28)) := ⟨_, rfl⟩
  obtain ⟨g, hg⟩ : ∃ g, g = w.heap.size + 1 + 1 := ⟨_, rfl⟩
  rw [← hW1, ← hg]
  have HB1 : Aside0 (Below w.heap.size w W1) := ⟨by rw [hW1]; exact pzB (pzB (pzB (Below.refl _ _) _) _) _⟩
  have HG1 : Aside0 (AG W1 (some ⟨g, 0, none⟩) [[1, 2, 0], [1, 0, 2]]) := ⟨by
    rw [hW1, hg]; refine C_rows (blk_at (by simp only [World.size_alloc])) (fun j p hp => ?_) (by simp)
    match j, hp with
    | 0, hp =>
      cases hp; exact ⟨_, 3, rfl, by simp, C_lit (xs := [1, 2, 0]) (pzI (blk_new w _) (pzB (pzB (Below.refl _ _) _) _)) (fun j hj => by match j, hj with | 0, _ => rfl | 1, _ => rfl | 2, _ => rfl) (by simp)⟩
    | 1, hp =>
      cases hp
      exact ⟨_, 3, rfl, by simp, C_lit (xs := [1, 0, 2]) (pzI (blk_at (by simp only [World.size_alloc])) (pzB (Below.refl _ _) _)) (fun j hj => by match j, hj with | 0, _ => rfl | 1, _ => rfl | 2, _ => rfl) (by simp)⟩⟩
  clear hW1 hg
  go_upto_region 3 with (first | ((with_reducible refine pzQ (N := 2) rfl ?_); refine pzR ?hg (N := 2) ?hd (cs := #[.bool false, .slice none 0 0]) (t := 24) ?hr ?_; (case hd => rfl); (case hg => rfl); (case hr => first | (go_simp; done) | (go_simp; rfl)); intro gb hgb w6 hbox hb; have GB := Aside0.mk hbox; have hg0 := (pzH GB.out 0).trans (show _ = some (Value.bool false) from rfl); have hg1 := (pzH GB.out 1).trans (show _ = some (Value.slice none 0 0) from rfl); have hg2 := pzK GB.out 0; have hg3 := pzK GB.out 1; have HB6 := Aside0.mk hb; have HGB := Aside0.mk hgb; clear hgb hbox hb) | (go_at_call 15; (with_reducible refine (CO.out _ _ HG1.out).mono ?_); rintro e w5 ⟨A5, c5, rfl, HC5, hc5, hb5⟩; have HB5 : Aside0 (Below w.heap.size w w5) := ⟨pyD HB1.out HB1.out.size hb5⟩; have HG5 : Aside0 (AG w5 (some ⟨g, 0, none⟩) [[1, 2, 0], [1, 0, 2]]) := ⟨Kd.C_below HG1.out hb5⟩; clear hb5))
  obtain ⟨W2, hW2⟩ : ∃ W2, W2 = ((w6.setCell ⟨gb, 0, none⟩ (.bool false)).setCell ⟨gb, 1, none⟩ (.slice A5 1 c5)) := ⟨_, rfl⟩
  rw [← hW2]
  have hgw : w5.heap.size ≤ gb := by rw [HGB.out]; exact Nat.le_refl _
  have hb2 : Below w5.heap.size w5 W2 := by rw [hW2]; exact pzD (pzD HB6.out hgw) hgw
  have HX2 : Aside0 (W2.heap[gb]? = some (.cells #[.bool false, .slice A5 1 c5] 24 (0, 0))) := ⟨by rw [hW2]; refine pyC (cs := #[.bool false, .slice none 0 0]) ?_ 1 _ rfl; refine pyC (cs := #[.bool false, .slice none 0 0]) ?_ 0 _ rfl; exact GB.out⟩
  have HB2 : Aside0 (Below w.heap.size w W2) := ⟨pyD HB5.out HB5.out.size hb2⟩
  have HG2 : Aside0 (AG W2 (some ⟨g, 0, none⟩) [[1, 2, 0], [1, 0, 2]]) := ⟨Kd.C_below HG5.out hb2⟩
  have HC2 : Aside0 (Kd.C (Kd.int .u32) W2 A5 1 [6]) := ⟨Kd.C_below HC5.out hb2⟩
  clear hW2 hgw hb2 hg0 hg1 hg2 hg3 CO HB5 HG5 HC5 HB1 HG1 GB HB6 HGB
  go_upto_region 6 with (first | (go_at_call 30; (with_reducible refine (CL.out _ _ _ ?hA ?hL).mono ?_); (case hA => exact Kd.C_below HG2.out (pzB (Below.refl _ _) _)); (case hL => exact C_lit (xs := [0, 1]) (blk_new _ _) (fun j hj => by match j, hj with | 0, _ => rfl | 1, _ => rfl) (by simp)); rintro e w7 ⟨A7, c7, rfl, HC7, hc7, hb7⟩; have HB7 : Aside0 (Below W2.heap.size W2 w7) := ⟨pyD (pzB (Below.refl _ _) _) (pzB (Below.refl _ _) _).size hb7⟩; clear hb7) | (go_at_call 23; (with_reducible refine (CI.out _ _ _ ?hA).mono ?_); (case hA => exact lits4 _ _ _ _ _ _ _ _ _); rintro e w8 ⟨rfl, hb8⟩; have HB8 : Aside0 (Below w7.heap.size w7 w8) := ⟨pyD (pzB (pzB (pzB (Below.refl _ _) _) _) _) (pzB (pzB (pzB (Below.refl _ _) _) _) _).size hb8⟩; clear hb8) | (go_at_call 23; (with_reducible refine (CX.out _ _ _ ?hA).mono ?_); (case hA => exact lits4 _ _ _ _ _ _ _ _ _); rintro e w9 ⟨rfl, hb9⟩; have HB9 : Aside0 (Below w8.heap.size w8 w9) := ⟨pyD (pzB (pzB (pzB (Below.refl _ _) _) _) _) (pzB (pzB (pzB (Below.refl _ _) _) _) _).size hb9⟩; clear hb9))
  have HBA : Aside0 (Below w7.heap.size w7 w9) := ⟨pyD HB8.out HB8.out.size HB9.out⟩
  have HBB : Aside0 (Below W2.heap.size W2 w9) := ⟨pyD HB7.out HB7.out.size HBA.out⟩
  have HC9 : Aside0 (Kd.C (Kd.int .i64) w9 A7 2 [3, 2]) := ⟨Kd.C_below HC7.out HBA.out⟩
  have HD9 : Aside0 (Kd.C (Kd.int .u32) w9 A5 1 [6]) := ⟨Kd.C_below HC2.out HBB.out⟩
  have HKP : Aside0 (∀ W : World, Below w9.heap.size w9 W → W.cell? ⟨gb, 0, none⟩ = some (.bool false) ∧ W.cell? ⟨gb, 1, none⟩ = some (.slice A5 1 c5)) := ⟨fun W hW => ⟨pzH (pzI (pzI HX2.out HBB.out) hW) 0, pzH (pzI (pzI HX2.out HBB.out) hW) 1⟩⟩
  have CS : Aside0 (∀ W : World, Below w9.heap.size w9 W → Calls Try.prog 17 #[.int .i64 6] W fun e w' => ∃ A c, e = .returned (.agg #[.bool false, .slice A 1 c]) ∧ 1 ≤ c ∧ Below w9.heap.size w9 w' ∧ ∀ W2, Below w'.heap.size w' W2 → Kd.C (Kd.int .u32) W2 A 1 [6]) := ⟨fun W hW => by
    refine (ra_Small.calls 6 false [6] W aw_small).mono ?_
    rintro e w' ⟨v, rfl, hR, hb⟩; obtain ⟨A, c, rfl, hl, hC⟩ := Kd.R_reads hR
    exact ⟨A, c, rfl, hl, pyD hW hW.size hb, fun W2 h2 => Kd.C_below hC h2⟩⟩
  have CE : Aside0 (∀ (W : World) A c, Below w9.heap.size w9 W → Kd.C (Kd.int .u32) W A 1 [6] → 1 ≤ c → Calls Try.prog 16 #[.agg #[.bool false, .slice A5 1 c5], .agg #[.bool false, .slice A 1 c]] W fun e w' => e = .returned (.bool true) ∧ Below w9.heap.size w9 w') := ⟨fun W A c hW hA hc => by
    refine (ra_Same.calls 60 false A5 c5 [6] false A c [6] true W (Kd.C_below HD9.out hW) hc5 hA hc aw_same).mono ?_
    rintro e w' ⟨rfl, hb⟩
    exact ⟨rfl, pyD hW hW.size hb⟩⟩
  have CF : Aside0 (∀ (W : World) A, Below w9.heap.size w9 W → Kd.C (Kd.int .i64) W A 2 [3, 2] → Calls Try.prog 32 #[.slice A7 2 c7, .slice A 2 2] W fun e w' => e = .returned (.bool true) ∧ Below w9.heap.size w9 w') := ⟨fun W A hW hA => by
    refine (rb_Same.calls 60 A7 c7 [3, 2] A 2 [3, 2] true W (Kd.C_below HC9.out hW) hc7 hA (by simp) aw_same16).mono ?_
    rintro e w' ⟨rfl, hb⟩
    exact ⟨rfl, pyD hW hW.size hb.below⟩⟩
  have HBZ : Aside0 (Below w.heap.size w w9) := ⟨pyD HB2.out HB2.out.size HBB.out⟩
  clear CL CI CX HB2 HG2 HC2 HX2 HB7 HB8 HB9 HBA HBB HC7
  go_region_held3 (fun W' => W'.cell? ⟨gb, 0, none⟩ = some (.bool false) ∧ W'.cell? ⟨gb, 1, none⟩ = some (.slice A5 1 c5)) ((refine HKP.out _ ?_; (repeat' (first | with_reducible exact Below.refl _ _ | with_reducible exact hbF | with_reducible exact hbE | with_reducible exact hbS | with_reducible apply pzC | with_reducible apply pzB)))) (first | (go_at_call 17; (with_reducible refine (CS.out _ ?hW).mono ?_); (case hW => (repeat' (first | with_reducible exact Below.refl _ _ | with_reducible apply pzC | with_reducible apply pzB))); rintro e ws ⟨As, cs, rfl, hcs, hbS, hVS⟩) | (go_at_call 16; (with_reducible refine (CE.out _ As cs ?hW ?hV hcs).mono ?_); (case hW => (repeat' (first | with_reducible exact hbS | with_reducible apply pzC | with_reducible apply pzB))); (case hV => (refine hVS _ ?_; (repeat' (first | with_reducible exact Below.refl _ _ | with_reducible apply pzC | with_reducible apply pzB)))); rintro e we ⟨rfl, hbE⟩) | (go_at_call 32; (with_reducible refine (CF.out _ _ ?hW ?hV).mono ?_); (case hW => (repeat' (first | with_reducible exact hbE | with_reducible exact hbS | with_reducible apply pzC | with_reducible apply pzB))); (case hV => exact C_lit (xs := [3, 2]) (blk_new _ _) (fun j hj => by match j, hj with | 0, _ => rfl | 1, _ => rfl) (by simp)); rintro e wf ⟨rfl, hbF⟩))
  all_goals
    go_wp2_with (fail)
    go_ret
    exact ⟨rfl, pyD HBZ.out HBZ.out.size hbF⟩
theorem lw_awake.le : ∀ k d, LeO (lw_awake.f k) (lw_awake.f (k + d))
  | k, 0 => LeO.refl _
  | k, d + 1 => fun r h => lw_awake.mono (k + d) r (lw_awake.le k d r h)
set_option maxRecDepth 100000 in
theorem lw_awake.yes : lw_awake.f 60 = some true := by decide +kernel
theorem lw_awake.only {k : Nat} {r : Bool} (h : lw_awake.f k = some r) : r = true := by
  have h1 := lw_awake.le k 60 r h; have h2 := lw_awake.le 60 k true lw_awake.yes
  rw [Nat.add_comm] at h2
  exact Option.some.inj (h1.symm.trans h2)
theorem lw_awake.calls (k : Nat)  (r : Bool) (w : World) (h : lw_awake.f k  = some r) :
    Calls Try.prog 21 #[] w fun e w' => e = .returned (.bool r) ∧ Below w.heap.size w w' := by
  exact by rw [lw_awake.only h]; exact awake_calls w
end Go.Proofs.Ytpkgckccfanchaa.M

namespace Go.Proofs.Ytpkgckccfanchaa.M
open Go.RowKit YtpkgckccfanchaaW.PrintWords YtpkgckccfanchaaW.PrintLast YtpkgckccfanchaaW.PrintMore
attribute [local go_sem] pzW pzX pzY pzZ pzS pzT pzU pzV
set_option linter.unusedVariables false
set_option linter.unusedSimpArgs false
def rb_Inverse.f (k : Nat) (l0 : List Int) : Option (List Int × Bool) := (rb_Valid.f k l0).bind fun t419 => (if t419 = true then ((rb_inverse.f k l0).bind fun t420 => (some (t420, true))) else (some (([] : List Int), false)))
theorem rb_Inverse.mono : ∀ a0 k, LeO (rb_Inverse.f k a0) (rb_Inverse.f (k + 1) a0) := by
  intro a0 k
  unfold rb_Inverse.f
  repeat' first
      | (with_reducible exact rb_Valid.mono _ _)
      | (with_reducible exact rb_inverse.mono _ _)
      | (with_reducible exact LeO.refl _)
      | (with_reducible exact LeO.none _)
      | (with_reducible refine LeO.ite ?_ ?_)
      | (with_reducible refine LeO.bind ?_ (fun _ => ?_))
      | exact rb_Valid.mono _ _
      | exact rb_inverse.mono _ _
      | exact LeO.none _
      | refine LeO.ite ?_ ?_
      | refine LeO.bind ?_ (fun _ => ?_)
set_option maxHeartbeats 8000000 in
set_option maxRecDepth 100000 in
theorem rb_Inverse.calls (k : Nat) (A0 : Option Addr) (c0 : Nat) (l0 : List Int) (r1 : List Int) (r2 : Bool) (w : World) (hr0 : Kd.C (Kd.int .i64) w A0 l0.length l0) (hc0 : l0.length ≤ c0) (h : rb_Inverse.f k l0 = some (r1, r2)) :
    Calls Try.prog 26 #[.slice A0 l0.length c0] w fun e w' => ∃ v0_ : Value, e = .returned (.tuple #[v0_, .bool r2]) ∧ Kd.R (Kd.int .i64) 3 w' w.heap.size (fun _ => True) v0_ r1 ∧ Below w.heap.size w w' := by
  have HR0 := Aside0.mk hr0; have HC0 := Aside0.mk hc0; clear hr0 hc0; have HB := Aside0.mk (Below.refl w.heap.size w); have H : ((rb_Valid.f k l0).bind fun t419 => (if t419 = true then ((rb_inverse.f k l0).bind fun t420 => (some (t420, true))) else (some (([] : List Int), false)))) = some (r1, r2) := h; clear h; replace H := Option.bind_eq_some_iff.mp H; obtain ⟨t419, A20, H⟩ := H; replace H : (if t419 = true then ((rb_inverse.f k l0).bind fun t420 => (some (t420, true))) else (some (([] : List Int), false))) = some (r1, r2) := H; have A2 := Aside0.mk A20; clear A20
  by_cases c3 : t419 = true
  · subst c3
    have H1 : ((rb_inverse.f k l0).bind fun t420 => (some (t420, true))) = some (r1, r2) := by rw [if_pos rfl] at H; exact H
    clear H; have H := H1; clear H1; replace H := Option.bind_eq_some_iff.mp H; obtain ⟨t420, A40, H⟩ := H; replace H : (some (t420, true)) = some (r1, r2) := H; have A4 := Aside0.mk A40; clear A40
    simp only [Option.some.injEq, Prod.mk.injEq] at H
    obtain ⟨rfl, rfl⟩ := H
    go_enter Try.func26, Try.ntmps26
    go_wp2_with (first | ((with_reducible refine pzP (f := 57) rfl ?_); refine pyH (some 5) rfl rfl Try.func57 (by kernel_rfl) rfl #[.slice A0 l0.length c0] rfl (by (try simp only [List.map_toArray, List.map_cons, List.map_nil]); first | done | rfl | (simp only [List.length_drop, List.length_take]; rfl)) ?_; (with_reducible refine (rb_Valid.calls k _ _ l0 true _ ?side1 ?side2 A2.out).mono ?_); (case side1 => repeat (first | exact HR0.out | (with_reducible refine Kd.C_alloc ?_ _) | (with_reducible refine Kd.C_drewN ?_ _) | (with_reducible refine Kd.C_drew ?_))); (case side2 => exact HC0.out); rintro e w5 ⟨rfl, hb⟩; refine ⟨_, rfl, ?_⟩; have n0_ := Aside0.mk (pzL (by repeat (first | (with_reducible first | exact HB.out | apply pzB | apply pzA | apply pzC) | exact HB.out)) hb); clear HB; have HB := n0_; clear n0_; (try clear hb); (try clear hb2); (try clear hk); (try clear hi)) | ((with_reducible refine pzP (f := 59) rfl ?_); refine pyH (some 8) rfl rfl Try.func59 (by kernel_rfl) rfl #[.slice A0 l0.length c0] rfl (by (try simp only [List.map_toArray, List.map_cons, List.map_nil]); first | done | rfl | (simp only [List.length_drop, List.length_take]; rfl)) ?_; (with_reducible refine (rb_inverse.calls k _ _ l0 t420 _ ?side1 ?side2 A4.out).mono ?_); (case side1 => repeat (first | exact (Kd.C_below HR0.out HB.out) | (with_reducible refine Kd.C_alloc ?_ _) | (with_reducible refine Kd.C_drewN ?_ _) | (with_reducible refine Kd.C_drew ?_))); (case side2 => exact HC0.out); rintro e w6 ⟨v421, rfl, ho0, hb⟩; refine ⟨_, rfl, ?_⟩; have n0_ := Aside0.mk (Kd.R_lower ho0 (pzJ (by repeat (first | (with_reducible first | exact HB.out | apply pzB | apply pzA | apply pzC) | exact HB.out)))); have n1_ := Aside0.mk (pzL (by repeat (first | (with_reducible first | exact HB.out | apply pzB | apply pzA | apply pzC) | exact HB.out)) hb); clear HB; have HO422 := n0_; have HB := n1_; clear n0_ n1_; (try clear hb); (try clear hb2); (try clear hk); (try clear hi); (try clear ho0)))
    go_ret2
    exact ⟨_, by first | rfl | (simp [pzN, pzM] <;> rfl) | (simp [*, pzN, pzM] <;> rfl), by (with_reducible repeat (first | apply Kd.R_alloc | apply Kd.R_drewN | apply Kd.R_drew)); exact HO422.out, by repeat (first | (with_reducible first | exact HB.out | apply pzB | apply pzA | apply pzC) | exact HB.out)⟩
  · replace c3 := Bool.eq_false_iff.mpr c3
    subst c3
    have H1 : (some (([] : List Int), false)) = some (r1, r2) := by rw [if_neg (show ¬ (false = true) by decide)] at H; exact H
    clear H; have H := H1; clear H1
    simp only [Option.some.injEq, Prod.mk.injEq] at H
    obtain ⟨rfl, rfl⟩ := H
    go_enter Try.func26, Try.ntmps26
    go_wp2_with (first | ((with_reducible refine pzP (f := 57) rfl ?_); refine pyH (some 5) rfl rfl Try.func57 (by kernel_rfl) rfl #[.slice A0 l0.length c0] rfl (by (try simp only [List.map_toArray, List.map_cons, List.map_nil]); first | done | rfl | (simp only [List.length_drop, List.length_take]; rfl)) ?_; (with_reducible refine (rb_Valid.calls k _ _ l0 false _ ?side1 ?side2 A2.out).mono ?_); (case side1 => repeat (first | exact HR0.out | (with_reducible refine Kd.C_alloc ?_ _) | (with_reducible refine Kd.C_drewN ?_ _) | (with_reducible refine Kd.C_drew ?_))); (case side2 => exact HC0.out); rintro e w7 ⟨rfl, hb⟩; refine ⟨_, rfl, ?_⟩; have n0_ := Aside0.mk (pzL (by repeat (first | (with_reducible first | exact HB.out | apply pzB | apply pzA | apply pzC) | exact HB.out)) hb); clear HB; have HB := n0_; clear n0_; (try clear hb); (try clear hb2); (try clear hk); (try clear hi)))
    go_ret2
    exact ⟨_, by first | rfl | (simp [pzN, pzM] <;> rfl) | (simp [*, pzN, pzM] <;> rfl), by first | exact Kd.R_nil _ _ _ _ _ | exact Kd.N_nil _ _ _ _ _ | exact Kd.V_nil _ _ _ _ _ | exact Kd.Q_nil _ _ _ _ _ | exact Kd.S_nil _ _ _ _ _, by repeat (first | (with_reducible first | exact HB.out | apply pzB | apply pzA | apply pzC) | exact HB.out)⟩
end Go.Proofs.Ytpkgckccfanchaa.M

namespace Go.Proofs.Ytpkgckccfanchaa.M
open Go.RowKit YtpkgckccfanchaaW.PrintWords YtpkgckccfanchaaW.PrintLast YtpkgckccfanchaaW.PrintMore
attribute [local go_sem] pzW pzX pzY pzZ pzS pzT pzU pzV
set_option linter.unusedVariables false
set_option linter.unusedSimpArgs false
def rb_Compose.f (k : Nat) (l0 : List Int) (l1 : List Int) : Option (List Int × Bool) := (rb_Valid.f k l0).bind fun t423 => (if t423 = true then ((rb_Valid.f k l1).bind fun t424 => (if t424 = true then (if (l0.length : Int) = (l1.length : Int) then ((rb_product.f k l0 l1).bind fun t425 => (some (t425, true))) else (some (([] : List Int), false))) else (some (([] : List Int), false)))) else (some (([] : List Int), false)))
theorem rb_Compose.mono : ∀ a0 a1 k, LeO (rb_Compose.f k a0 a1) (rb_Compose.f (k + 1) a0 a1) := by
  intro a0 a1 k
  unfold rb_Compose.f
  repeat' first
      | (with_reducible exact rb_Valid.mono _ _)
      | (with_reducible exact rb_product.mono _ _ _)
      | (with_reducible exact LeO.refl _)
      | (with_reducible exact LeO.none _)
      | (with_reducible refine LeO.ite ?_ ?_)
      | (with_reducible refine LeO.bind ?_ (fun _ => ?_))
      | exact rb_Valid.mono _ _
      | exact rb_product.mono _ _ _
      | exact LeO.none _
      | refine LeO.ite ?_ ?_
      | refine LeO.bind ?_ (fun _ => ?_)
set_option maxHeartbeats 8000000 in
set_option maxRecDepth 100000 in
theorem rb_Compose.calls (k : Nat) (A0 : Option Addr) (c0 : Nat) (l0 : List Int) (A1 : Option Addr) (c1 : Nat) (l1 : List Int) (r1 : List Int) (r2 : Bool) (w : World) (hr0 : Kd.C (Kd.int .i64) w A0 l0.length l0) (hc0 : l0.length ≤ c0) (hr1 : Kd.C (Kd.int .i64) w A1 l1.length l1) (hc1 : l1.length ≤ c1) (h : rb_Compose.f k l0 l1 = some (r1, r2)) :
    Calls Try.prog 27 #[.slice A0 l0.length c0, .slice A1 l1.length c1] w fun e w' => ∃ v0_ : Value, e = .returned (.tuple #[v0_, .bool r2]) ∧ Kd.R (Kd.int .i64) 3 w' w.heap.size (fun _ => True) v0_ r1 ∧ Below w.heap.size w w' := by
  have HR0 := Aside0.mk hr0; have HC0 := Aside0.mk hc0; clear hr0 hc0; have HR1 := Aside0.mk hr1; have HC1 := Aside0.mk hc1; clear hr1 hc1; have HB := Aside0.mk (Below.refl w.heap.size w); have H : ((rb_Valid.f k l0).bind fun t423 => (if t423 = true then ((rb_Valid.f k l1).bind fun t424 => (if t424 = true then (if (l0.length : Int) = (l1.length : Int) then ((rb_product.f k l0 l1).bind fun t425 => (some (t425, true))) else (some (([] : List Int), false))) else (some (([] : List Int), false)))) else (some (([] : List Int), false)))) = some (r1, r2) := h; clear h; replace H := Option.bind_eq_some_iff.mp H; obtain ⟨t423, A30, H⟩ := H; replace H : (if t423 = true then ((rb_Valid.f k l1).bind fun t424 => (if t424 = true then (if (l0.length : Int) = (l1.length : Int) then ((rb_product.f k l0 l1).bind fun t425 => (some (t425, true))) else (some (([] : List Int), false))) else (some (([] : List Int), false)))) else (some (([] : List Int), false))) = some (r1, r2) := H; have A3 := Aside0.mk A30; clear A30
  by_cases c4 : t423 = true
  · subst c4
    have H1 : ((rb_Valid.f k l1).bind fun t424 => (if t424 = true then (if (l0.length : Int) = (l1.length : Int) then ((rb_product.f k l0 l1).bind fun t425 => (some (t425, true))) else (some (([] : List Int), false))) else (some (([] : List Int), false)))) = some (r1, r2) := by rw [if_pos rfl] at H; exact H
    clear H; have H := H1; clear H1; replace H := Option.bind_eq_some_iff.mp H; obtain ⟨t424, A50, H⟩ := H; replace H : (if t424 = true then (if (l0.length : Int) = (l1.length : Int) then ((rb_product.f k l0 l1).bind fun t425 => (some (t425, true))) else (some (([] : List Int), false))) else (some (([] : List Int), false))) = some (r1, r2) := H; have A5 := Aside0.mk A50; clear A50
    by_cases c6 : t424 = true
    · subst c6
      have H1 : (if (l0.length : Int) = (l1.length : Int) then ((rb_product.f k l0 l1).bind fun t425 => (some (t425, true))) else (some (([] : List Int), false))) = some (r1, r2) := by rw [if_pos rfl] at H; exact H
      clear H; have H := H1; clear H1
      by_cases c7 : (l0.length : Int) = (l1.length : Int)
      · rw [if_pos c7] at H
        have c7b0 : ((l0.length : Int) == (l1.length : Int)) = true := beq_iff_eq.mpr c7; have c7b1 : ((l0.length : Int) != (l1.length : Int)) = false := bne_eq_false_iff_eq.mpr c7
        have c7b2 : (l0.length == l1.length) = true := by first | simpa using c7 | (simp at c7 ⊢; omega)
        clear c7; replace H := Option.bind_eq_some_iff.mp H; obtain ⟨t425, A80, H⟩ := H; replace H : (some (t425, true)) = some (r1, r2) := H; have A8 := Aside0.mk A80; clear A80
        simp only [Option.some.injEq, Prod.mk.injEq] at H
        obtain ⟨rfl, rfl⟩ := H
        go_enter Try.func27, Try.ntmps27
        go_wp2_with (first | ((with_reducible refine pzP (f := 57) rfl ?_); refine pyH (some 7) rfl rfl Try.func57 (by kernel_rfl) rfl #[.slice A0 l0.length c0] rfl (by (try simp only [List.map_toArray, List.map_cons, List.map_nil]); first | done | rfl | (simp only [List.length_drop, List.length_take]; rfl)) ?_; (with_reducible refine (rb_Valid.calls k _ _ l0 true _ ?side1 ?side2 A3.out).mono ?_); (case side1 => repeat (first | exact HR0.out | (with_reducible refine Kd.C_alloc ?_ _) | (with_reducible refine Kd.C_drewN ?_ _) | (with_reducible refine Kd.C_drew ?_))); (case side2 => exact HC0.out); rintro e w9 ⟨rfl, hb⟩; refine ⟨_, rfl, ?_⟩; have n0_ := Aside0.mk (pzL (by repeat (first | (with_reducible first | exact HB.out | apply pzB | apply pzA | apply pzC) | exact HB.out)) hb); clear HB; have HB := n0_; clear n0_; (try clear hb); (try clear hb2); (try clear hk); (try clear hi)) | (go_at_call 57; (with_reducible refine (rb_Valid.calls k _ _ l1 true _ ?side1 ?side2 A5.out).mono ?_); (case side1 => repeat (first | exact (Kd.C_below HR1.out HB.out) | (with_reducible refine Kd.C_alloc ?_ _) | (with_reducible refine Kd.C_drewN ?_ _) | (with_reducible refine Kd.C_drew ?_))); (case side2 => exact HC1.out); rintro e w10 ⟨rfl, hb⟩; have n0_ := Aside0.mk (pzL (by repeat (first | (with_reducible first | exact HB.out | apply pzB | apply pzA | apply pzC) | exact HB.out)) hb); clear HB; have HB := n0_; clear n0_; (try clear hb); (try clear hb2); (try clear hk); (try clear hi)) | ((with_reducible refine pzP (f := 60) rfl ?_); refine pyH (some 23) rfl rfl Try.func60 (by kernel_rfl) rfl #[.slice A0 l0.length c0, .slice A1 l1.length c1] rfl (by (try simp only [List.map_toArray, List.map_cons, List.map_nil]); first | done | rfl | (simp only [List.length_drop, List.length_take]; rfl)) ?_; (with_reducible refine (rb_product.calls k _ _ l0 _ _ l1 t425 _ ?side1 ?side2 ?side3 ?side4 A8.out).mono ?_); (case side1 => repeat (first | exact (Kd.C_below HR0.out HB.out) | (with_reducible refine Kd.C_alloc ?_ _) | (with_reducible refine Kd.C_drewN ?_ _) | (with_reducible refine Kd.C_drew ?_))); (case side2 => exact HC0.out); (case side3 => repeat (first | exact (Kd.C_below HR1.out HB.out) | (with_reducible refine Kd.C_alloc ?_ _) | (with_reducible refine Kd.C_drewN ?_ _) | (with_reducible refine Kd.C_drew ?_))); (case side4 => exact HC1.out); rintro e w11 ⟨v426, rfl, ho0, hb⟩; refine ⟨_, rfl, ?_⟩; have n0_ := Aside0.mk (Kd.R_lower ho0 (pzJ (by repeat (first | (with_reducible first | exact HB.out | apply pzB | apply pzA | apply pzC) | exact HB.out)))); have n1_ := Aside0.mk (pzL (by repeat (first | (with_reducible first | exact HB.out | apply pzB | apply pzA | apply pzC) | exact HB.out)) hb); clear HB; have HO427 := n0_; have HB := n1_; clear n0_ n1_; (try clear hb); (try clear hb2); (try clear hk); (try clear hi); (try clear ho0)))
        go_ret2
        exact ⟨_, by first | rfl | (simp [pzN, pzM] <;> rfl) | (simp [*, pzN, pzM] <;> rfl), by (with_reducible repeat (first | apply Kd.R_alloc | apply Kd.R_drewN | apply Kd.R_drew)); exact HO427.out, by repeat (first | (with_reducible first | exact HB.out | apply pzB | apply pzA | apply pzC) | exact HB.out)⟩
      · rw [if_neg c7] at H
        have c7b0 : ((l0.length : Int) == (l1.length : Int)) = false := beq_eq_false_iff_ne.mpr c7; have c7b1 : ((l0.length : Int) != (l1.length : Int)) = true := bne_iff_ne.mpr c7
        have c7b2 : (l0.length == l1.length) = false := by first | simpa using c7 | (simp at c7 ⊢; omega)
        simp only [Option.some.injEq, Prod.mk.injEq] at H
        obtain ⟨rfl, rfl⟩ := H
        go_enter Try.func27, Try.ntmps27
        go_wp2_with (first | ((with_reducible refine pzP (f := 57) rfl ?_); refine pyH (some 7) rfl rfl Try.func57 (by kernel_rfl) rfl #[.slice A0 l0.length c0] rfl (by (try simp only [List.map_toArray, List.map_cons, List.map_nil]); first | done | rfl | (simp only [List.length_drop, List.length_take]; rfl)) ?_; (with_reducible refine (rb_Valid.calls k _ _ l0 true _ ?side1 ?side2 A3.out).mono ?_); (case side1 => repeat (first | exact HR0.out | (with_reducible refine Kd.C_alloc ?_ _) | (with_reducible refine Kd.C_drewN ?_ _) | (with_reducible refine Kd.C_drew ?_))); (case side2 => exact HC0.out); rintro e w12 ⟨rfl, hb⟩; refine ⟨_, rfl, ?_⟩; have n0_ := Aside0.mk (pzL (by repeat (first | (with_reducible first | exact HB.out | apply pzB | apply pzA | apply pzC) | exact HB.out)) hb); clear HB; have HB := n0_; clear n0_; (try clear hb); (try clear hb2); (try clear hk); (try clear hi)) | (go_at_call 57; (with_reducible refine (rb_Valid.calls k _ _ l1 true _ ?side1 ?side2 A5.out).mono ?_); (case side1 => repeat (first | exact (Kd.C_below HR1.out HB.out) | (with_reducible refine Kd.C_alloc ?_ _) | (with_reducible refine Kd.C_drewN ?_ _) | (with_reducible refine Kd.C_drew ?_))); (case side2 => exact HC1.out); rintro e w13 ⟨rfl, hb⟩; have n0_ := Aside0.mk (pzL (by repeat (first | (with_reducible first | exact HB.out | apply pzB | apply pzA | apply pzC) | exact HB.out)) hb); clear HB; have HB := n0_; clear n0_; (try clear hb); (try clear hb2); (try clear hk); (try clear hi)))
        go_ret2
        exact ⟨_, by first | rfl | (simp [pzN, pzM] <;> rfl) | (simp [*, pzN, pzM] <;> rfl), by first | exact Kd.R_nil _ _ _ _ _ | exact Kd.N_nil _ _ _ _ _ | exact Kd.V_nil _ _ _ _ _ | exact Kd.Q_nil _ _ _ _ _ | exact Kd.S_nil _ _ _ _ _, by repeat (first | (with_reducible first | exact HB.out | apply pzB | apply pzA | apply pzC) | exact HB.out)⟩
    · replace c6 := Bool.eq_false_iff.mpr c6
      subst c6
      have H1 : (some (([] : List Int), false)) = some (r1, r2) := by rw [if_neg (show ¬ (false = true) by decide)] at H; exact H
      clear H; have H := H1; clear H1
      simp only [Option.some.injEq, Prod.mk.injEq] at H
      obtain ⟨rfl, rfl⟩ := H
      go_enter Try.func27, Try.ntmps27
      go_wp2_with (first | ((with_reducible refine pzP (f := 57) rfl ?_); refine pyH (some 7) rfl rfl Try.func57 (by kernel_rfl) rfl #[.slice A0 l0.length c0] rfl (by (try simp only [List.map_toArray, List.map_cons, List.map_nil]); first | done | rfl | (simp only [List.length_drop, List.length_take]; rfl)) ?_; (with_reducible refine (rb_Valid.calls k _ _ l0 true _ ?side1 ?side2 A3.out).mono ?_); (case side1 => repeat (first | exact HR0.out | (with_reducible refine Kd.C_alloc ?_ _) | (with_reducible refine Kd.C_drewN ?_ _) | (with_reducible refine Kd.C_drew ?_))); (case side2 => exact HC0.out); rintro e w14 ⟨rfl, hb⟩; refine ⟨_, rfl, ?_⟩; have n0_ := Aside0.mk (pzL (by repeat (first | (with_reducible first | exact HB.out | apply pzB | apply pzA | apply pzC) | exact HB.out)) hb); clear HB; have HB := n0_; clear n0_; (try clear hb); (try clear hb2); (try clear hk); (try clear hi)) | (go_at_call 57; (with_reducible refine (rb_Valid.calls k _ _ l1 false _ ?side1 ?side2 A5.out).mono ?_); (case side1 => repeat (first | exact (Kd.C_below HR1.out HB.out) | (with_reducible refine Kd.C_alloc ?_ _) | (with_reducible refine Kd.C_drewN ?_ _) | (with_reducible refine Kd.C_drew ?_))); (case side2 => exact HC1.out); rintro e w15 ⟨rfl, hb⟩; have n0_ := Aside0.mk (pzL (by repeat (first | (with_reducible first | exact HB.out | apply pzB | apply pzA | apply pzC) | exact HB.out)) hb); clear HB; have HB := n0_; clear n0_; (try clear hb); (try clear hb2); (try clear hk); (try clear hi)))
      go_ret2
      exact ⟨_, by first | rfl | (simp [pzN, pzM] <;> rfl) | (simp [*, pzN, pzM] <;> rfl), by first | exact Kd.R_nil _ _ _ _ _ | exact Kd.N_nil _ _ _ _ _ | exact Kd.V_nil _ _ _ _ _ | exact Kd.Q_nil _ _ _ _ _ | exact Kd.S_nil _ _ _ _ _, by repeat (first | (with_reducible first | exact HB.out | apply pzB | apply pzA | apply pzC) | exact HB.out)⟩
  · replace c4 := Bool.eq_false_iff.mpr c4
    subst c4
    have H1 : (some (([] : List Int), false)) = some (r1, r2) := by rw [if_neg (show ¬ (false = true) by decide)] at H; exact H
    clear H; have H := H1; clear H1
    simp only [Option.some.injEq, Prod.mk.injEq] at H
    obtain ⟨rfl, rfl⟩ := H
    go_enter Try.func27, Try.ntmps27
    go_wp2_with (first | ((with_reducible refine pzP (f := 57) rfl ?_); refine pyH (some 7) rfl rfl Try.func57 (by kernel_rfl) rfl #[.slice A0 l0.length c0] rfl (by (try simp only [List.map_toArray, List.map_cons, List.map_nil]); first | done | rfl | (simp only [List.length_drop, List.length_take]; rfl)) ?_; (with_reducible refine (rb_Valid.calls k _ _ l0 false _ ?side1 ?side2 A3.out).mono ?_); (case side1 => repeat (first | exact HR0.out | (with_reducible refine Kd.C_alloc ?_ _) | (with_reducible refine Kd.C_drewN ?_ _) | (with_reducible refine Kd.C_drew ?_))); (case side2 => exact HC0.out); rintro e w16 ⟨rfl, hb⟩; refine ⟨_, rfl, ?_⟩; have n0_ := Aside0.mk (pzL (by repeat (first | (with_reducible first | exact HB.out | apply pzB | apply pzA | apply pzC) | exact HB.out)) hb); clear HB; have HB := n0_; clear n0_; (try clear hb); (try clear hb2); (try clear hk); (try clear hi)))
    go_ret2
    exact ⟨_, by first | rfl | (simp [pzN, pzM] <;> rfl) | (simp [*, pzN, pzM] <;> rfl), by first | exact Kd.R_nil _ _ _ _ _ | exact Kd.N_nil _ _ _ _ _ | exact Kd.V_nil _ _ _ _ _ | exact Kd.Q_nil _ _ _ _ _ | exact Kd.S_nil _ _ _ _ _, by repeat (first | (with_reducible first | exact HB.out | apply pzB | apply pzA | apply pzC) | exact HB.out)⟩
end Go.Proofs.Ytpkgckccfanchaa.M
