/- Part of the proof of StabchainLengths: texts of this claim, merged and pruned by wip/tools/merge2.py. -/
import Derived.Test.YtpkgckccfanchaaBStabchainLengths6
import Derived.Test.YtpkgckccfanchaaBStabchainLengths3
import Derived.Test.YtpkgckccfanchaaBStabchainLengths7
import Derived.Test.YtpkgckccfanchaaBStabchainLengths8

namespace Go.Proofs.Ytpkgckccfanchaa.M
open Go.RowKit Go.Proofs.YtpkgckccfanchaaW.PrintWords Go.Proofs.YtpkgckccfanchaaW.PrintLast Go.Proofs.YtpkgckccfanchaaW.PrintMore
open Sims
set_option linter.unusedVariables false
set_option linter.unusedSimpArgs false
theorem residue_zero {n : Nat} {p : List Int} {ok : Nat → Prop} {v : Value} {w : World} {B g : Nat} {PB : Nat → Prop} {av : Value} {cs : List LC} {ls : List Lv} (hn : 0 < n) (hn' : n ≤ 512) (hG : GrAt w B PB g n av cs ls) (hok : ∀ l ∈ ls, LvOk n l) (hv : PV w ok v p) (hp : IsP n p) (hlen : ls.length ≤ 1000000) :
    Calls Try.prog 93 #[.pointer (some ⟨g, 0, none⟩), .int .i64 0, v] w fun e w' => ∃ u, e = .returned u ∧ PV w' (fun _ => True) u (residF ls p) ∧ Below w.heap.size w w' :=
  residue_calls (k := 0) hn hn' hG (Nat.zero_le _) hok hv hp hlen
def inF (ls : List Lv) (p : List Int) : Bool := decide (movedL (residF ls p) < 0)
set_option maxHeartbeats 4000000 in
set_option maxRecDepth 100000 in
theorem has_calls {n : Nat} {p : List Int} {ok : Nat → Prop} {v : Value} {w : World} {B g : Nat} {PB : Nat → Prop} {av : Value} {cs : List LC} {ls : List Lv} (hn : 0 < n) (hn' : n ≤ 512) (hG : GrAt w B PB g n av cs ls) (hP : PC n [] ls) (hv : PV w ok v p) (hp : IsP n p) (hlen : ls.length ≤ 1000000) :
    Calls Try.prog 56 #[.pointer (some ⟨g, 0, none⟩), v] w fun e w' => e = .returned (.bool (inF ls p)) ∧ Below w.heap.size w w' := by
  have HG := Aside0.mk hG
  have HP := Aside0.mk hP
  have HV := Aside0.mk hv
  have HPP := Aside0.mk hp
  have HRI := Aside0.mk (resid_isP (PC_ok hP) hp)
  obtain ⟨A, c, rfl, -, -⟩ := PV.read hv
  clear hG hP hv hp
  go_enter Try.func56, Try.ntmps56
  go_wp2_with (first | (go_at_call 93; (with_reducible refine (residue_zero hn hn' HG.out (PC_ok HP.out) HV.out HPP.out hlen).mono ?_); rintro e w2 ⟨u, rfl, hU, hb⟩; have HU := Aside0.mk hU; have HB2 := Aside0.mk hb; clear hU hb) | (go_at_call 92; (with_reducible refine (moved_pv (by rw [HRI.out.len]; exact hn') HU.out).mono ?_); rintro e w3 ⟨rfl, hD⟩; have HD := Aside0.mk hD; clear hD))
  go_ret
  refine ⟨rfl, ?_⟩
  obtain ⟨nd, rfl⟩ := HD.out
  exact pw_below_drewN HB2.out nd
theorem C_one {w : World} {A : Option Addr} {c : Nat} {p : List Int} (h : Kd.C (Kd.int .i64) w A p.length p) (hc : p.length ≤ c) {W : World} (hb : Below w.heap.size w W) {g : Nat} (hg : W.heap[g]? = some (.cells #[.slice A p.length c] 28 (0, 0))) : Kd.C (Kd.slice 3 (Kd.int .i64)) W (some ⟨g, 0, none⟩) [p].length [p] := by
  refine ⟨rfl, by simp, fun _ => ⟨_, rfl, ?_⟩⟩
  intro j q hq
  match j, hq with
  | 0, hq =>
    cases hq
    refine ⟨[.slice A p.length c], rfl, ⟨A, c, rfl, hc, Kd.C_below h hb⟩, ?_⟩
    intro i u hu
    match i, hu with
    | 0, hu => cases hu; simpa [World.cell?, Addr.add] using by rw [hg]; rfl
theorem perms_one {k : Nat} {a0 : Int} {w W : World} {A : Option Addr} {c g : Nat} {p : List Int} {o : Bool} (h : Kd.C (Kd.int .i64) w A p.length p) (hc : p.length ≤ c) (hb : Below w.heap.size w W) (hg : W.heap[g]? = some (.cells #[.slice A p.length c] 28 (0, 0))) (hf : stabchain_permutations.f k a0 [p] = some o) :
    Calls Try.prog 55 #[.int .i64 a0, .slice (some ⟨g, 0, none⟩) 1 1] W fun e w' => e = .returned (.bool o) ∧ Below W.heap.size W w' :=
  stabchain_permutations.calls k a0 (some ⟨g, 0, none⟩) 1 [p] o W (C_one h hc hb hg) (Nat.le_refl _) hf
def stabchain_Contains.f (k : Nat) (a0 : Int) (l1 : List (List Int)) (l2 : List Int) : Option (Bool × Int) := (stabchain_arguments.f k a0 l1).bind fun e => if e = 0 then ((stabchain_permutations.f k a0 [l2]).bind fun o => if o = true then (if (okB a0 l1 && isPB a0.toNat l2) = true then (groupF a0.toNat (a0.toNat + 1) l1 []).bind fun ls => some (inF ls l2, 0) else none) else some (false, 3)) else some (false, e)
theorem stabchain_Contains.mono : ∀ a0 a1 a2 k, LeO (stabchain_Contains.f k a0 a1 a2) (stabchain_Contains.f (k + 1) a0 a1 a2) := by
  intro a0 a1 a2 k
  unfold stabchain_Contains.f
  exact LeO.bind (stabchain_arguments.mono a0 a1 k) (fun e => LeO.ite (LeO.bind (stabchain_permutations.mono a0 [a2] k) (fun o => LeO.refl _)) (LeO.refl _))
set_option maxHeartbeats 4000000 in
set_option maxRecDepth 100000 in
theorem stabchain_Contains.calls (k : Nat) (a0 : Int) (A1 : Option Addr) (c1 : Nat) (l1 : List (List Int)) (A2 : Option Addr) (c2 : Nat) (l2 : List Int) (r1 : Bool) (r2 : Int) (w : World) (hr1 : Kd.C (Kd.slice 3 (Kd.int .i64)) w A1 l1.length l1) (hc1 : l1.length ≤ c1) (hr2 : Kd.C (Kd.int .i64) w A2 l2.length l2) (hc2 : l2.length ≤ c2) (h : stabchain_Contains.f k a0 l1 l2 = some (r1, r2)) :
    Calls Try.prog 23 #[.int .i64 a0, .slice A1 l1.length c1, .slice A2 l2.length c2] w fun e w' => e = .returned (.tuple #[.bool r1, .int .i64 r2]) ∧ Below w.heap.size w w' := by
  unfold stabchain_Contains.f at h
  obtain ⟨e, he, h⟩ := Option.bind_eq_some_iff.1 h
  have HR1 := Aside0.mk hr1
  have HC1 := Aside0.mk hc1
  have HR2 := Aside0.mk hr2
  have HC2 := Aside0.mk hc2
  have HE := Aside0.mk he
  clear hr1 hc1 hr2 hc2 he
  by_cases h0 : e = 0
  · rw [if_pos h0] at h
    obtain ⟨o, ho, h⟩ := Option.bind_eq_some_iff.1 h
    have HO := Aside0.mk ho
    clear ho
    by_cases ho1 : o = true
    · rw [if_pos ho1] at h
      by_cases hok : (okB a0 l1 && isPB a0.toNat l2) = true
      · rw [if_pos hok] at h
        rw [Bool.and_eq_true] at hok
        obtain ⟨m, rfl, hm, hm11, hg, hl⟩ := okB_ok hok.1
        have hp2 := isPB_ok hok.2
        rw [Int.toNat_natCast] at h hp2
        obtain ⟨ls, hls, h⟩ := Option.bind_eq_some_iff.1 h
        have h := Option.some.inj h
        simp only [Prod.mk.injEq] at h
        obtain ⟨e1, e2⟩ := h
        subst e1 e2 h0 ho1
        have HM := Aside0.mk hm
        have HGN := Aside0.mk hg
        have HLS := Aside0.mk hls
        have HLN := Aside0.mk (group_len hg (fun x hx => by simp at hx) List.nodup_nil hls)
        have HL := Aside0.mk hl
        have HP2 := Aside0.mk hp2
        clear hok hm hg hl hls hp2
        go_enter Try.func23, Try.ntmps23
        go_wp2_with (first | (go_at_call 47; (with_reducible refine (stabchain_arguments.calls k (m : Int) A1 c1 l1 0 _ HR1.out HC1.out HE.out).mono ?_); rintro e w6 ⟨rfl, hb6⟩; have HB6 := Aside0.mk hb6; clear hb6) | (go_at_call 55; (with_reducible refine (perms_one (w := w) HR2.out HC2.out (below_alloc HB6.out _) (blk_new _ _) HO.out).mono ?_); rintro e w7 ⟨rfl, hb7⟩; have HB7 : Aside0 (Below w.heap.size w w7) := ⟨below_step (w := w) (below_alloc HB6.out _) hb7⟩; clear hb7) | (go_at_call 48; (with_reducible refine (newGroup_nil HM.out hm11 (Kd.C_below HR1.out HB7.out) HGN.out HL.out HLS.out).mono ?_); rintro e w8 ⟨g, av, cs, PB, rfl, hG, hPC, hb8⟩; have HG8 := Aside0.mk hG; have HPC := Aside0.mk hPC; have HB8 : Aside0 (Below w.heap.size w w8) := ⟨below_step (w := w) HB7.out hb8⟩; clear hG hb8 hPC) | (go_at_call 56; (with_reducible refine (has_calls HM.out (by omega) HG8.out HPC.out (pv_of_C (Kd.C_below HR2.out HB8.out) HC2.out) HP2.out (by have := HLN.out; omega)).mono ?_); rintro e w9 ⟨rfl, hb9⟩; have HB9 : Aside0 (Below w.heap.size w w9) := ⟨below_step (w := w) HB8.out hb9⟩; clear hb9))
        refine bodyPost_ret (results_list (rs := [.tmp 6, .tmp 7]) (vs := [.bool (inF ls l2), .int .i64 0]) rfl (by simp) (Vals.tmp (Vals.tmp Vals.nil))) rfl ?_
        exact ⟨rfl, HB9.out⟩
      · rw [if_neg hok] at h
        cases h
    · rw [if_neg ho1] at h
      have h := Option.some.inj h
      simp only [Prod.mk.injEq] at h
      obtain ⟨e1, e2⟩ := h
      subst e1 e2 h0
      have ho2 : o = false := by simpa using ho1
      subst ho2
      clear ho1
      go_enter Try.func23, Try.ntmps23
      go_wp2_with (first | (go_at_call 47; (with_reducible refine (stabchain_arguments.calls k a0 A1 c1 l1 0 _ HR1.out HC1.out HE.out).mono ?_); rintro e w6 ⟨rfl, hb6⟩; have HB6 := Aside0.mk hb6; clear hb6) | (go_at_call 55; (with_reducible refine (perms_one (w := w) HR2.out HC2.out (below_alloc HB6.out _) (blk_new _ _) HO.out).mono ?_); rintro e w7 ⟨rfl, hb7⟩; have HB7 : Aside0 (Below w.heap.size w w7) := ⟨below_step (w := w) (below_alloc HB6.out _) hb7⟩; clear hb7))
      refine bodyPost_ret (results_list (rs := [.tmp 6, .tmp 7]) (vs := [.bool false, .int .i64 3]) rfl (by simp) (Vals.tmp (Vals.tmp Vals.nil))) rfl ?_
      exact ⟨rfl, HB7.out⟩
  · rw [if_neg h0] at h
    have h := Option.some.inj h
    simp only [Prod.mk.injEq] at h
    obtain ⟨e1, e2⟩ := h
    subst e1 e2
    go_enter Try.func23, Try.ntmps23
    go_wp2_with (first | (go_at_call 47; (with_reducible refine (stabchain_arguments.calls k a0 A1 c1 l1 e _ HR1.out HC1.out HE.out).mono ?_); rintro e w6 ⟨rfl, hb6⟩; have HB6 := Aside0.mk hb6; clear hb6))
    refine bodyPost_ret (results_list (rs := [.tmp 6, .tmp 7]) (vs := [.bool false, .int .i64 e]) rfl (by simp) (Vals.tmp (Vals.tmp Vals.nil))) rfl ?_
    exact ⟨rfl, HB6.out⟩
end Go.Proofs.Ytpkgckccfanchaa.M

namespace Go.Proofs.Ytpkgckccfanchaa.M
open Go.RowKit Go.Proofs.YtpkgckccfanchaaW.PrintWords Go.Proofs.YtpkgckccfanchaaW.PrintLast Go.Proofs.YtpkgckccfanchaaW.PrintMore
attribute [local go_sem] max2_int min2_int max_two min_two max_three min_three max_four min_four
set_option linter.unusedVariables false
set_option linter.unusedSimpArgs false
mutual
def quadformref16_Group.j0 : Nat → Int → List (List Int) → Bool → Option (Int)
  | 0, _, _, _ => none
  | k + 1, x0, x1, x12 => if x12 = true then (some 1) else (if (x1.length : Int) > 64 then (some 7) else (quadformref16_Group.l0 k x0 x1 (x1.length : Int) 0))
def quadformref16_Group.l0 : Nat → Int → List (List Int) → Int → Int → Option (Int)
  | 0, _, _, _, _ => none
  | k + 1, x0, x16, x17, x18 => if x18 < x17 then (if 0 ≤ x18 then (if x18 < (x16.length : Int) then (if ((rd_L1 x16 x18).length : Int) = x0 then ((quadformref16_Valid.f k (rd_L1 x16 x18)).bind fun t276 => (if t276 = true then (quadformref16_Group.l0 k x0 x16 x17 (wrap64 (x18 + 1))) else (some 3))) else (some 3)) else (none)) else (none)) else (some 0)
end
def quadformref16_Group.f (k : Nat) (a0 : Int) (l1 : List (List Int)) : Option (Int) := if a0 < 1 then (quadformref16_Group.j0 k a0 l1 true) else (quadformref16_Group.j0 k a0 l1 (decide (a0 > 512)))
theorem quadformref16_Group.mono_l : ∀ k, (∀ y0 y1 y2, LeO (quadformref16_Group.j0 k y0 y1 y2) (quadformref16_Group.j0 (k + 1) y0 y1 y2)) ∧ (∀ y0 y1 y2 y3, LeO (quadformref16_Group.l0 k y0 y1 y2 y3) (quadformref16_Group.l0 (k + 1) y0 y1 y2 y3))
  | 0 => ⟨fun _ _ _ r h => by simp [quadformref16_Group.j0] at h, fun _ _ _ _ r h => by simp [quadformref16_Group.l0] at h⟩
  | k + 1 => by
    obtain ⟨ih0, ih1⟩ := quadformref16_Group.mono_l k; refine ⟨?_, ?_⟩
    · intro y0 y1 y2
      unfold quadformref16_Group.j0
      repeat' first
      | (with_reducible exact ih0 _ _ _)
      | (with_reducible exact ih1 _ _ _ _)
      | (with_reducible exact quadformref16_Valid.mono _ _)
      | (with_reducible exact LeO.refl _)
      | (with_reducible exact LeO.none _)
      | (with_reducible refine LeO.ite ?_ ?_)
      | (with_reducible refine LeO.bind ?_ (fun _ => ?_))
      | exact ih0 _ _ _
      | exact ih1 _ _ _ _
      | exact quadformref16_Valid.mono _ _
      | exact LeO.none _
      | refine LeO.ite ?_ ?_
      | refine LeO.bind ?_ (fun _ => ?_)
    · intro y0 y1 y2 y3
      unfold quadformref16_Group.l0
      repeat' first
      | (with_reducible exact ih0 _ _ _)
      | (with_reducible exact ih1 _ _ _ _)
      | (with_reducible exact quadformref16_Valid.mono _ _)
      | (with_reducible exact LeO.refl _)
      | (with_reducible exact LeO.none _)
      | (with_reducible refine LeO.ite ?_ ?_)
      | (with_reducible refine LeO.bind ?_ (fun _ => ?_))
      | exact ih0 _ _ _
      | exact ih1 _ _ _ _
      | exact quadformref16_Valid.mono _ _
      | exact LeO.none _
      | refine LeO.ite ?_ ?_
      | refine LeO.bind ?_ (fun _ => ?_)
theorem quadformref16_Group.mono : ∀ a0 a1 k, LeO (quadformref16_Group.f k a0 a1) (quadformref16_Group.f (k + 1) a0 a1) := by
  intro a0 a1 k; obtain ⟨ih0, ih1⟩ := quadformref16_Group.mono_l k
  unfold quadformref16_Group.f
  repeat' first
      | (with_reducible exact ih0 _ _ _)
      | (with_reducible exact ih1 _ _ _ _)
      | (with_reducible exact quadformref16_Valid.mono _ _)
      | (with_reducible exact LeO.refl _)
      | (with_reducible exact LeO.none _)
      | (with_reducible refine LeO.ite ?_ ?_)
      | (with_reducible refine LeO.bind ?_ (fun _ => ?_))
      | exact ih0 _ _ _
      | exact ih1 _ _ _ _
      | exact quadformref16_Valid.mono _ _
      | exact LeO.none _
      | refine LeO.ite ?_ ?_
      | refine LeO.bind ?_ (fun _ => ?_)
set_option maxHeartbeats 8000000 in
set_option maxRecDepth 100000 in
theorem quadformref16_Group.calls (k : Nat) (a0 : Int) (A1 : Option Addr) (c1 : Nat) (l1 : List (List Int)) (r : Int) (w : World) (hr1 : Kd.C (Kd.slice 3 (Kd.int .i64)) w A1 l1.length l1) (hc1 : l1.length ≤ c1) (h : quadformref16_Group.f k a0 l1 = some r) :
    Calls Try.prog 40 #[.int .i64 a0, .slice A1 l1.length c1] w fun e w' => e = .returned (.int .i64 r) ∧ Below w.heap.size w w' := by
  have HR1 := Aside0.mk hr1; have HC1 := Aside0.mk hc1; clear hr1 hc1; have HB := Aside0.mk (Below.refl w.heap.size w); have H : (if a0 < 1 then (quadformref16_Group.j0 k a0 l1 true) else (quadformref16_Group.j0 k a0 l1 (decide (a0 > 512)))) = some r := h; clear h; have HC3 := Aside0.mk H; clear H
  go_enter Try.func40, Try.ntmps40
  go_upto_region 1 with (fail)
  go_cut [12] (fun v12 wc => ∃ (kq : Nat) (x12_2 : Bool), v12 = .bool x12_2 ∧ Aside0 (quadformref16_Group.j0 kq a0 l1 x12_2 = some r) ∧ Aside0 (kq ≤ k) ∧ Aside0 (Below w.heap.size w wc))
  case first =>
    have H := HC3.out; clear HC3
    by_cases c4 : a0 < 1
    · rw [if_pos c4] at H
      have c4b0 : decide (a0 < 1) = true := decide_eq_true c4; clear c4
      (first | rw [c4b0] | (simp only [i64_w, i32_w]; rw [c4b0]) | skip)
      have H' := Aside0.mk H; clear H
      go_wp2
      go_meet
      case rel => exact ⟨_, (true), (by first | rfl | (simp; done) | (simp [*]; done)), H', ⟨by first | omega | exact Nat.le_refl _⟩, ⟨by repeat (first | (with_reducible first | exact HB.out | apply below_alloc | apply pw_below_drewN | apply below_drew1) | exact HB.out)⟩⟩
    · rw [if_neg c4] at H
      have c4b0 : decide (a0 < 1) = false := decide_eq_false c4; clear c4
      (first | rw [c4b0] | (simp only [i64_w, i32_w]; rw [c4b0]) | skip)
      have H' := Aside0.mk H; clear H
      go_wp2
      go_meet
      case rel => exact ⟨_, (decide (a0 > 512)), (by first | rfl | (simp; done) | (simp [*]; done)), H', ⟨by first | omega | exact Nat.le_refl _⟩, ⟨by repeat (first | (with_reducible first | exact HB.out | apply below_alloc | apply pw_below_drewN | apply below_drew1) | exact HB.out)⟩⟩
  case rest =>
    clear HC3
    try clear c1
    try clear p2
    try clear c4
    try clear c4b0
    obtain ⟨kq, x12_2, rfl, HA, HJ2, HB⟩ := hcut; cases kq with
    | zero => exact absurd HA.out (by simp [quadformref16_Group.j0])
    | succ kj2 =>
      have H := HA.out; clear HA
      simp only [quadformref16_Group.j0] at H
      by_cases c5 : x12_2 = true
      · subst c5
        have H1 : (some 1) = some r := by rw [if_pos rfl] at H; exact H
        clear H; have H := H1; clear H1; obtain rfl := Option.some.inj H
        go_wp2
        go_ret
        exact ⟨by first | rfl | (simp [errW_none, errW_some] <;> rfl) | (simp [*, errW_none, errW_some] <;> rfl), by repeat (first | (with_reducible first | exact HB.out | apply below_alloc | apply pw_below_drewN | apply below_drew1) | exact HB.out)⟩
      · replace c5 := Bool.eq_false_iff.mpr c5
        subst c5
        have H1 : (if (l1.length : Int) > 64 then (some 7) else (quadformref16_Group.l0 kj2 a0 l1 (l1.length : Int) 0)) = some r := by rw [if_neg (show ¬ (false = true) by decide)] at H; exact H
        clear H; have H := H1; clear H1
        by_cases c6 : (l1.length : Int) > 64
        · rw [if_pos c6] at H
          have c6b0 : decide (64 < (l1.length : Int)) = true := decide_eq_true c6; have c6b1 : decide (64 < l1.length) = true := decide_eq_true (by omega); clear c6; obtain rfl := Option.some.inj H
          go_wp2
          go_ret
          exact ⟨by first | rfl | (simp [errW_none, errW_some] <;> rfl) | (simp [*, errW_none, errW_some] <;> rfl), by repeat (first | (with_reducible first | exact HB.out | apply below_alloc | apply pw_below_drewN | apply below_drew1) | exact HB.out)⟩
        · rw [if_neg c6] at H
          have c6b0 : decide (64 < (l1.length : Int)) = false := decide_eq_false c6; have c6b1 : decide (64 < l1.length) = false := decide_eq_false (by omega); clear c6; have H' := Aside0.mk H; clear H
          go_wp2
          go_loopg [18] kj2 (fun kq v18 w' => ∃ (x18_2 : Int), v18 = .int .i64 x18_2 ∧ Aside0 (quadformref16_Group.l0 kq a0 l1 (l1.length : Int) x18_2 = some r) ∧ Aside0 (kq ≤ kj2) ∧ Aside0 (Below w.heap.size w w'))
          case atStart => exact ⟨(0), (by first | rfl | (simp; done) | (simp [*]; done)), H', ⟨Nat.le_refl _⟩, ⟨by repeat (first | (with_reducible first | exact HB.out | apply below_alloc | apply pw_below_drewN | apply below_drew1) | exact HB.out)⟩⟩
          case round =>
            clear H'
            try clear c1
            try clear p2
            try clear c4
            try clear c4b0
            try clear c5
            try clear c6
            try clear c6b0
            try clear c6b1
            try clear p2
            obtain ⟨x18_2, rfl, HA, HK2, HB⟩ := hrel; cases gk with
            | zero => exact absurd HA.out (by simp [quadformref16_Group.l0])
            | succ k2 =>
              have H := HA.out; clear HA
              simp only [quadformref16_Group.l0] at H
              by_cases c7 : x18_2 < (l1.length : Int)
              · rw [if_pos c7] at H
                have c7b0 : decide (x18_2 < (l1.length : Int)) = true := decide_eq_true c7; clear c7
                by_cases c8 : 0 ≤ x18_2
                · rw [if_pos c8] at H
                  have c8b0 : decide (0 ≤ x18_2) = true := decide_eq_true c8; clear c8
                  by_cases c9 : x18_2 < (l1.length : Int)
                  · rw [if_pos c9] at H
                    have c9b0 : decide (x18_2 < (l1.length : Int)) = true := decide_eq_true c9; clear c9
                    by_cases c10 : ((rd_L1 l1 x18_2).length : Int) = a0
                    · rw [if_pos c10] at H
                      have c10b0 : (((rd_L1 l1 x18_2).length : Int) == a0) = true := beq_iff_eq.mpr c10; have c10b1 : (((rd_L1 l1 x18_2).length : Int) != a0) = false := bne_eq_false_iff_eq.mpr c10; clear c10; replace H := Option.bind_eq_some_iff.mp H; obtain ⟨t276, A110, H⟩ := H; replace H : (if t276 = true then (quadformref16_Group.l0 k2 a0 l1 (l1.length : Int) (wrap64 (x18_2 + 1))) else (some 3)) = some r := H; have A11 := Aside0.mk A110; clear A110
                      by_cases c12 : t276 = true
                      · subst c12
                        have H1 : (quadformref16_Group.l0 k2 a0 l1 (l1.length : Int) (wrap64 (x18_2 + 1))) = some r := by rw [if_pos rfl] at H; exact H
                        clear H; have H := H1; clear H1; have H' := Aside0.mk H; clear H; have p275 : 0 ≤ (x18_2 : Int) := of_decide_eq_true (by first | (with_reducible assumption) | assumption); have q275 : x18_2 < (l1.length : Int) := of_decide_eq_true (by first | (with_reducible assumption) | assumption); obtain ⟨ad275, A275_0, c275_0, e275, hx275_0, hl275_0, hi275_0⟩ := at_L1 HR1.out x18_2 p275 q275; cases e275; replace hx275_0 := (HB.out.cell (World.block_lt_of_cell? w _ hx275_0)).trans hx275_0; have HR275_0 := Aside0.mk hi275_0; have HC275_0 := Aside0.mk hl275_0; clear hi275_0 hl275_0; replace p275 := eq_true p275; replace q275 := eq_true q275
                        go_wp2_with (first | (go_at_call 57; (with_reducible refine (quadformref16_Valid.calls k2 _ _ (rd_L1 l1 x18_2) true _ ?side1 ?side2 A11.out).mono ?_); (case side1 => repeat (first | exact (Kd.C_below HR275_0.out HB.out) | (with_reducible refine Kd.C_alloc ?_ _) | (with_reducible refine Kd.C_drewN ?_ _) | (with_reducible refine Kd.C_drew ?_))); (case side2 => exact HC275_0.out); rintro e w13 ⟨rfl, hb⟩; have n0_ := Aside0.mk (below_step (by repeat (first | (with_reducible first | exact HB.out | apply below_alloc | apply pw_below_drewN | apply below_drew1) | exact HB.out)) hb); clear HB; have HB := n0_; clear n0_; (try clear hb); (try clear hb2); (try clear hk); (try clear hi)))
                        go_roundg k2
                        case measure => have := HJ2.out; have := HK2.out; omega
                        case rel => exact ⟨(wrap64 (x18_2 + 1)), (by first | rfl | (simp; done) | (simp [*]; done)), H', ⟨by have := HJ2.out; have := HK2.out; omega⟩, ⟨by repeat (first | (with_reducible first | exact HB.out | apply below_alloc | apply pw_below_drewN | apply below_drew1) | exact HB.out)⟩⟩
                      · replace c12 := Bool.eq_false_iff.mpr c12
                        subst c12
                        have H1 : (some 3) = some r := by rw [if_neg (show ¬ (false = true) by decide)] at H; exact H
                        clear H; have H := H1; clear H1; obtain rfl := Option.some.inj H; have p275 : 0 ≤ (x18_2 : Int) := of_decide_eq_true (by first | (with_reducible assumption) | assumption); have q275 : x18_2 < (l1.length : Int) := of_decide_eq_true (by first | (with_reducible assumption) | assumption); obtain ⟨ad275, A275_0, c275_0, e275, hx275_0, hl275_0, hi275_0⟩ := at_L1 HR1.out x18_2 p275 q275; cases e275; replace hx275_0 := (HB.out.cell (World.block_lt_of_cell? w _ hx275_0)).trans hx275_0; have HR275_0 := Aside0.mk hi275_0; have HC275_0 := Aside0.mk hl275_0; clear hi275_0 hl275_0; replace p275 := eq_true p275; replace q275 := eq_true q275
                        go_wp2_with (first | (go_at_call 57; (with_reducible refine (quadformref16_Valid.calls k2 _ _ (rd_L1 l1 x18_2) false _ ?side1 ?side2 A11.out).mono ?_); (case side1 => repeat (first | exact (Kd.C_below HR275_0.out HB.out) | (with_reducible refine Kd.C_alloc ?_ _) | (with_reducible refine Kd.C_drewN ?_ _) | (with_reducible refine Kd.C_drew ?_))); (case side2 => exact HC275_0.out); rintro e w14 ⟨rfl, hb⟩; have n0_ := Aside0.mk (below_step (by repeat (first | (with_reducible first | exact HB.out | apply below_alloc | apply pw_below_drewN | apply below_drew1) | exact HB.out)) hb); clear HB; have HB := n0_; clear n0_; (try clear hb); (try clear hb2); (try clear hk); (try clear hi)))
                        go_ret
                        exact ⟨by first | rfl | (simp [errW_none, errW_some] <;> rfl) | (simp [*, errW_none, errW_some] <;> rfl), by repeat (first | (with_reducible first | exact HB.out | apply below_alloc | apply pw_below_drewN | apply below_drew1) | exact HB.out)⟩
                    · rw [if_neg c10] at H
                      have c10b0 : (((rd_L1 l1 x18_2).length : Int) == a0) = false := beq_eq_false_iff_ne.mpr c10; have c10b1 : (((rd_L1 l1 x18_2).length : Int) != a0) = true := bne_iff_ne.mpr c10; obtain rfl := Option.some.inj H; have p275 : 0 ≤ (x18_2 : Int) := of_decide_eq_true (by first | (with_reducible assumption) | assumption); have q275 : x18_2 < (l1.length : Int) := of_decide_eq_true (by first | (with_reducible assumption) | assumption); obtain ⟨ad275, A275_0, c275_0, e275, hx275_0, hl275_0, hi275_0⟩ := at_L1 HR1.out x18_2 p275 q275; cases e275; replace hx275_0 := (HB.out.cell (World.block_lt_of_cell? w _ hx275_0)).trans hx275_0; have HR275_0 := Aside0.mk hi275_0; have HC275_0 := Aside0.mk hl275_0; clear hi275_0 hl275_0; replace p275 := eq_true p275; replace q275 := eq_true q275
                      go_wp2
                      go_ret
                      exact ⟨by first | rfl | (simp [errW_none, errW_some] <;> rfl) | (simp [*, errW_none, errW_some] <;> rfl), by repeat (first | (with_reducible first | exact HB.out | apply below_alloc | apply pw_below_drewN | apply below_drew1) | exact HB.out)⟩
                  · rw [if_neg c9] at H
                    exact absurd H (by simp)
                · rw [if_neg c8] at H
                  exact absurd H (by simp)
              · rw [if_neg c7] at H
                have c7b0 : decide (x18_2 < (l1.length : Int)) = false := decide_eq_false c7; clear c7; obtain rfl := Option.some.inj H
                go_wp2
                go_ret
                exact ⟨by first | rfl | (simp [errW_none, errW_some] <;> rfl) | (simp [*, errW_none, errW_some] <;> rfl), by repeat (first | (with_reducible first | exact HB.out | apply below_alloc | apply pw_below_drewN | apply below_drew1) | exact HB.out)⟩
end Go.Proofs.Ytpkgckccfanchaa.M

namespace Go.Proofs.Ytpkgckccfanchaa.M
open Go.RowKit Go.Proofs.YtpkgckccfanchaaW.PrintWords Go.Proofs.YtpkgckccfanchaaW.PrintLast Go.Proofs.YtpkgckccfanchaaW.PrintMore
open Sims
set_option linter.unusedVariables false
set_option linter.unusedSimpArgs false
theorem loopF_mono (n : Nat) : ∀ (f : Nat) (ls : List Lv) (k : Nat), LeO (loopF n f ls k) (loopF n (f + 1) ls k)
  | 0, ls, k => by
    rw [loopF]
    exact LeO.none _
  | f + 1, ls, 0 => by
    rw [loopF, loopF]
    exact LeO.refl _
  | f + 1, ls, k + 1 => by
    rw [loopF, loopF]
    cases ls[k]? with
    | none => exact LeO.refl _
    | some l =>
      dsimp only
      cases schrF n l (ls.drop (k + 1)) with
      | none => exact loopF_mono n f ls k
      | some q => exact loopF_mono n f _ _
theorem chainF_mono (n k : Nat) (gens : List (List Int)) (base : List Int) : LeO (chainF n k gens base) (chainF n (k + 1) gens base) := loopF_mono n k _ _
theorem chainF_up {n k k' : Nat} {gens : List (List Int)} {base : List Int} {ls : List Lv} (h : chainF n k gens base = some ls) (hk : k ≤ k') : chainF n k' gens base = some ls := at_rounds (g := fun k => chainF n k gens base) (fun k => chainF_mono n k gens base) hk h
theorem chain_pc {n k : Nat} {gens : List (List Int)} (hg : ∀ g ∈ gens, IsP n g) {base : List Int} (hb : ∀ x ∈ base, 0 ≤ x ∧ x < n) (hn : base.Nodup) {ls : List Lv} (h : chainF n k gens base = some ls) :
    PC n [] ls ∧ grp n ls = GL n gens ∧ (∃ m, ls.map (·.point) = base ++ m) ∧ ls.length ≤ n := by
  obtain ⟨f, ls', h1, h2, h3, h4, -⟩ := chain_ok hg hb hn
  have e : ls = ls' := by
    have a := chainF_up h (Nat.le_max_left k f)
    have b := chainF_up h1 (Nat.le_max_right k f)
    rw [a] at b
    exact Option.some.inj b
  subst e
  have := PC_length h2 List.nodup_nil (fun x hx => by simp at hx)
  exact ⟨h2, h3, h4, by simpa using this⟩
theorem chain_nil {w : World} {n f : Nat} {A1 : Option Addr} {c1 : Nat} {gens : List (List Int)} {R : List Lv} (hn : 0 < n) (hn' : n ≤ 512) (hr : GC w A1 gens) (hg : ∀ g ∈ gens, IsP n g) (hgl : gens.length ≤ 1000000) (hF : chainF n f gens [] = some R) :
    Calls Try.prog 54 #[.int .i64 (n : Int), .slice A1 gens.length c1, .slice none 0 0] w fun e w' => ∃ v, e = .returned v ∧ RCh w' w.heap.size n v R ∧ Below w.heap.size w w' :=
  chain_calls (base := []) (A2 := none) (c2 := 0) hn hn' hr hg hgl (C_nil_int _) (fun x hx => by simp at hx) List.nodup_nil hF
def quadformref16_GroupOrder.f (k : Nat) (a0 : Int) (l1 : List (List Int)) : Option (Bool × List Int × Int) := (quadformref16_Group.f k a0 l1).bind fun e => if e = 0 then (if okB a0 l1 = true then (chainF a0.toNat k l1 []).bind fun ls => (sizeR k (lensF ls)).bind fun r => some (r.1, r.2, 0) else none) else some (false, [], e)
theorem quadformref16_GroupOrder.mono : ∀ a0 a1 k, LeO (quadformref16_GroupOrder.f k a0 a1) (quadformref16_GroupOrder.f (k + 1) a0 a1) := by
  intro a0 a1 k
  unfold quadformref16_GroupOrder.f
  refine LeO.bind (quadformref16_Group.mono a0 a1 k) (fun e => LeO.ite (LeO.ite (LeO.bind (chainF_mono _ _ _ _) (fun ls => LeO.bind (sizeR_mono k (lensF ls)) (fun r => LeO.refl _))) (LeO.refl _)) (LeO.refl _))
set_option maxHeartbeats 4000000 in
set_option maxRecDepth 100000 in
theorem quadformref16_GroupOrder.calls (k : Nat) (a0 : Int) (A1 : Option Addr) (c1 : Nat) (l1 : List (List Int)) (r1 : Bool) (r2 : List Int) (r3 : Int) (w : World) (hr1 : Kd.C (Kd.slice 3 (Kd.int .i64)) w A1 l1.length l1) (hc1 : l1.length ≤ c1) (h : quadformref16_GroupOrder.f k a0 l1 = some (r1, r2, r3)) :
    Calls Try.prog 20 #[.int .i64 a0, .slice A1 l1.length c1] w fun e w' => ∃ v1_ : Value, e = .returned (.tuple #[.agg #[.bool r1, v1_], .int .i64 r3]) ∧ Kd.V (Kd.int .u32) 98 w' w.heap.size (fun k_ => (w.heap.size ≤ k_)) v1_ r2 ∧ Below w.heap.size w w' := by
  unfold quadformref16_GroupOrder.f at h
  obtain ⟨e, he, h⟩ := Option.bind_eq_some_iff.1 h
  have HR1 := Aside0.mk hr1
  have HC1 := Aside0.mk hc1
  have HE := Aside0.mk he
  clear hr1 hc1 he
  by_cases h0 : e = 0
  · rw [if_pos h0] at h
    by_cases hok : okB a0 l1 = true
    · rw [if_pos hok] at h
      obtain ⟨m, rfl, hm, hm11, hg, hl⟩ := okB_ok hok
      rw [Int.toNat_natCast] at h
      obtain ⟨ls, hls, h⟩ := Option.bind_eq_some_iff.1 h
      obtain ⟨r, hr, h⟩ := Option.bind_eq_some_iff.1 h
      have h := Option.some.inj h
      simp only [Prod.mk.injEq] at h
      obtain ⟨e1, e2, e3⟩ := h
      subst e1 e2 e3 h0
      obtain ⟨hpc, -, -, hll⟩ := chain_pc hg (fun x hx => by simp at hx) List.nodup_nil hls
      have HM := Aside0.mk hm
      have HGN := Aside0.mk hg
      have HLS := Aside0.mk hls
      have HRR := Aside0.mk hr
      have HPC := Aside0.mk (PC_ok hpc)
      have HLN := Aside0.mk hll
      have HL := Aside0.mk hl
      clear hok hm hg hl hls hr hpc hll
      go_enter Try.func20, Try.ntmps20
      go_wp2_with (first | ((with_reducible refine gate_dst (N := 4) rfl ?_); refine box_event ?hg (N := 4) ?hd (cs := #[.bool false, .slice none 0 0]) (t := 24) ?hr ?_; (case hd => rfl); (case hg => rfl); (case hr => first | (go_simp; done) | (go_simp; rfl)); intro gb hg w5 hbox hb; have GB := Aside0.mk hbox; have HB0 := Aside0.mk hb; have HGB : Aside0 (w.heap.size ≤ gb) := ⟨by rw [hg]; exact Nat.le_refl _⟩; clear hg hbox hb) | (go_at_call 40; (with_reducible refine (quadformref16_Group.calls k (m : Int) A1 c1 l1 0 _ (Kd.C_below HR1.out HB0.out) HC1.out HE.out).mono ?_); rintro e w6 ⟨rfl, hb6⟩; have GB6 := Aside0.mk (blk_below GB.out hb6); have HB6 := Aside0.mk hb6; clear hb6) | (go_at_call 54; (with_reducible refine (chain_nil HM.out (by omega) (Kd.C_below (Kd.C_below HR1.out HB0.out) HB6.out) HGN.out (by have := HL.out; omega) HLS.out).mono ?_); rintro e w7 ⟨v7, rfl, hC, hb7⟩; have GB7 := Aside0.mk (blk_below GB6.out hb7); have HC7 := Aside0.mk hC.rd; have HB7 := Aside0.mk hb7; clear hC hb7) | (go_at_call 53; (with_reducible refine (Size_calls HM.out (by omega) HC7.out HPC.out (by have := HLN.out; omega) HRR.out).mono ?_); rintro e w8 ⟨v1, rfl, hV, hb8⟩; obtain ⟨A8, c8, rfl⟩ := Kd.V_slice hV; have GB8 := Aside0.mk (blk_below GB7.out hb8); have hg0 := (blk_cell GB8.out 0).trans (show _ = some (Value.bool false) from rfl); have hg1 := (blk_cell GB8.out 1).trans (show _ = some (Value.slice none 0 0) from rfl); have hg2 := blk_frozen GB8.out 0; have hg3 := blk_frozen GB8.out 1; have HV8 := Aside0.mk hV; have HB8 := Aside0.mk hb8; clear hV hb8))
      have hs0 : w.heap.size ≤ w5.heap.size := HB0.out.size
      have hs5 : w5.heap.size ≤ w6.heap.size := HB6.out.size
      have hs7 : w6.heap.size ≤ w7.heap.size := HB7.out.size
      have hgb : gb < w7.heap.size := blk_lt GB7.out
      refine bodyPost_ret (results_list (rs := [.cell 4 24, .tmp 5]) (vs := [.agg #[.bool r.1, .slice A8 r.2.length c8], .int .i64 0]) rfl (by simp) (Vals.cell gb 24 _ (0, 0) _ rfl (by refine blk_put (cs := #[.bool r.1, .slice none 0 0]) ?_ 1 _ rfl; refine blk_put (cs := #[.bool false, .slice none 0 0]) ?_ 0 _ rfl; exact GB8.out) Try.underlying24 rfl (by kernel_rfl) (Vals.tmp Vals.nil))) rfl ?_
      refine ⟨_, rfl, ?_, ?_⟩
      · exact Kd.V_mono (Kd.V_far (p := ⟨gb, 1, none⟩) (Kd.V_far (p := ⟨gb, 0, none⟩) HV8.out (fun k hk e => by have e2 : k = gb := e; omega) (.bool r.1)) (fun k hk e => by have e2 : k = gb := e; omega) _) (fun k hk => by omega)
      · exact below_set (below_set (below_then (below_then (below_then HB0.out hs0 HB6.out) (Nat.le_trans hs0 hs5) HB7.out) (Nat.le_trans hs0 (Nat.le_trans hs5 hs7)) HB8.out) HGB.out) HGB.out
    · rw [if_neg hok] at h
      cases h
  · rw [if_neg h0] at h
    have h := Option.some.inj h
    simp only [Prod.mk.injEq] at h
    obtain ⟨e1, e2, e3⟩ := h
    subst e1 e2 e3
    go_enter Try.func20, Try.ntmps20
    go_wp2_with (first | ((with_reducible refine gate_dst (N := 4) rfl ?_); refine box_event ?hg (N := 4) ?hd (cs := #[.bool false, .slice none 0 0]) (t := 24) ?hr ?_; (case hd => rfl); (case hg => rfl); (case hr => first | (go_simp; done) | (go_simp; rfl)); intro gb hg w5 hbox hb; have GB := Aside0.mk hbox; have HB0 := Aside0.mk hb; have HGB : Aside0 (w.heap.size ≤ gb) := ⟨by rw [hg]; exact Nat.le_refl _⟩; clear hg hbox hb) | (go_at_call 40; (with_reducible refine (quadformref16_Group.calls k a0 A1 c1 l1 e _ (Kd.C_below HR1.out HB0.out) HC1.out HE.out).mono ?_); rintro e w6 ⟨rfl, hb6⟩; have GB6 := Aside0.mk (blk_below GB.out hb6); have hg0 := (blk_cell GB6.out 0).trans (show _ = some (Value.bool false) from rfl); have hg1 := (blk_cell GB6.out 1).trans (show _ = some (Value.slice none 0 0) from rfl); have hg2 := blk_frozen GB6.out 0; have hg3 := blk_frozen GB6.out 1; have HB6 := Aside0.mk hb6; clear hb6))
    have hs0 : w.heap.size ≤ w5.heap.size := HB0.out.size
    have hgb : gb < w6.heap.size := blk_lt GB6.out
    refine bodyPost_ret (results_list (rs := [.cell 4 24, .tmp 5]) (vs := [.agg #[.bool false, .slice none 0 0], .int .i64 e]) rfl (by simp) (Vals.cell gb 24 _ (0, 0) _ rfl (by refine blk_put (cs := #[.bool false, .slice none 0 0]) ?_ 1 _ rfl; refine blk_put (cs := #[.bool false, .slice none 0 0]) ?_ 0 _ rfl; exact GB6.out) Try.underlying24 rfl (by kernel_rfl) (Vals.tmp Vals.nil))) rfl ?_
    refine ⟨_, rfl, ?_, ?_⟩
    · exact Kd.V_nil _ _ _ _ _
    · exact below_set (below_set (below_then HB0.out hs0 HB6.out) HGB.out) HGB.out
set_option maxHeartbeats 4000000 in
set_option maxRecDepth 100000 in
theorem member_calls {w : World} {B n : Nat} {v pv : Value} {okp : Nat → Prop} {ls : List Lv} {p : List Int} (hn : 0 < n) (hn' : n ≤ 512) (hC : RCh w B n v ls) (hP : PC n [] ls) (hlen : ls.length ≤ 1000000) (hv : PV w okp pv p) (hp : IsP n p) :
    Calls Try.prog 58 #[v, pv] w fun e w' => e = .returned (.bool (inF ls p)) ∧ Below w.heap.size w w' := by
  have hs : Calls Try.prog 87 #[v, .int .i64 0, pv] w fun e w' => ∃ u, e = .returned (.tuple #[u, .int .i64 ((siftF ls p).2 : Int)]) ∧ PV w' (fun b => okp b ∨ w.heap.size ≤ b) u (residF ls p) ∧ Below w.heap.size w w' := by
    have h := sift_calls (k := 0) hn hn' hC (PC_ok hP) (Nat.zero_le _) hlen hv hp
    rw [List.drop_zero, Nat.zero_add, siftF_fst] at h
    exact h
  have HS := Aside0.mk hs
  have HRI := Aside0.mk (resid_isP (PC_ok hP) hp)
  obtain ⟨A, c, rfl⟩ := hC.slice
  obtain ⟨Ap, cp, rfl, -, -⟩ := PV.read hv
  obtain ⟨t, ht⟩ : ∃ t, (siftF ls p).2 = t := ⟨_, rfl⟩
  rw [ht] at HS
  obtain ⟨m, hm⟩ : ∃ m, ls.length = m := ⟨_, rfl⟩
  rw [hm] at HS ⊢
  clear hs hC hP hv hp hlen ht hm hn
  go_enter Try.func58, Try.ntmps58
  go_wp2_with (first | (go_at_call 87; (with_reducible refine HS.out.mono ?_); rintro e w2 ⟨u, rfl, hU, hb⟩; have HU := Aside0.mk hU; have HB2 := Aside0.mk hb; clear hU hb) | (go_at_call 88; (with_reducible refine (rmoved_pv (by rw [HRI.out.len]; exact hn') HU.out).mono ?_); rintro e w3 ⟨rfl, hD⟩; have HD := Aside0.mk hD; clear hD))
  go_ret
  refine ⟨rfl, ?_⟩
  exact below_then HB2.out HB2.out.size HD.out.below
def quadformref16_Contains.f (k : Nat) (a0 : Int) (l1 : List (List Int)) (l2 : List Int) : Option (Bool × Int) := (quadformref16_Group.f k a0 l1).bind fun e => if e = 0 then (if (l2.length : Int) = a0 then ((quadformref16_Valid.f k l2).bind fun o => if o = true then (if (okB a0 l1 && isPB a0.toNat l2) = true then (chainF a0.toNat k l1 []).bind fun ls => some (inF ls l2, 0) else none) else some (false, 3)) else some (false, 3)) else some (false, e)
theorem quadformref16_Contains.mono : ∀ a0 a1 a2 k, LeO (quadformref16_Contains.f k a0 a1 a2) (quadformref16_Contains.f (k + 1) a0 a1 a2) := by
  intro a0 a1 a2 k
  unfold quadformref16_Contains.f
  exact LeO.bind (quadformref16_Group.mono a0 a1 k) (fun e => LeO.ite (LeO.ite (LeO.bind (quadformref16_Valid.mono a2 k) (fun o => LeO.ite (LeO.ite (LeO.bind (chainF_mono _ _ _ _) (fun ls => LeO.refl _)) (LeO.refl _)) (LeO.refl _))) (LeO.refl _)) (LeO.refl _))
set_option maxHeartbeats 4000000 in
set_option maxRecDepth 100000 in
theorem quadformref16_Contains.calls (k : Nat) (a0 : Int) (A1 : Option Addr) (c1 : Nat) (l1 : List (List Int)) (A2 : Option Addr) (c2 : Nat) (l2 : List Int) (r1 : Bool) (r2 : Int) (w : World) (hr1 : Kd.C (Kd.slice 3 (Kd.int .i64)) w A1 l1.length l1) (hc1 : l1.length ≤ c1) (hr2 : Kd.C (Kd.int .i64) w A2 l2.length l2) (hc2 : l2.length ≤ c2) (h : quadformref16_Contains.f k a0 l1 l2 = some (r1, r2)) :
    Calls Try.prog 24 #[.int .i64 a0, .slice A1 l1.length c1, .slice A2 l2.length c2] w fun e w' => e = .returned (.tuple #[.bool r1, .int .i64 r2]) ∧ Below w.heap.size w w' := by
  unfold quadformref16_Contains.f at h
  obtain ⟨e, he, h⟩ := Option.bind_eq_some_iff.1 h
  have HR1 := Aside0.mk hr1
  have HC1 := Aside0.mk hc1
  have HR2 := Aside0.mk hr2
  have HC2 := Aside0.mk hc2
  have HE := Aside0.mk he
  clear hr1 hc1 hr2 hc2 he
  by_cases h0 : e = 0
  · rw [if_pos h0] at h
    by_cases hln : (l2.length : Int) = a0
    · rw [if_pos hln] at h
      have hlb : ((l2.length : Int) != a0) = false := bne_eq_false_iff_eq.2 hln
      have hlb2 : ((l2.length : Int) == a0) = true := beq_iff_eq.2 hln
      obtain ⟨o, ho, h⟩ := Option.bind_eq_some_iff.1 h
      have HO := Aside0.mk ho
      clear ho
      by_cases ho1 : o = true
      · rw [if_pos ho1] at h
        by_cases hok : (okB a0 l1 && isPB a0.toNat l2) = true
        · rw [if_pos hok] at h
          rw [Bool.and_eq_true] at hok
          obtain ⟨m, rfl, hm, hm11, hg, hl⟩ := okB_ok hok.1
          have hp2 := isPB_ok hok.2
          rw [Int.toNat_natCast] at h hp2
          obtain ⟨ls, hls, h⟩ := Option.bind_eq_some_iff.1 h
          have h := Option.some.inj h
          simp only [Prod.mk.injEq] at h
          obtain ⟨e1, e2⟩ := h
          subst e1 e2 h0 ho1
          obtain ⟨hpc, -, -, hll⟩ := chain_pc hg (fun x hx => by simp at hx) List.nodup_nil hls
          have HM := Aside0.mk hm
          have HGN := Aside0.mk hg
          have HLS := Aside0.mk hls
          have HPC := Aside0.mk hpc
          have HLN := Aside0.mk hll
          have HL := Aside0.mk hl
          have HP2 := Aside0.mk hp2
          obtain ⟨ln, hl2⟩ : ∃ ln, l2.length = ln := ⟨_, rfl⟩
          clear hok hm hg hl hls hp2 hpc hll hl2
          go_enter Try.func24, Try.ntmps24
          go_wp2_with (first | (go_at_call 40; (with_reducible refine (quadformref16_Group.calls k (m : Int) A1 c1 l1 0 _ HR1.out HC1.out HE.out).mono ?_); rintro e w6 ⟨rfl, hb6⟩; have HB6 := Aside0.mk hb6; clear hb6) | (go_at_call 57; (with_reducible refine (quadformref16_Valid.calls k A2 c2 l2 true _ (Kd.C_below HR2.out HB6.out) HC2.out HO.out).mono ?_); rintro e w7 ⟨rfl, hb7⟩; have HB7 : Aside0 (Below w.heap.size w w7) := ⟨below_step (w := w) HB6.out hb7⟩; clear hb7) | (go_at_call 54; (with_reducible refine (chain_nil HM.out (by omega) (Kd.C_below HR1.out HB7.out) HGN.out (by have := HL.out; omega) HLS.out).mono ?_); rintro e w8 ⟨v8, rfl, hC8, hb8⟩; have HG8 := Aside0.mk hC8; have HB8 : Aside0 (Below w.heap.size w w8) := ⟨below_step (w := w) HB7.out hb8⟩; clear hC8 hb8) | (go_at_call 58; (with_reducible refine (member_calls HM.out (by omega) HG8.out HPC.out (by have := HLN.out; omega) (pv_of_C (Kd.C_below HR2.out HB8.out) HC2.out) HP2.out).mono ?_); rintro e w9 ⟨rfl, hb9⟩; have HB9 : Aside0 (Below w.heap.size w w9) := ⟨below_step (w := w) HB8.out hb9⟩; clear hb9))
          refine bodyPost_ret (results_list (rs := [.tmp 6, .tmp 7]) (vs := [.bool (inF ls l2), .int .i64 0]) rfl (by simp) (Vals.tmp (Vals.tmp Vals.nil))) rfl ?_
          exact ⟨rfl, HB9.out⟩
        · rw [if_neg hok] at h
          cases h
      · rw [if_neg ho1] at h
        have h := Option.some.inj h
        simp only [Prod.mk.injEq] at h
        obtain ⟨e1, e2⟩ := h
        subst e1 e2 h0
        have ho2 : o = false := by simpa using ho1
        subst ho2
        clear ho1
        go_enter Try.func24, Try.ntmps24
        go_wp2_with (first | (go_at_call 40; (with_reducible refine (quadformref16_Group.calls k a0 A1 c1 l1 0 _ HR1.out HC1.out HE.out).mono ?_); rintro e w6 ⟨rfl, hb6⟩; have HB6 := Aside0.mk hb6; clear hb6) | (go_at_call 57; (with_reducible refine (quadformref16_Valid.calls k A2 c2 l2 false _ (Kd.C_below HR2.out HB6.out) HC2.out HO.out).mono ?_); rintro e w7 ⟨rfl, hb7⟩; have HB7 : Aside0 (Below w.heap.size w w7) := ⟨below_step (w := w) HB6.out hb7⟩; clear hb7))
        refine bodyPost_ret (results_list (rs := [.tmp 6, .tmp 7]) (vs := [.bool false, .int .i64 3]) rfl (by simp) (Vals.tmp (Vals.tmp Vals.nil))) rfl ?_
        exact ⟨rfl, HB7.out⟩
    · rw [if_neg hln] at h
      have hlb : ((l2.length : Int) != a0) = true := by simpa using hln
      have hlb2 : ((l2.length : Int) == a0) = false := beq_eq_false_iff_ne.2 hln
      have h := Option.some.inj h
      simp only [Prod.mk.injEq] at h
      obtain ⟨e1, e2⟩ := h
      subst e1 e2 h0
      go_enter Try.func24, Try.ntmps24
      go_wp2_with (first | (go_at_call 40; (with_reducible refine (quadformref16_Group.calls k a0 A1 c1 l1 0 _ HR1.out HC1.out HE.out).mono ?_); rintro e w6 ⟨rfl, hb6⟩; have HB6 := Aside0.mk hb6; clear hb6))
      refine bodyPost_ret (results_list (rs := [.tmp 6, .tmp 7]) (vs := [.bool false, .int .i64 3]) rfl (by simp) (Vals.tmp (Vals.tmp Vals.nil))) rfl ?_
      exact ⟨rfl, HB6.out⟩
  · rw [if_neg h0] at h
    have h := Option.some.inj h
    simp only [Prod.mk.injEq] at h
    obtain ⟨e1, e2⟩ := h
    subst e1 e2
    go_enter Try.func24, Try.ntmps24
    go_wp2_with (first | (go_at_call 40; (with_reducible refine (quadformref16_Group.calls k a0 A1 c1 l1 e _ HR1.out HC1.out HE.out).mono ?_); rintro e w6 ⟨rfl, hb6⟩; have HB6 := Aside0.mk hb6; clear hb6))
    refine bodyPost_ret (results_list (rs := [.tmp 6, .tmp 7]) (vs := [.bool false, .int .i64 e]) rfl (by simp) (Vals.tmp (Vals.tmp Vals.nil))) rfl ?_
    exact ⟨rfl, HB6.out⟩
end Go.Proofs.Ytpkgckccfanchaa.M

namespace Go.Proofs.Ytpkgckccfanchaa.M
open Go.RowKit Go.Proofs.YtpkgckccfanchaaW.PrintWords Go.Proofs.YtpkgckccfanchaaW.PrintLast Go.Proofs.YtpkgckccfanchaaW.PrintMore
open Sims
set_option linter.unusedVariables false
set_option linter.unusedSimpArgs false
theorem rgroup_go {n : Nat} (hn : 0 < n) (hn' : n ≤ 512) {gens : List (List Int)} (hg : ∀ g ∈ gens, IsP n g) (hl : gens.length < 1000000) : ∀ (d i k : Nat), i + d = gens.length → d + n + 10 ≤ k → quadformref16_Group.l0 k (n : Int) gens (gens.length : Int) (i : Int) = some 0
  | d, i, 0, _, hk => by omega
  | 0, i, k + 1, hi, hk => by
    unfold quadformref16_Group.l0
    rw [if_neg (by omega)]
  | d + 1, i, k + 1, hi, hk => by
    have hil : i < gens.length := by omega
    have e : rd_L1 gens (i : Int) = gens[i] := by simp [rd_L1, List.getD_eq_getElem?_getD, hil]
    have hp := hg _ (List.getElem_mem hil)
    have hw : wrap64 ((i : Int) + 1) = ((i + 1 : Nat) : Int) := by unfold wrap64; omega
    unfold quadformref16_Group.l0
    rw [if_pos (by omega), if_pos (by omega), if_pos (by omega), e, if_pos (by rw [hp.len]), rvalid_ok hn hn' hp (by omega), Option.bind_some, if_pos rfl, hw]
    exact rgroup_go hn hn' hg hl d (i + 1) k (by omega) (by omega)
theorem rgroup_ok {n : Nat} (hn : 0 < n) (hn' : n ≤ 512) {gens : List (List Int)} (hg : ∀ g ∈ gens, IsP n g) (hl : gens.length ≤ 64) {k : Nat} (hk : gens.length + n + 11 ≤ k) : quadformref16_Group.f k (n : Int) gens = some 0 := by
  obtain ⟨k, rfl⟩ : ∃ j, k = j + 1 := ⟨k - 1, by omega⟩
  unfold quadformref16_Group.f
  rw [if_neg (by omega), quadformref16_Group.j0, if_neg (by simp; omega), if_neg (by omega)]
  exact rgroup_go hn hn' hg (by omega) gens.length 0 k (by omega) (by omega)
theorem rchain_ok {n : Nat} {gens : List (List Int)} (hg : ∀ g ∈ gens, IsP n g) {base : List Int} (hb : ∀ x ∈ base, 0 ≤ x ∧ x < n) (hn : base.Nodup) : ∃ f ls, (∀ k, f ≤ k → chainF n k gens base = some ls) ∧ PC n [] ls ∧ grp n ls = GL n gens ∧ (∃ m, ls.map (·.point) = base ++ m) := by
  obtain ⟨f, ls, h1, h2, h3, h4, -⟩ := chain_ok hg hb hn
  exact ⟨f, ls, fun k hk => chainF_up h1 hk, h2, h3, h4⟩
end Go.Proofs.Ytpkgckccfanchaa.M

namespace Go.Proofs.Ytpkgckccfanchaa.M
open Go.RowKit Go.Proofs.YtpkgckccfanchaaW.PrintWords Go.Proofs.YtpkgckccfanchaaW.PrintLast Go.Proofs.YtpkgckccfanchaaW.PrintMore
open Sims
set_option linter.unusedVariables false
set_option linter.unusedSimpArgs false
def SeenAt (w : World) (b : Nat) (xs : List Int) : Prop := ∃ es ck, w.heap[b]? = some (.map es ck) ∧ es.toList.map (fun e => (e.key, e.val)) = xs.map (fun x => (Value.int .i64 x, Value.bool true))
theorem seen_mem {es : Array MapEntry} {xs : List Int} (h : es.toList.map (fun e => (e.key, e.val)) = xs.map (fun x => (Value.int .i64 x, Value.bool true))) {e : MapEntry} (he : e ∈ es.toList) : ∃ x ∈ xs, e.key = .int .i64 x := by
  have h1 : (e.key, e.val) ∈ xs.map (fun x => (Value.int .i64 x, Value.bool true)) := h ▸ List.mem_map_of_mem (f := fun e : MapEntry => (e.key, e.val)) he
  obtain ⟨x, hx, e2⟩ := List.mem_map.1 h1
  exact ⟨x, hx, (congrArg Prod.fst e2).symm⟩
theorem seen_get {es : Array MapEntry} {xs : List Int} (h : es.toList.map (fun e => (e.key, e.val)) = xs.map (fun x => (Value.int .i64 x, Value.bool true))) {j : Nat} {x : Int} (hx : xs[j]? = some x) : ∃ e, es.toList[j]? = some e ∧ e.key = .int .i64 x ∧ e.val = .bool true := by
  have h1 : (es.toList.map (fun e => (e.key, e.val)))[j]? = some (Value.int .i64 x, Value.bool true) := by rw [h, List.getElem?_map, hx]; rfl
  rw [List.getElem?_map] at h1
  obtain ⟨e, he, e2⟩ := Option.map_eq_some_iff.1 h1
  exact ⟨e, he, congrArg Prod.fst e2, congrArg Prod.snd e2⟩
theorem int_key_inj {x y : Int} (h : Value.int .i64 x = Value.int .i64 y) : x = y := by cases h; rfl
theorem seen_ok {es : Array MapEntry} {xs : List Int} (h : es.toList.map (fun e => (e.key, e.val)) = xs.map (fun x => (Value.int .i64 x, Value.bool true))) (hr : ∀ x ∈ xs, 0 ≤ x ∧ x < 1000) : KeysOk Try.prog 3 es := by
  intro e he
  obtain ⟨x, hx, e2⟩ := seen_mem h he
  have := hr x hx
  rw [e2]
  exact ⟨_, key_int (by omega) (by omega)⟩
theorem seen_distinct {es : Array MapEntry} {xs : List Int} (h : es.toList.map (fun e => (e.key, e.val)) = xs.map (fun x => (Value.int .i64 x, Value.bool true))) (hn : xs.Nodup) : es.toList.Pairwise (fun x y => x.key ≠ y.key) := by
  have h1 : (es.toList.map (fun e => (e.key, e.val))).Pairwise (fun a b => a.1 ≠ b.1) := by
    rw [h, List.pairwise_map]
    exact hn.imp (fun hxy e => hxy (int_key_inj e))
  exact (List.pairwise_map (f := fun e : MapEntry => (e.key, e.val)) (R := fun a b => a.1 ≠ b.1)).1 h1
theorem seen_look {w : World} {b : Nat} {xs : List Int} (h : SeenAt w b xs) (hr : ∀ x ∈ xs, 0 ≤ x ∧ x < 1000) (hn : xs.Nodup) {x : Int} (h0 : 0 ≤ x) (h1 : x < 1000) :
    (Instr.lookup 129 (.map (some b)) (.int .i64 x) false).run Try.prog w = .ok (.bool (decide (x ∈ xs))) w := by
  obtain ⟨es, ck, hb, hm⟩ := h
  have hz : (zeroValue 4).run Try.prog w = .ok (.bool false) w := by kernel_rfl
  by_cases hx : x ∈ xs
  · obtain ⟨j, hj, e⟩ := List.getElem_of_mem hx
    obtain ⟨e0, he0, hk0, hv0⟩ := seen_get hm (show xs[j]? = some x by rw [List.getElem?_eq_getElem hj, e])
    rw [gm_look_some law_int Try.underlying129 hb (seen_ok hm hr) (seen_distinct hm hn) (key_int (by omega) (by omega)) he0 hk0 false, hv0, decide_eq_true hx]
    rfl
  · rw [gm_look_none law_int Try.underlying129 hz hb (seen_ok hm hr) (key_int (x := x) (by omega) (by omega)) (fun e he hke => by
      obtain ⟨y, hy, e2⟩ := seen_mem hm he
      rw [e2] at hke
      exact hx (int_key_inj hke ▸ hy)) false, decide_eq_false hx]
    rfl
theorem seen_put {w w0 : World} {b : Nat} {xs : List Int} (h : SeenAt w b xs) (hr : ∀ x ∈ xs, 0 ≤ x ∧ x < 1000) {x : Int} (h0 : 0 ≤ x) (h1 : x < 1000) (hx : x ∉ xs) (hB : Below w0.heap.size w0 w) (hb0 : w0.heap.size ≤ b) :
    ∃ w1, (Instr.mapUpdate 129 (.map (some b)) (.int .i64 x) (.bool true)).run Try.prog w = .ok () w1 ∧ SeenAt w1 b (xs ++ [x]) ∧ Below w0.heap.size w0 w1 := by
  obtain ⟨es, ck, hb, hm⟩ := h
  refine ⟨_, gm_store_new law_int Try.underlying129 hb (seen_ok hm hr) (key_int (x := x) (by omega) (by omega)) (fun e he hke => ?_) (.bool true), ⟨_, ck + 1, setBlock_at w b _ (lt_of_some hb), ?_⟩, ?_⟩
  · obtain ⟨y, hy, e2⟩ := seen_mem hm he
    rw [e2] at hke
    exact hx (int_key_inj hke ▸ hy)
  · rw [Array.toList_push, List.map_append, hm, List.map_append]
    rfl
  · exact ((Chg.of_below (S := fun _ => False) (w1 := w) (w := w0) hB).trans (Chg.block w b _) (fun k hk => Or.inr (by have e : k = b := hk; omega))).below (Nat.le_refl _) (fun k hk => hk.elim)
def diffB (n : Int) (l : List Int) : Bool := l.all (fun x => decide (0 ≤ x ∧ x < n)) && decide l.Nodup
theorem diffB_true {n : Int} {l : List Int} (h : diffB n l = true) : (∀ x ∈ l, 0 ≤ x ∧ x < n) ∧ l.Nodup := by
  simp only [diffB, Bool.and_eq_true, List.all_eq_true, decide_eq_true_eq] at h
  exact h
theorem diffB_range {n : Int} {l : List Int} {j : Nat} {x : Int} (hx : l[j]? = some x) (h : ¬ (0 ≤ x ∧ x < n)) : diffB n l = false := by
  rw [Bool.eq_false_iff]
  intro h2
  exact h ((diffB_true h2).1 x (List.mem_of_getElem? hx))
theorem diffB_twice {n : Int} {l : List Int} {j : Nat} {x : Int} (hx : l[j]? = some x) (h : x ∈ l.take j) : diffB n l = false := by
  rw [Bool.eq_false_iff]
  intro h2
  have hn := (diffB_true h2).2
  obtain ⟨i, hi, e⟩ := List.getElem_of_mem h
  obtain ⟨hj, e2⟩ := List.getElem?_eq_some_iff.1 hx
  rw [List.getElem_take] at e
  have hi2 : i < j := by simp at hi; omega
  exact (List.pairwise_iff_getElem.1 hn) i j (by omega) hj hi2 (e.trans e2.symm)
set_option maxHeartbeats 4000000 in
set_option maxRecDepth 100000 in
theorem different_calls {w : World} {A : Option Addr} {c : Nat} {l : List Int} {n : Nat} (hn : n ≤ 512) (hC : Kd.C (Kd.int .i64) w A l.length l) :
    Calls Try.prog 63 #[.int .i64 (n : Int), .slice A l.length c] w fun e w' => e = .returned (.bool (diffB n l)) ∧ Below w.heap.size w w' := by
  have HC := Aside0.mk hC
  clear hC
  have hmm := @run_makeMap Try.prog
  go_enter Try.func63, Try.ntmps63
  go_wp2
  have HS0 : Aside0 (SeenAt (w.alloc (.map #[] 0)) w.heap.size (l.take 0)) := ⟨⟨#[], 0, blk_new w _, rfl⟩⟩
  have HB0 : Aside0 (Below w.heap.size w (w.alloc (.map #[] 0))) := ⟨below_alloc (Below.refl _ _) _⟩
  go_loopw [11] (fun x wr => ∃ j : Nat, x = .int .i64 j ∧ j ≤ l.length ∧ Aside0 (∀ x ∈ l.take j, 0 ≤ x ∧ x < (n : Int)) ∧ Aside0 (l.take j).Nodup ∧ Aside0 (SeenAt wr w.heap.size (l.take j)) ∧ Aside0 (Below w.heap.size w wr)) (fun x _ => l.length - (intOf x).toNat)
  case atStart => exact ⟨0, rfl, by omega, ⟨fun x hx => by simp at hx⟩, ⟨by simp⟩, HS0, HB0⟩
  case round =>
    clear HS0 HB0 hmm
    obtain ⟨j, rfl, hj, HRG, HND, HS, HB⟩ := hrel
    by_cases hlt : j < l.length
    · obtain ⟨x, hx⟩ : ∃ x, l[j]? = some x := ⟨l[j]'hlt, List.getElem?_eq_getElem _⟩
      obtain ⟨ad, rfl, hc⟩ := Kd.at_int (Kd.C_below HC.out HB.out) (j : Int) (by omega) (by omega)
      have hrd : rd l (j : Int) = x := by simp [rd, List.getD_eq_getElem?_getD, hx]
      rw [hrd, Int.toNat_natCast] at hc
      have hlt2 : (j : Int) < (l.length : Int) := by omega
      have HX := Aside0.mk hx
      have HLN : Aside0 (l.length ≤ 9223372036854775807) := ⟨HC.out.2.1⟩
      clear hx hrd
      by_cases h0 : x < 0
      · have HF := Aside0.mk (diffB_range (n := n) HX.out (by omega))
        go_wp2
        go_ret
        exact ⟨by rw [HF.out]; rfl, HB.out⟩
      · by_cases h1 : (n : Int) ≤ x
        · have HF := Aside0.mk (diffB_range (n := n) HX.out (by omega))
          go_wp2
          go_ret
          exact ⟨by rw [HF.out]; rfl, HB.out⟩
        · have hlook := seen_look HS.out (fun y hy => by have := HRG.out y hy; omega) HND.out (x := x) (by omega) (by omega)
          by_cases hm : x ∈ l.take j
          · have HF := Aside0.mk (diffB_twice (n := n) HX.out hm)
            rw [decide_eq_true hm] at hlook
            go_wp2
            go_ret
            exact ⟨by rw [HF.out]; rfl, HB.out⟩
          · rw [decide_eq_false hm] at hlook
            obtain ⟨w1, hst, hs1, hb1⟩ := seen_put HS.out (fun y hy => by have := HRG.out y hy; omega) (x := x) (by omega) (by omega) hm HB.out (Nat.le_refl _)
            have ht : l.take (j + 1) = l.take j ++ [x] := by
              obtain ⟨q1, q2⟩ := List.getElem?_eq_some_iff.1 HX.out
              rw [List.take_succ_eq_append_getElem q1, q2]
            have HT := Aside0.mk ht
            have HS1 := Aside0.mk hs1
            have HB1 := Aside0.mk hb1
            have HM := Aside0.mk hm
            clear hs1 hb1 hm ht
            have hln := HLN.out
            have hw : wrap64 ((j : Int) + 1) = (j : Int) + 1 := by unfold wrap64; omega
            go_wp2
            go_roundw
            case rel =>
              refine ⟨j + 1, by go_num, by omega, ⟨?_⟩, ⟨?_⟩, ⟨?_⟩, HB1⟩
              · rw [HT.out]
                intro y hy
                rcases List.mem_append.1 hy with hy | hy
                · exact HRG.out y hy
                · rw [List.mem_singleton] at hy; omega
              · rw [HT.out]
                exact List.nodup_append.2 ⟨HND.out, by simp, fun a ha b hb e => by rw [List.mem_singleton] at hb; subst hb; exact HM.out (e ▸ ha)⟩
              · rw [HT.out]; exact HS1.out
            case measure => simp [intOf]; omega
    · obtain rfl : j = l.length := by omega
      have HF : Aside0 (diffB n l = true) := ⟨by
        have h1 := HRG.out
        have h2 := HND.out
        rw [List.take_length] at h1 h2
        simp only [diffB, Bool.and_eq_true, List.all_eq_true, decide_eq_true_eq]
        exact ⟨h1, h2⟩⟩
      go_wp2
      go_ret
      exact ⟨by rw [HF.out]; rfl, HB.out⟩
end Go.Proofs.Ytpkgckccfanchaa.M

namespace Go.Proofs.Ytpkgckccfanchaa.M
open Go.RowKit Go.Proofs.YtpkgckccfanchaaW.PrintWords Go.Proofs.YtpkgckccfanchaaW.PrintLast Go.Proofs.YtpkgckccfanchaaW.PrintMore
open Sims
set_option linter.unusedVariables false
set_option linter.unusedSimpArgs false
end Go.Proofs.Ytpkgckccfanchaa.M

namespace Go.Proofs.Ytpkgckccfanchaa.M
open Go.RowKit Go.Proofs.YtpkgckccfanchaaW.PrintWords Go.Proofs.YtpkgckccfanchaaW.PrintLast Go.Proofs.YtpkgckccfanchaaW.PrintMore
open Sims
set_option linter.unusedVariables false
set_option linter.unusedSimpArgs false
theorem group_base_len {n : Nat} {gens : List (List Int)} {base : List Int} {ls : List Lv} (hg : ∀ g ∈ gens, IsP n g) (hb : ∀ x ∈ base, 0 ≤ x ∧ x < n) (hbn : base.Nodup) (h : groupF n (n + 1) gens base = some ls) : base.length ≤ ls.length := by
  obtain ⟨ls', e, _, _, ⟨m, h4⟩, _⟩ := group_ok (Nat.le_refl _) hg hb hbn
  rw [e] at h
  cases h
  have := congrArg List.length h4
  simp at this
  omega
def stabchain_Lengths.f (k : Nat) (a0 : Int) (l1 : List (List Int)) (l2 : List Int) : Option (List Int × Int) := (stabchain_arguments.f k a0 l1).bind fun e => if e = 0 then (if okB a0 l1 = true then (if diffB a0 l2 = true then (groupF a0.toNat (a0.toNat + 1) l1 l2).bind fun ls => some ((lensF ls).take l2.length, 0) else some ([], 1)) else none) else some ([], e)
theorem stabchain_Lengths.mono : ∀ a0 a1 a2 k, LeO (stabchain_Lengths.f k a0 a1 a2) (stabchain_Lengths.f (k + 1) a0 a1 a2) := by
  intro a0 a1 a2 k
  unfold stabchain_Lengths.f
  exact LeO.bind (stabchain_arguments.mono a0 a1 k) (fun e => LeO.refl _)
set_option maxHeartbeats 4000000 in
set_option maxRecDepth 100000 in
theorem stabchain_Lengths.calls (k : Nat) (a0 : Int) (A1 : Option Addr) (c1 : Nat) (l1 : List (List Int)) (A2 : Option Addr) (c2 : Nat) (l2 : List Int) (r1 : List Int) (r2 : Int) (w : World) (hr1 : Kd.C (Kd.slice 3 (Kd.int .i64)) w A1 l1.length l1) (hc1 : l1.length ≤ c1) (hr2 : Kd.C (Kd.int .i64) w A2 l2.length l2) (hc2 : l2.length ≤ c2) (h : stabchain_Lengths.f k a0 l1 l2 = some (r1, r2)) :
    Calls Try.prog 30 #[.int .i64 a0, .slice A1 l1.length c1, .slice A2 l2.length c2] w fun e w' => ∃ v0_ : Value, e = .returned (.tuple #[v0_, .int .i64 r2]) ∧ Kd.R (Kd.int .i64) 3 w' w.heap.size (fun _ => True) v0_ r1 ∧ Below w.heap.size w w' := by
  unfold stabchain_Lengths.f at h
  obtain ⟨e, he, h⟩ := Option.bind_eq_some_iff.1 h
  have HR1 := Aside0.mk hr1
  have HC1 := Aside0.mk hc1
  have HR2 := Aside0.mk hr2
  have HC2 := Aside0.mk hc2
  have HE := Aside0.mk he
  clear hr1 hc1 hr2 hc2 he
  by_cases h0 : e = 0
  · rw [if_pos h0] at h
    by_cases hok : okB a0 l1 = true
    · rw [if_pos hok] at h
      obtain ⟨m, rfl, hm, hm11, hg, hl⟩ := okB_ok hok
      by_cases hd : diffB m l2 = true
      · rw [if_pos hd, Int.toNat_natCast] at h
        obtain ⟨ls, hls, h⟩ := Option.bind_eq_some_iff.1 h
        have h := Option.some.inj h
        simp only [Prod.mk.injEq] at h
        obtain ⟨e1, e2⟩ := h
        subst e1 e2 h0
        obtain ⟨hb, hbn⟩ := diffB_true hd
        have HM := Aside0.mk hm
        have HGN := Aside0.mk hg
        have HLS := Aside0.mk hls
        have HLN := Aside0.mk (group_len hg hb hbn hls)
        have hbl := group_base_len hg hb hbn hls
        have hbl2 : l2.length ≤ (lensF ls).length := by rw [lensF_length]; exact hbl
        have HL := Aside0.mk hl
        have HD := Aside0.mk hd
        have HBL := Aside0.mk hbl2
        clear hok hm hg hl hls hd hb hbn hbl
        go_enter Try.func30, Try.ntmps30
        go_wp2_with (first | (go_at_call 47; (with_reducible refine (stabchain_arguments.calls k (m : Int) A1 c1 l1 0 _ HR1.out HC1.out HE.out).mono ?_); rintro e w6 ⟨rfl, hb6⟩; have HB6 := Aside0.mk hb6; clear hb6) | (go_at_call 63; (with_reducible refine (different_calls (by omega) (Kd.C_below HR2.out HB6.out)).mono ?_); rintro e w7 ⟨rfl, hb7⟩; rw [HD.out]; have HB7 : Aside0 (Below w.heap.size w w7) := ⟨below_step (w := w) HB6.out hb7⟩; clear hb7) | (go_at_call 48; (with_reducible refine (newGroup_calls HM.out hm11 (Kd.C_below HR1.out HB7.out) (Kd.C_below HR2.out HB7.out) HGN.out (diffB_true HD.out).1 (diffB_true HD.out).2 HL.out HLS.out).mono ?_); rintro e w8 ⟨g, av, cs, PB, rfl, hG, hPC, hb8⟩; have HG8 := Aside0.mk hG; have HB8 : Aside0 (Below w.heap.size w w8) := ⟨below_step (w := w) HB7.out hb8⟩; clear hG hb8 hPC) | (go_at_call 64; (with_reducible refine (lengths_calls HG8.out (by have := HLN.out; omega)).mono ?_); rintro e w9 ⟨v, rfl, hR, hb9⟩; obtain ⟨A9, c9, rfl, hl9, hC9⟩ := Kd.R_reads hR; have HR9 := Aside0.mk hR; have hl92 : l2.length ≤ c9 := Nat.le_trans hbl2 hl9; have HB9 : Aside0 (Below w.heap.size w w9) := ⟨below_step (w := w) HB8.out hb9⟩; clear hR hb9 hC9))
        refine bodyPost_ret (results_list (rs := [.tmp 6, .tmp 7]) (vs := [.slice A9 l2.length c9, .int .i64 0]) rfl (by simp) (Vals.tmp (Vals.tmp Vals.nil))) rfl ?_
        exact ⟨_, rfl, Kd.R_lower (Kd.R_take HR9.out HBL.out) HB8.out.size, HB9.out⟩
      · rw [if_neg hd] at h
        have h := Option.some.inj h
        simp only [Prod.mk.injEq] at h
        obtain ⟨e1, e2⟩ := h
        subst e1 e2 h0
        have HD : Aside0 (diffB m l2 = false) := ⟨by simpa using hd⟩
        clear hd
        go_enter Try.func30, Try.ntmps30
        go_wp2_with (first | (go_at_call 47; (with_reducible refine (stabchain_arguments.calls k (m : Int) A1 c1 l1 0 _ HR1.out HC1.out HE.out).mono ?_); rintro e w6 ⟨rfl, hb6⟩; have HB6 := Aside0.mk hb6; clear hb6) | (go_at_call 63; (with_reducible refine (different_calls (by omega) (Kd.C_below HR2.out HB6.out)).mono ?_); rintro e w7 ⟨rfl, hb7⟩; rw [HD.out]; have HB7 : Aside0 (Below w.heap.size w w7) := ⟨below_step (w := w) HB6.out hb7⟩; clear hb7))
        refine bodyPost_ret (results_list (rs := [.tmp 6, .tmp 7]) (vs := [.slice none 0 0, .int .i64 1]) rfl (by simp) (Vals.tmp (Vals.tmp Vals.nil))) rfl ?_
        exact ⟨_, rfl, Kd.R_nil _ _ _ _ _, HB7.out⟩
    · rw [if_neg hok] at h
      cases h
  · rw [if_neg h0] at h
    have h := Option.some.inj h
    simp only [Prod.mk.injEq] at h
    obtain ⟨e1, e2⟩ := h
    subst e1 e2
    go_enter Try.func30, Try.ntmps30
    go_wp2_with (first | (go_at_call 47; (with_reducible refine (stabchain_arguments.calls k a0 A1 c1 l1 e _ HR1.out HC1.out HE.out).mono ?_); rintro e w6 ⟨rfl, hb6⟩; have HB6 := Aside0.mk hb6; clear hb6))
    refine bodyPost_ret (results_list (rs := [.tmp 6, .tmp 7]) (vs := [.slice none 0 0, .int .i64 e]) rfl (by simp) (Vals.tmp (Vals.tmp Vals.nil))) rfl ?_
    exact ⟨_, rfl, Kd.R_nil _ _ _ _ _, HB6.out⟩
end Go.Proofs.Ytpkgckccfanchaa.M

namespace Go.Proofs.Ytpkgckccfanchaa.M
open Go.RowKit Go.Proofs.YtpkgckccfanchaaW.PrintWords Go.Proofs.YtpkgckccfanchaaW.PrintLast Go.Proofs.YtpkgckccfanchaaW.PrintMore
attribute [local go_sem] max2_int min2_int max_two min_two max_three min_three max_four min_four
set_option linter.unusedVariables false
set_option linter.unusedSimpArgs false
def quadformref16_has.l0 : Nat → Int → List Int → Int → Int → Option (Bool)
  | 0, _, _, _, _ => none
  | k + 1, x1, x7, x8, x9 => if x9 < x8 then (if 0 ≤ x9 then (if x9 < (x7.length : Int) then (if x1 = (rd x7 x9) then (some true) else (quadformref16_has.l0 k x1 x7 x8 (wrap64 (x9 + 1)))) else (none)) else (none)) else (some false)
def quadformref16_has.f (k : Nat) (l0 : List Int) (a1 : Int) : Option (Bool) := quadformref16_has.l0 k a1 l0 (l0.length : Int) 0
theorem quadformref16_has.mono_l : ∀ k, (∀ y0 y1 y2 y3, LeO (quadformref16_has.l0 k y0 y1 y2 y3) (quadformref16_has.l0 (k + 1) y0 y1 y2 y3))
  | 0 => fun _ _ _ _ r h => by simp [quadformref16_has.l0] at h
  | k + 1 => by
    have ih0 := quadformref16_has.mono_l k
    · intro y0 y1 y2 y3
      unfold quadformref16_has.l0
      repeat' first
      | (with_reducible exact ih0 _ _ _ _)
      | (with_reducible exact LeO.refl _)
      | (with_reducible exact LeO.none _)
      | (with_reducible refine LeO.ite ?_ ?_)
      | (with_reducible refine LeO.bind ?_ (fun _ => ?_))
      | exact ih0 _ _ _ _
      | exact LeO.none _
      | refine LeO.ite ?_ ?_
      | refine LeO.bind ?_ (fun _ => ?_)
theorem quadformref16_has.mono : ∀ a0 a1 k, LeO (quadformref16_has.f k a0 a1) (quadformref16_has.f (k + 1) a0 a1) := by
  intro a0 a1 k; have ih0 := quadformref16_has.mono_l k
  unfold quadformref16_has.f
  repeat' first
      | (with_reducible exact ih0 _ _ _ _)
      | (with_reducible exact LeO.refl _)
      | (with_reducible exact LeO.none _)
      | (with_reducible refine LeO.ite ?_ ?_)
      | (with_reducible refine LeO.bind ?_ (fun _ => ?_))
      | exact ih0 _ _ _ _
      | exact LeO.none _
      | refine LeO.ite ?_ ?_
      | refine LeO.bind ?_ (fun _ => ?_)
set_option maxHeartbeats 8000000 in
set_option maxRecDepth 100000 in
theorem quadformref16_has.calls (k : Nat) (A0 : Option Addr) (c0 : Nat) (l0 : List Int) (a1 : Int) (r : Bool) (w : World) (hr0 : Kd.C (Kd.int .i64) w A0 l0.length l0) (hc0 : l0.length ≤ c0) (h : quadformref16_has.f k l0 a1 = some r) :
    Calls Try.prog 95 #[.slice A0 l0.length c0, .int .i64 a1] w fun e w' => e = .returned (.bool r) ∧ Drawn0 w w' := by
  have HR0 := Aside0.mk hr0; have HC0 := Aside0.mk hc0; clear hr0 hc0; have H : (quadformref16_has.l0 k a1 l0 (l0.length : Int) 0) = some r := h; clear h; have H' := Aside0.mk H; clear H
  go_enter Try.func95, Try.ntmps95
  go_wp2
  go_loopg [9] k (fun kq v9 w' => ∃ (x9_1 : Int), v9 = .int .i64 x9_1 ∧ Aside0 (quadformref16_has.l0 kq a1 l0 (l0.length : Int) x9_1 = some r) ∧ Aside0 (kq ≤ k) ∧ Drawn0 w w')
  case atStart => exact ⟨(0), (by first | rfl | (simp; done) | (simp [*]; done)), H', ⟨Nat.le_refl _⟩, by repeat (first | exact Drawn0.refl _ | apply Drawn0.step)⟩
  case round =>
    clear H'
    try clear p2
    obtain ⟨x9_1, rfl, HA, HK1, ⟨m1, rfl⟩⟩ := hrel; cases gk with
    | zero => exact absurd HA.out (by simp [quadformref16_has.l0])
    | succ k1 =>
      have H := HA.out; clear HA
      simp only [quadformref16_has.l0] at H
      by_cases c3 : x9_1 < (l0.length : Int)
      · rw [if_pos c3] at H
        have c3b0 : decide (x9_1 < (l0.length : Int)) = true := decide_eq_true c3; clear c3
        by_cases c4 : 0 ≤ x9_1
        · rw [if_pos c4] at H
          have c4b0 : decide (0 ≤ x9_1) = true := decide_eq_true c4; clear c4
          by_cases c5 : x9_1 < (l0.length : Int)
          · rw [if_pos c5] at H
            have c5b0 : decide (x9_1 < (l0.length : Int)) = true := decide_eq_true c5; clear c5
            by_cases c6 : a1 = (rd l0 x9_1)
            · rw [if_pos c6] at H
              have c6b0 : (a1 == (rd l0 x9_1)) = true := beq_iff_eq.mpr c6; have c6b1 : (a1 != (rd l0 x9_1)) = false := bne_eq_false_iff_eq.mpr c6; clear c6; obtain rfl := Option.some.inj H; have p614 : 0 ≤ (x9_1 : Int) := of_decide_eq_true (by first | (with_reducible assumption) | assumption); have q614 : x9_1 < (l0.length : Int) := of_decide_eq_true (by first | (with_reducible assumption) | assumption); obtain ⟨ad614, e614, hx614_0⟩ := Kd.at_int HR0.out x9_1 p614 q614; cases e614; replace p614 := eq_true p614; replace q614 := eq_true q614
              go_wp2
              go_ret
              exact ⟨by first | rfl | (simp; done) | (simp [*]; done), by repeat (first | exact Drawn0.refl _ | apply Drawn0.step)⟩
            · rw [if_neg c6] at H
              have c6b0 : (a1 == (rd l0 x9_1)) = false := beq_eq_false_iff_ne.mpr c6; have c6b1 : (a1 != (rd l0 x9_1)) = true := bne_iff_ne.mpr c6; have H' := Aside0.mk H; clear H; have p614 : 0 ≤ (x9_1 : Int) := of_decide_eq_true (by first | (with_reducible assumption) | assumption); have q614 : x9_1 < (l0.length : Int) := of_decide_eq_true (by first | (with_reducible assumption) | assumption); obtain ⟨ad614, e614, hx614_0⟩ := Kd.at_int HR0.out x9_1 p614 q614; cases e614; replace p614 := eq_true p614; replace q614 := eq_true q614
              go_wp2
              go_roundg k1
              case measure => have := HK1.out; omega
              case rel => exact ⟨(wrap64 (x9_1 + 1)), (by first | rfl | (simp; done) | (simp [*]; done)), H', ⟨by have := HK1.out; omega⟩, by repeat (first | exact Drawn0.refl _ | apply Drawn0.step)⟩
          · rw [if_neg c5] at H
            exact absurd H (by simp)
        · rw [if_neg c4] at H
          exact absurd H (by simp)
      · rw [if_neg c3] at H
        have c3b0 : decide (x9_1 < (l0.length : Int)) = false := decide_eq_false c3; clear c3; obtain rfl := Option.some.inj H
        go_wp2
        go_ret
        exact ⟨by first | rfl | (simp; done) | (simp [*]; done), by repeat (first | exact Drawn0.refl _ | apply Drawn0.step)⟩
end Go.Proofs.Ytpkgckccfanchaa.M

namespace Go.Proofs.Ytpkgckccfanchaa.M
open Go.RowKit Go.Proofs.YtpkgckccfanchaaW.PrintWords Go.Proofs.YtpkgckccfanchaaW.PrintLast Go.Proofs.YtpkgckccfanchaaW.PrintMore
open Sims
set_option linter.unusedVariables false
set_option linter.unusedSimpArgs false
theorem rhas_loop {l : List Int} {x : Int} (hl : l.length ≤ 1000000) : ∀ (d k i : Nat), i + d = l.length → d < k → quadformref16_has.l0 k x l (l.length : Int) (i : Int) = some (decide (x ∈ l.drop i))
  | d, 0, _, _, hk => by omega
  | 0, k + 1, i, hd, hk => by
    simp only [quadformref16_has.l0]
    rw [if_neg (by omega), List.drop_of_length_le (by omega)]
    simp
  | d + 1, k + 1, i, hd, hk => by
    have hlt : i < l.length := by omega
    have hw : wrap64 ((i : Int) + 1) = ((i + 1 : Nat) : Int) := by unfold wrap64; omega
    have e : rd l (i : Int) = l[i] := by simp [rd, List.getD_eq_getElem?_getD, hlt]
    simp only [quadformref16_has.l0]
    rw [if_pos (by omega), if_pos (by omega), if_pos (by omega), e, hw, rhas_loop hl d k (i + 1) (by omega) (by omega), List.drop_eq_getElem_cons hlt]
    by_cases h : x = l[i]
    · rw [if_pos h, h]
      exact congrArg some (decide_eq_true (List.mem_cons_self)).symm
    · rw [if_neg h]
      congr 1
      rw [decide_eq_decide]
      exact ⟨fun hm => List.mem_cons_of_mem _ hm, fun hm => (List.mem_cons.1 hm).resolve_left h⟩
theorem rhas_f {l : List Int} (hl : l.length ≤ 1000000) (x : Int) : quadformref16_has.f (l.length + 1) l x = some (decide (x ∈ l)) := by
  unfold quadformref16_has.f
  exact rhas_loop hl l.length _ 0 (by omega) (by omega)
theorem has_take {w : World} {A : Option Addr} {c j : Nat} {l : List Int} (hj : j ≤ l.length) (hl : l.length ≤ 1000000) (hC : Kd.C (Kd.int .i64) w A l.length l) (hc : l.length ≤ c) (x : Int) :
    Calls Try.prog 95 #[.slice A j c, .int .i64 x] w fun e w' => e = .returned (.bool (decide (x ∈ l.take j))) ∧ Drawn0 w w' := by
  have hjl : (l.take j).length = j := by rw [List.length_take]; omega
  have h := quadformref16_has.calls _ A c (l.take j) x _ w (Kd.C_take hC hj) (by omega) (rhas_f (by omega) x)
  rw [hjl] at h
  exact h
set_option maxHeartbeats 4000000 in
set_option maxRecDepth 100000 in
theorem rdiff_calls {w : World} {A : Option Addr} {c : Nat} {l : List Int} {n : Nat} (hn : n ≤ 512) (hl : l.length ≤ 1000000) (hC : Kd.C (Kd.int .i64) w A l.length l) (hc : l.length ≤ c) :
    Calls Try.prog 65 #[.slice A l.length c, .int .i64 (n : Int)] w fun e w' => e = .returned (.bool (diffB n l)) ∧ Below w.heap.size w w' := by
  have HC := Aside0.mk hC
  have HCC := Aside0.mk hc
  obtain ⟨m, hm⟩ : ∃ m, l.length = m := ⟨_, rfl⟩
  have HM := Aside0.mk hm
  rw [hm] at hl hc ⊢
  clear hC hm
  go_enter Try.func65, Try.ntmps65
  go_wp2_with (fail)
  go_loopw [9] (fun x wr => ∃ j : Nat, x = .int .i64 j ∧ j ≤ m ∧ Aside0 (∀ x ∈ l.take j, 0 ≤ x ∧ x < (n : Int)) ∧ Aside0 (l.take j).Nodup ∧ Aside0 (Below w.heap.size w wr)) (fun x _ => m - (intOf x).toNat)
  case atStart => exact ⟨0, rfl, by omega, ⟨fun x hx => by simp at hx⟩, ⟨by simp⟩, ⟨Below.refl _ _⟩⟩
  case round =>
    obtain ⟨j, rfl, hj, HRG, HND, HB⟩ := hrel
    by_cases hlt : j < m
    · obtain ⟨x, hx⟩ : ∃ x, l[j]? = some x := ⟨l[j]'(by have := HM.out; omega), List.getElem?_eq_getElem _⟩
      obtain ⟨ad, rfl, hcx⟩ := Kd.at_int (Kd.C_below HC.out HB.out) (j : Int) (by omega) (by have := HM.out; omega)
      have hrd : rd l (j : Int) = x := by simp [rd, List.getD_eq_getElem?_getD, hx]
      rw [hrd, Int.toNat_natCast] at hcx
      have hlt2 : (j : Int) < (m : Int) := by omega
      have HX := Aside0.mk hx
      have hjc : (j : Int) ≤ (c : Int) := by omega
      clear hx hrd
      by_cases h0 : x < 0
      · have HF := Aside0.mk (diffB_range (n := n) HX.out (by omega))
        go_wp2_with (fail)
        go_ret
        exact ⟨by rw [HF.out]; rfl, HB.out⟩
      · by_cases h1 : (n : Int) ≤ x
        · have HF := Aside0.mk (diffB_range (n := n) HX.out (by omega))
          go_wp2_with (fail)
          go_ret
          exact ⟨by rw [HF.out]; rfl, HB.out⟩
        · by_cases hm : x ∈ l.take j
          · have HF := Aside0.mk (diffB_twice (n := n) HX.out hm)
            have HMM := Aside0.mk (decide_eq_true hm)
            clear hm
            go_wp2_with (go_at_call 95; (with_reducible refine (has_take (l := l) (by rw [HM.out]; omega) (by rw [HM.out]; omega) (Kd.C_below HC.out HB.out) HCC.out x).mono ?_); rintro e w1 ⟨rfl, hD⟩; rw [HMM.out]; have HD := Aside0.mk hD; clear hD)
            go_ret
            exact ⟨by rw [HF.out]; rfl, below_then HB.out HB.out.size HD.out.below⟩
          · have ht : l.take (j + 1) = l.take j ++ [x] := by
              obtain ⟨q1, q2⟩ := List.getElem?_eq_some_iff.1 HX.out
              rw [List.take_succ_eq_append_getElem q1, q2]
            have HT := Aside0.mk ht
            have HMN := Aside0.mk hm
            have HMM := Aside0.mk (decide_eq_false hm)
            clear hm ht
            go_wp2_with (go_at_call 95; (with_reducible refine (has_take (l := l) (by rw [HM.out]; omega) (by rw [HM.out]; omega) (Kd.C_below HC.out HB.out) HCC.out x).mono ?_); rintro e w1 ⟨rfl, hD⟩; rw [HMM.out]; have HD := Aside0.mk hD; clear hD)
            go_roundw
            case rel =>
              refine ⟨j + 1, by go_num, by omega, ⟨?_⟩, ⟨?_⟩, ⟨below_then HB.out HB.out.size HD.out.below⟩⟩
              · rw [HT.out]
                intro y hy
                rcases List.mem_append.1 hy with hy | hy
                · exact HRG.out y hy
                · rw [List.mem_singleton.1 hy]; omega
              · rw [HT.out, List.nodup_append]
                exact ⟨HND.out, by simp, fun a ha b hb e => HMN.out (by rw [List.mem_singleton.1 hb] at e; exact e ▸ ha)⟩
            case measure => simp [intOf]; omega
    · obtain rfl : j = m := by omega
      have HF : Aside0 (diffB n l = true) := ⟨by
        have h1 := HRG.out
        have h2 := HND.out
        rw [List.take_of_length_le (by have := HM.out; omega)] at h1 h2
        simp only [diffB, Bool.and_eq_true, List.all_eq_true, decide_eq_true_eq]
        exact ⟨h1, h2⟩⟩
      clear hlt hj
      go_wp2_with (fail)
      go_ret
      exact ⟨by rw [HF.out]; rfl, HB.out⟩
theorem RdCh.at_ {w : World} {n m : Nat} {A : Option Addr} {c : Nat} {ls : List Lv} (h : RdCh w n (.slice A m c) ls) {j : Nat} {l : Lv} (hl : ls[j]? = some l) : ∃ g o gv mb, A = some ⟨g, o, none⟩ ∧ w.cell? ⟨g, o + j * 3, none⟩ = some (.int .i64 l.point) ∧ w.cell? ⟨g, o + j * 3 + 1, none⟩ = some gv ∧ w.cell? ⟨g, o + j * 3 + 2, none⟩ = some (.slice (some ⟨mb, 0, none⟩) n n) ∧ RLv w (fun b => b < w.heap.size) n gv mb l := by
  obtain ⟨A', c', e, h1⟩ := h
  obtain ⟨rfl, rfl⟩ : A = A' ∧ c = c' := by injection e with a b c; exact ⟨a, c⟩
  exact h1 j l hl
def quadformref16_Lengths.f (k : Nat) (a0 : Int) (l1 : List (List Int)) (l2 : List Int) : Option (List Int × Int) := (quadformref16_Group.f k a0 l1).bind fun e => if e = 0 then (if okB a0 l1 = true ∧ l2.length ≤ 1000000 then (if diffB a0 l2 = true then (chainF a0.toNat k l1 l2).bind fun ls => some ((lensF ls).take l2.length, 0) else some ([], 1)) else none) else some ([], e)
theorem quadformref16_Lengths.mono : ∀ a0 a1 a2 k, LeO (quadformref16_Lengths.f k a0 a1 a2) (quadformref16_Lengths.f (k + 1) a0 a1 a2) := by
  intro a0 a1 a2 k
  unfold quadformref16_Lengths.f
  exact LeO.bind (quadformref16_Group.mono a0 a1 k) (fun e => LeO.ite (LeO.ite (LeO.ite (LeO.bind (chainF_mono _ _ _ _) (fun ls => LeO.refl _)) (LeO.refl _)) (LeO.refl _)) (LeO.refl _))
set_option maxHeartbeats 8000000 in
set_option maxRecDepth 100000 in
theorem quadformref16_Lengths.calls (k : Nat) (a0 : Int) (A1 : Option Addr) (c1 : Nat) (l1 : List (List Int)) (A2 : Option Addr) (c2 : Nat) (l2 : List Int) (r1 : List Int) (r2 : Int) (w : World) (hr1 : Kd.C (Kd.slice 3 (Kd.int .i64)) w A1 l1.length l1) (hc1 : l1.length ≤ c1) (hr2 : Kd.C (Kd.int .i64) w A2 l2.length l2) (hc2 : l2.length ≤ c2) (h : quadformref16_Lengths.f k a0 l1 l2 = some (r1, r2)) :
    Calls Try.prog 31 #[.int .i64 a0, .slice A1 l1.length c1, .slice A2 l2.length c2] w fun e w' => ∃ v0_ : Value, e = .returned (.tuple #[v0_, .int .i64 r2]) ∧ Kd.R (Kd.int .i64) 3 w' w.heap.size (fun _ => True) v0_ r1 ∧ Below w.heap.size w w' := by
  unfold quadformref16_Lengths.f at h
  obtain ⟨e, he, h⟩ := Option.bind_eq_some_iff.1 h
  have HR1 := Aside0.mk hr1
  have HC1 := Aside0.mk hc1
  have HR2 := Aside0.mk hr2
  have HC2 := Aside0.mk hc2
  have HE := Aside0.mk he
  clear hr1 hc1 hr2 hc2 he
  by_cases h0 : e = 0
  · rw [if_pos h0] at h
    by_cases hok : okB a0 l1 = true ∧ l2.length ≤ 1000000
    · rw [if_pos hok] at h
      obtain ⟨hok, hl2⟩ := hok
      obtain ⟨n, rfl, hm, hm11, hg, hl⟩ := okB_ok hok
      by_cases hd : diffB n l2 = true
      · rw [if_pos hd, Int.toNat_natCast] at h
        obtain ⟨ls, hls, h⟩ := Option.bind_eq_some_iff.1 h
        have h := Option.some.inj h
        simp only [Prod.mk.injEq] at h
        obtain ⟨e1, e2⟩ := h
        subst e1 e2 h0
        obtain ⟨hb, hbn⟩ := diffB_true hd
        obtain ⟨hpc, -, ⟨mm, hpm⟩, hll⟩ := chain_pc hg hb hbn hls
        have hlb : l2.length ≤ ls.length := by
          have := congrArg List.length hpm
          simp at this
          omega
        have HM := Aside0.mk hm
        have HGN := Aside0.mk hg
        have HLS := Aside0.mk hls
        have HLN := Aside0.mk hll
        have HPC := Aside0.mk (PC_ok hpc)
        have HL := Aside0.mk hl
        have HD := Aside0.mk hd
        have HL2 := Aside0.mk hl2
        obtain ⟨mb, hmb⟩ : ∃ mb, l2.length = mb := ⟨_, rfl⟩
        obtain ⟨ml, hml⟩ : ∃ ml, ls.length = ml := ⟨_, rfl⟩
        have HMB := Aside0.mk hmb
        have HML := Aside0.mk hml
        rw [hmb, hml] at hlb
        rw [hml] at hll
        have HDF : Aside0 (∀ W : World, Below w.heap.size w W → Calls Try.prog 65 #[.slice A2 mb c2, .int .i64 (n : Int)] W fun e w' => e = .returned (.bool true) ∧ Below W.heap.size W w') := ⟨fun W hW => by
          have h := rdiff_calls (n := n) (by omega) HL2.out (Kd.C_below HR2.out hW) HC2.out
          rw [HMB.out, HD.out] at h
          exact h⟩
        have HCF : Aside0 (∀ W : World, Below w.heap.size w W → Calls Try.prog 54 #[.int .i64 (n : Int), .slice A1 l1.length c1, .slice A2 mb c2] W fun e w' => ∃ A c, e = .returned (.slice A ml c) ∧ ml ≤ c ∧ RdCh w' n (.slice A ml c) ls ∧ Below W.heap.size W w') := ⟨fun W hW => by
          have h := chain_calls (w := W) (c1 := c1) (c2 := c2) HM.out (by omega) (Kd.C_below HR1.out hW) HGN.out (by have := HL.out; omega) (Kd.C_below HR2.out hW) (diffB_true HD.out).1 (diffB_true HD.out).2 HLS.out
          rw [HMB.out] at h
          refine h.mono ?_
          rintro e w' ⟨v, rfl, hC, hb⟩
          obtain ⟨xs, ho, -⟩ := id hC
          have hrd := hC.rd
          rcases ho.2 with ⟨e1, e2⟩ | ⟨g, cap, cur, e1, e2, e3, e4, -⟩
          · rw [HML.out] at e2
            exact ⟨none, 0, by rw [e1, e2], by omega, by rw [e1] at hrd; rw [e2]; exact hrd, hb⟩
          · rw [HML.out] at e1 e4
            exact ⟨_, cap, by rw [e1], e4, by rw [e1] at hrd; exact hrd, hb⟩⟩
        clear hok hm hg hl hls hd hb hbn hpc hpm hmb hml hl2
        go_enter Try.func31, Try.ntmps31
        rw [HMB.out]
        go_wp2_with (first | (go_at_call 40; (with_reducible refine (quadformref16_Group.calls k (n : Int) A1 c1 l1 0 _ HR1.out HC1.out HE.out).mono ?_); rintro e w6 ⟨rfl, hb6⟩; have HB6 := Aside0.mk hb6; clear hb6) | (go_at_call 65; (with_reducible refine (HDF.out _ HB6.out).mono ?_); rintro e w7 ⟨rfl, hb7⟩; have HB7 : Aside0 (Below w.heap.size w w7) := ⟨below_step (w := w) HB6.out hb7⟩; clear hb7) | (go_at_call 54; (with_reducible refine (HCF.out _ HB7.out).mono ?_); rintro e w8 ⟨A8, c8, rfl, hc8, hC8, hb8⟩; have hmc8 : mb ≤ c8 := Nat.le_trans hlb hc8; have HG8 := Aside0.mk hC8; have HB8 : Aside0 (Below w.heap.size w w8) := ⟨below_step (w := w) HB7.out hb8⟩; clear hC8 hb8))
        have hbl2 : mb ≤ (lensF ls).length := by rw [lensF_length, HML.out]; exact hlb
        have HBL := Aside0.mk hbl2
        clear hbl2 HDF HCF
        go_loopw [9, 30] (fun v i wr => ∃ j : Nat, i = .int .i64 j ∧ j ≤ mb ∧ Aside0 (Kd.R (Kd.int .i64) 3 wr w8.heap.size (fun _ => True) v ((lensF ls).take j)) ∧ Aside0 (Below w8.heap.size w8 wr)) (fun _ i _ => mb - (intOf i).toNat)
        case atStart => exact ⟨0, rfl, by omega, ⟨Kd.R_nil _ _ _ _ _⟩, ⟨Below.refl _ _⟩⟩
        case round =>
          obtain ⟨j, rfl, hj, HO, HB⟩ := hrel
          by_cases hlt : j < mb
          · obtain ⟨l, hl⟩ : ∃ l, ls[j]? = some l := ⟨ls[j]'(by have := HML.out; omega), List.getElem?_eq_getElem _⟩
            obtain ⟨g, o, gv, mb2, rfl, hc0, hc1, hc2, hrl⟩ := (HG8.out.below HB.out).at_ hl
            have hok := HPC.out l (List.mem_of_getElem? hl)
            obtain ⟨gs, hgo, -⟩ := hrl.gens
            obtain ⟨Ag, cg, rfl⟩ := own_slice hgo
            obtain ⟨mg, hmg⟩ : ∃ mg, l.gens.length = mg := ⟨_, rfl⟩
            rw [hmg] at hc1
            obtain ⟨pt, hpt⟩ : ∃ pt, l.point = pt := ⟨_, rfl⟩
            rw [hpt] at hc0
            obtain ⟨q0, hq0⟩ : ∃ q0, l.reps.length = q0 := ⟨_, rfl⟩
            have HQ0 := Aside0.mk hq0
            have HRL := Aside0.mk hrl
            have HOK1 := Aside0.mk hok
            have hlen : ((lensF ls).take j).length = j := by rw [List.length_take]; have := HBL.out; omega
            have HT : Aside0 ((lensF ls).take (j + 1) = (lensF ls).take j ++ [(q0 : Int)]) := ⟨by
              have h := lensF_take ls hl
              have e1 : ∀ i : Nat, lensF (ls.take i) = (lensF ls).take i := fun i => by unfold lensF; rw [List.map_take]
              rw [e1, e1, hq0] at h
              exact h⟩
            have hlt2 : (j : Int) < (mb : Int) := by omega
            clear hgo hrl hok hl hmg hpt hq0
            go_upto_region 10 with (fail)
            obtain ⟨W0, hW0⟩ : ∃ W0, W0 = wr.alloc (.cells #[.int .i64 pt, .slice Ag mg cg, .slice (some ⟨mb2, 0, none⟩) n n] 96) := ⟨_, rfl⟩
            obtain ⟨gl, hgl⟩ : ∃ gl, gl = wr.heap.size := ⟨_, rfl⟩
            rw [← hW0, ← hgl]
            have hb0 : Below wr.heap.size wr W0 := by rw [hW0]; exact below_alloc (Below.refl _ _) _
            have HXL : Aside0 (W0.heap[gl]? = some (.cells #[.int .i64 pt, .slice Ag mg cg, .slice (some ⟨mb2, 0, none⟩) n n] 96 (0, 0))) := ⟨by rw [hW0, hgl]; exact blk_new wr _⟩
            have hx0 := blk_cell HXL.out 0
            have hx1 := blk_cell HXL.out 1
            have hx2 := blk_cell HXL.out 2
            have HMN : Aside0 (MapsAt W0 (fun b => b < wr.heap.size) n mb2 l.reps) := ⟨HRL.out.maps.below hb0⟩
            have HON : Aside0 (Kd.R (Kd.int .i64) 3 W0 w8.heap.size (fun _ => True) u9 ((lensF ls).take j)) := ⟨Kd.R_below HO.out hb0⟩
            have HBN : Aside0 (Below w8.heap.size w8 W0) := ⟨below_then HB.out HB.out.size hb0⟩
            clear hW0 hgl hb0 hc0 hc1 hc2 HO HB HRL
            have hcs : Calls Try.prog 66 #[.agg #[.int .i64 pt, .slice Ag mg cg, .slice (some ⟨mb2, 0, none⟩) n n]] W0 fun e w' => e = .returned (.int .i64 (q0 : Int)) ∧ Below W0.heap.size W0 w' := by
              refine (size_calls (pv := .bool false) (gv := .bool false) HM.out (by omega) HMN.out (fun x hx => (HOK1.out.rep x hx).1) HOK1.out.nd HOK1.out.rng).mono ?_
              rintro e w' ⟨rfl, hb⟩
              exact ⟨by rw [HQ0.out], hb⟩
            have HCS := Aside0.mk hcs
            clear hcs
            go_wp2_with (first | (go_at_call 66; (with_reducible refine HCS.out.mono ?_); rintro e w3 ⟨rfl, hb3⟩; have HO3 : Aside0 (Kd.R (Kd.int .i64) 3 w3 w8.heap.size (fun _ => True) u9 ((lensF ls).take j)) := ⟨Kd.R_below HON.out hb3⟩; have HB3 : Aside0 (Below w8.heap.size w8 w3) := ⟨below_then HBN.out HBN.out.size hb3⟩; clear hb3) | ((with_reducible refine gate_builtin (b := .append) (xs := #[.tmp 34, .tmp 37]) rfl ?_); at_builtin; go_must (refine Kd.R_append (Kd.int .i64) (w0 := w8) w8.heap.size rfl (.tmp 34) (.tmp 37) 28 3 (.int .i64 0) 8 rfl Try.underlying28 info3 rfl (by decide) (by omega) u9 ((lensF ls).take j) (q0 : Int) [.int .i64 (q0 : Int)] (fun _ => True) (fun _ => False) rfl rfl ?aP (fun _ hk => hk.elim) ?aF ?aO ?aB ?aS ?aL ?_); (case aP => go_must (exact rfl)); (case aB => go_must (exact HB3.out)); (case aF => go_must (exact (fun _ _ => trivial))); (case aO => go_must (exact HO3.out)); (case aS => go_must (exact below_size HB3.out)); (case aL => go_must (omega)); intro v1 w4 ho hb hg hat; go_must (rw [← HT.out] at ho); have ho2 := Aside0.mk ho; have hb2 := Aside0.mk hb; clear ho hb hg hat))
            go_roundw
            case rel => exact ⟨j + 1, by go_num, by omega, ho2, hb2⟩
            case measure => simp [intOf]; omega
          · obtain rfl : j = mb := by omega
            clear hlt hj
            go_wp2_with (fail)
            refine bodyPost_ret (results_list (rs := [.tmp 6, .tmp 7]) (vs := [u9, .int .i64 0]) rfl (by simp) (Vals.tmp (Vals.tmp Vals.nil))) rfl ?_
            exact ⟨_, rfl, Kd.R_lower HO.out HB8.out.size, below_then HB8.out HB8.out.size HB.out⟩
      · rw [if_neg hd] at h
        have h := Option.some.inj h
        simp only [Prod.mk.injEq] at h
        obtain ⟨e1, e2⟩ := h
        subst e1 e2 h0
        have HD : Aside0 (diffB n l2 = false) := ⟨by simpa using hd⟩
        have HL2 := Aside0.mk hl2
        clear hd
        go_enter Try.func31, Try.ntmps31
        go_wp2_with (first | (go_at_call 40; (with_reducible refine (quadformref16_Group.calls k (n : Int) A1 c1 l1 0 _ HR1.out HC1.out HE.out).mono ?_); rintro e w6 ⟨rfl, hb6⟩; have HB6 := Aside0.mk hb6; clear hb6) | (go_at_call 65; (with_reducible refine (rdiff_calls (by omega) HL2.out (Kd.C_below HR2.out HB6.out) HC2.out).mono ?_); rintro e w7 ⟨rfl, hb7⟩; rw [HD.out]; have HB7 : Aside0 (Below w.heap.size w w7) := ⟨below_step (w := w) HB6.out hb7⟩; clear hb7))
        refine bodyPost_ret (results_list (rs := [.tmp 6, .tmp 7]) (vs := [.slice none 0 0, .int .i64 1]) rfl (by simp) (Vals.tmp (Vals.tmp Vals.nil))) rfl ?_
        exact ⟨_, rfl, Kd.R_nil _ _ _ _ _, HB7.out⟩
    · rw [if_neg hok] at h
      cases h
  · rw [if_neg h0] at h
    have h := Option.some.inj h
    simp only [Prod.mk.injEq] at h
    obtain ⟨e1, e2⟩ := h
    subst e1 e2
    go_enter Try.func31, Try.ntmps31
    go_wp2_with (first | (go_at_call 40; (with_reducible refine (quadformref16_Group.calls k a0 A1 c1 l1 e _ HR1.out HC1.out HE.out).mono ?_); rintro e w6 ⟨rfl, hb6⟩; have HB6 := Aside0.mk hb6; clear hb6))
    refine bodyPost_ret (results_list (rs := [.tmp 6, .tmp 7]) (vs := [.slice none 0 0, .int .i64 e]) rfl (by simp) (Vals.tmp (Vals.tmp Vals.nil))) rfl ?_
    exact ⟨_, rfl, Kd.R_nil _ _ _ _ _, HB6.out⟩
end Go.Proofs.Ytpkgckccfanchaa.M

namespace Go.Proofs.Ytpkgckccfanchaa.M
open Go.RowKit Go.Proofs.YtpkgckccfanchaaW.PrintWords Go.Proofs.YtpkgckccfanchaaW.PrintLast Go.Proofs.YtpkgckccfanchaaW.PrintMore
attribute [local go_sem] max2_int min2_int max_two min_two max_three min_three max_four min_four
set_option linter.unusedVariables false
set_option linter.unusedSimpArgs false
def quadformref16_Same.l0 : Nat → List Int → List Int → Int → Int → Option (Bool)
  | 0, _, _, _, _ => none
  | k + 1, x0, x1, x12, x13 => if x13 < x12 then (if 0 ≤ x13 then (if x13 < (x0.length : Int) then (if x13 < (x1.length : Int) then (if (rd x0 x13) = (rd x1 x13) then (quadformref16_Same.l0 k x0 x1 x12 (wrap64 (x13 + 1))) else (some false)) else (none)) else (none)) else (none)) else (some true)
def quadformref16_Same.f (k : Nat) (l0 : List Int) (l1 : List Int) : Option (Bool) := if (l0.length : Int) = (l1.length : Int) then (quadformref16_Same.l0 k l0 l1 (l0.length : Int) 0) else (some false)
theorem quadformref16_Same.mono_l : ∀ k, (∀ y0 y1 y2 y3, LeO (quadformref16_Same.l0 k y0 y1 y2 y3) (quadformref16_Same.l0 (k + 1) y0 y1 y2 y3))
  | 0 => fun _ _ _ _ r h => by simp [quadformref16_Same.l0] at h
  | k + 1 => by
    have ih0 := quadformref16_Same.mono_l k
    · intro y0 y1 y2 y3
      unfold quadformref16_Same.l0
      repeat' first
      | (with_reducible exact ih0 _ _ _ _)
      | (with_reducible exact LeO.refl _)
      | (with_reducible exact LeO.none _)
      | (with_reducible refine LeO.ite ?_ ?_)
      | (with_reducible refine LeO.bind ?_ (fun _ => ?_))
      | exact ih0 _ _ _ _
      | exact LeO.none _
      | refine LeO.ite ?_ ?_
      | refine LeO.bind ?_ (fun _ => ?_)
theorem quadformref16_Same.mono : ∀ a0 a1 k, LeO (quadformref16_Same.f k a0 a1) (quadformref16_Same.f (k + 1) a0 a1) := by
  intro a0 a1 k; have ih0 := quadformref16_Same.mono_l k
  unfold quadformref16_Same.f
  repeat' first
      | (with_reducible exact ih0 _ _ _ _)
      | (with_reducible exact LeO.refl _)
      | (with_reducible exact LeO.none _)
      | (with_reducible refine LeO.ite ?_ ?_)
      | (with_reducible refine LeO.bind ?_ (fun _ => ?_))
      | exact ih0 _ _ _ _
      | exact LeO.none _
      | refine LeO.ite ?_ ?_
      | refine LeO.bind ?_ (fun _ => ?_)
set_option maxHeartbeats 8000000 in
set_option maxRecDepth 100000 in
theorem quadformref16_Same.calls (k : Nat) (A0 : Option Addr) (c0 : Nat) (l0 : List Int) (A1 : Option Addr) (c1 : Nat) (l1 : List Int) (r : Bool) (w : World) (hr0 : Kd.C (Kd.int .i64) w A0 l0.length l0) (hc0 : l0.length ≤ c0) (hr1 : Kd.C (Kd.int .i64) w A1 l1.length l1) (hc1 : l1.length ≤ c1) (h : quadformref16_Same.f k l0 l1 = some r) :
    Calls Try.prog 32 #[.slice A0 l0.length c0, .slice A1 l1.length c1] w fun e w' => e = .returned (.bool r) ∧ Drawn0 w w' := by
  have HR0 := Aside0.mk hr0; have HC0 := Aside0.mk hc0; clear hr0 hc0; have HR1 := Aside0.mk hr1; have HC1 := Aside0.mk hc1; clear hr1 hc1; have H : (if (l0.length : Int) = (l1.length : Int) then (quadformref16_Same.l0 k l0 l1 (l0.length : Int) 0) else (some false)) = some r := h; clear h
  by_cases c3 : (l0.length : Int) = (l1.length : Int)
  · rw [if_pos c3] at H
    have c3b0 : ((l0.length : Int) == (l1.length : Int)) = true := beq_iff_eq.mpr c3; have c3b1 : ((l0.length : Int) != (l1.length : Int)) = false := bne_eq_false_iff_eq.mpr c3
    have c3b2 : (l0.length == l1.length) = true := by first | simpa using c3 | (simp at c3 ⊢; omega)
    clear c3; have H' := Aside0.mk H; clear H
    go_enter Try.func32, Try.ntmps32
    go_wp2
    repeat (go_quiet (fail); try go_wp2)
    go_loopg [13] k (fun kq v13 w' => ∃ (x13_1 : Int), v13 = .int .i64 x13_1 ∧ Aside0 (quadformref16_Same.l0 kq l0 l1 (l0.length : Int) x13_1 = some r) ∧ Aside0 (kq ≤ k) ∧ Drawn0 w w')
    case atStart => exact ⟨(0), (by first | rfl | (simp; done) | (simp [*]; done)), H', ⟨Nat.le_refl _⟩, by repeat (first | exact Drawn0.refl _ | apply Drawn0.step)⟩
    case round =>
      clear H'
      try clear c1
      try clear p2
      try clear c3
      try clear c3b0
      try clear c3b1
      try clear c3b2
      obtain ⟨x13_1, rfl, HA, HK1, ⟨m1, rfl⟩⟩ := hrel; cases gk with
      | zero => exact absurd HA.out (by simp [quadformref16_Same.l0])
      | succ k1 =>
        have H := HA.out; clear HA
        simp only [quadformref16_Same.l0] at H
        by_cases c4 : x13_1 < (l0.length : Int)
        · rw [if_pos c4] at H
          have c4b0 : decide (x13_1 < (l0.length : Int)) = true := decide_eq_true c4; clear c4
          by_cases c5 : 0 ≤ x13_1
          · rw [if_pos c5] at H
            have c5b0 : decide (0 ≤ x13_1) = true := decide_eq_true c5; clear c5
            by_cases c6 : x13_1 < (l0.length : Int)
            · rw [if_pos c6] at H
              have c6b0 : decide (x13_1 < (l0.length : Int)) = true := decide_eq_true c6; clear c6
              by_cases c7 : x13_1 < (l1.length : Int)
              · rw [if_pos c7] at H
                have c7b0 : decide (x13_1 < (l1.length : Int)) = true := decide_eq_true c7; clear c7
                by_cases c8 : (rd l0 x13_1) = (rd l1 x13_1)
                · rw [if_pos c8] at H
                  have c8b0 : ((rd l0 x13_1) == (rd l1 x13_1)) = true := beq_iff_eq.mpr c8; have c8b1 : ((rd l0 x13_1) != (rd l1 x13_1)) = false := bne_eq_false_iff_eq.mpr c8; clear c8; have H' := Aside0.mk H; clear H; have p343 : 0 ≤ (x13_1 : Int) := of_decide_eq_true (by first | (with_reducible assumption) | assumption); have q343 : x13_1 < (l0.length : Int) := of_decide_eq_true (by first | (with_reducible assumption) | assumption); obtain ⟨ad343, e343, hx343_0⟩ := Kd.at_int HR0.out x13_1 p343 q343; cases e343; replace p343 := eq_true p343; replace q343 := eq_true q343; have p344 : 0 ≤ (x13_1 : Int) := of_decide_eq_true (by first | (with_reducible assumption) | assumption); have q344 : x13_1 < (l1.length : Int) := of_decide_eq_true (by first | (with_reducible assumption) | assumption); obtain ⟨ad344, e344, hx344_0⟩ := Kd.at_int HR1.out x13_1 p344 q344; cases e344; replace p344 := eq_true p344; replace q344 := eq_true q344
                  go_wp2
                  repeat (go_quiet (fail); try go_wp2)
                  go_roundg k1
                  case measure => have := HK1.out; omega
                  case rel => exact ⟨(wrap64 (x13_1 + 1)), (by first | rfl | (simp; done) | (simp [*]; done)), H', ⟨by have := HK1.out; omega⟩, by repeat (first | exact Drawn0.refl _ | apply Drawn0.step)⟩
                · rw [if_neg c8] at H
                  have c8b0 : ((rd l0 x13_1) == (rd l1 x13_1)) = false := beq_eq_false_iff_ne.mpr c8; have c8b1 : ((rd l0 x13_1) != (rd l1 x13_1)) = true := bne_iff_ne.mpr c8; obtain rfl := Option.some.inj H; have p343 : 0 ≤ (x13_1 : Int) := of_decide_eq_true (by first | (with_reducible assumption) | assumption); have q343 : x13_1 < (l0.length : Int) := of_decide_eq_true (by first | (with_reducible assumption) | assumption); obtain ⟨ad343, e343, hx343_0⟩ := Kd.at_int HR0.out x13_1 p343 q343; cases e343; replace p343 := eq_true p343; replace q343 := eq_true q343; have p344 : 0 ≤ (x13_1 : Int) := of_decide_eq_true (by first | (with_reducible assumption) | assumption); have q344 : x13_1 < (l1.length : Int) := of_decide_eq_true (by first | (with_reducible assumption) | assumption); obtain ⟨ad344, e344, hx344_0⟩ := Kd.at_int HR1.out x13_1 p344 q344; cases e344; replace p344 := eq_true p344; replace q344 := eq_true q344
                  go_wp2
                  repeat (go_quiet (fail); try go_wp2)
                  go_ret
                  exact ⟨by first | rfl | (simp; done) | (simp [*]; done), by repeat (first | exact Drawn0.refl _ | apply Drawn0.step)⟩
              · rw [if_neg c7] at H
                exact absurd H (by simp)
            · rw [if_neg c6] at H
              exact absurd H (by simp)
          · rw [if_neg c5] at H
            exact absurd H (by simp)
        · rw [if_neg c4] at H
          have c4b0 : decide (x13_1 < (l0.length : Int)) = false := decide_eq_false c4; clear c4; obtain rfl := Option.some.inj H
          go_wp2
          repeat (go_quiet (fail); try go_wp2)
          go_ret
          exact ⟨by first | rfl | (simp; done) | (simp [*]; done), by repeat (first | exact Drawn0.refl _ | apply Drawn0.step)⟩
  · rw [if_neg c3] at H
    have c3b0 : ((l0.length : Int) == (l1.length : Int)) = false := beq_eq_false_iff_ne.mpr c3; have c3b1 : ((l0.length : Int) != (l1.length : Int)) = true := bne_iff_ne.mpr c3
    have c3b2 : (l0.length == l1.length) = false := by first | simpa using c3 | (simp at c3 ⊢; omega)
    obtain rfl := Option.some.inj H
    go_enter Try.func32, Try.ntmps32
    go_wp2
    repeat (go_quiet (fail); try go_wp2)
    go_ret
    exact ⟨by first | rfl | (simp; done) | (simp [*]; done), by repeat (first | exact Drawn0.refl _ | apply Drawn0.step)⟩
end Go.Proofs.Ytpkgckccfanchaa.M
