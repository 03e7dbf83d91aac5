/- Part of the proof of StabchainSymmetric, merged by wip/tools/merge.py. -/
import Derived.Test.YtpkgckccfanchaaBStabchainSymmetric3
import Derived.Test.YtpkgckccfanchaaBStabchainSymmetric2

/- ## Gp -/
/- The insertion into a chain. -/
namespace Go.Proofs.Ytpkgckccfanchaa.M
open Go.RowKit Go.Proofs.YtpkgckccfanchaaW.PrintWords Go.Proofs.YtpkgckccfanchaaW.PrintLast Go.Proofs.YtpkgckccfanchaaW.PrintMore
open Sims
open Go.ChangeMaps (setBlock)
set_option linter.unusedVariables false
set_option linter.unusedSimpArgs false

/-- What an insertion leaves. -/
def Left (w w' : World) (B : Nat) (PB : Nat → Prop) (g n : Nat) (cs : List LC) (ls : List Lv) : Prop :=
  ∃ av' PB' csx, GrAt w' B PB' g n av' (cs ++ csx) ls ∧ (∀ b, PB' b → b < w'.heap.size) ∧ (∀ b, PB b → PB' b) ∧ Agree PB w w' ∧ Below B w w'
def InsC (n f : Nat) : Prop := ∀ {w : World} {B : Nat} {PB : Nat → Prop} {g : Nat} {av : Value} {cs : List LC} {ls : List Lv} {k : Nat} {pts : List Int} {p : List Int} {v : Value} {okp : Nat → Prop} {ls' : List Lv},
  GrAt w B PB g n av cs ls → (∀ b, PB b → b < w.heap.size) → B ≤ w.heap.size → pts.length = k → k ≤ ls.length → PC n pts (ls.drop k) → GenB (ls.drop k) → pts.Nodup → (∀ x ∈ pts, 0 ≤ x ∧ x < n) → IsP n p → (∀ x ∈ pts, rdl p x = x) → n + 1 ≤ f + k → PV w okp v p → insF n f (ls.drop k) p = some ls' →
    Calls Try.prog 84 #[.pointer (some ⟨g, 0, none⟩), .int .i64 (k : Int), v] w fun e w' => e = .returned (.tuple #[]) ∧ Left w w' B PB g n (cs.take k) (ls.take k ++ ls')

/-- The chain in the midst of an insertion. -/
def InSt (w wr : World) (B : Nat) (PB : Nat → Prop) (g n : Nat) (cs0 : List LC) (cA : LC) (ls0 : List Lv) (l1 : Lv) (st : List (Int × Int) × List Lv) : Prop :=
  ∃ avx PBx csx, GrAt wr B PBx g n avx (cs0 ++ cA :: csx) (ls0 ++ { l1 with todo := st.1 } :: st.2) ∧ (∀ b, PBx b → b < wr.heap.size) ∧ (∀ b, PB b → PBx b) ∧ Agree PB w wr ∧ Below B w wr
theorem GrAt.mid {w : World} {B g n : Nat} {PB : Nat → Prop} {av : Value} {cs0 cs1 : List LC} {c : LC} {ls0 ls1 : List Lv} {l : Lv} (h : GrAt w B PB g n av (cs0 ++ c :: cs1) (ls0 ++ l :: ls1)) (hl : cs0.length = ls0.length) : LvAt w B PB c l :=
  h.lv cs0.length c l (by simp) (by rw [hl]; simp)
theorem InSt.lv {w wr : World} {B : Nat} {PB : Nat → Prop} {g n : Nat} {cs0 : List LC} {cA : LC} {ls0 : List Lv} {l1 : Lv} {st : List (Int × Int) × List Lv} (h : InSt w wr B PB g n cs0 cA ls0 l1 st) (hl : cs0.length = ls0.length) :
    ∃ PBx, LvX wr B PBx cA l1.point l1.gens (dom l1) l1.reps st.1 := by
  obtain ⟨_, PBx, _, h1, _⟩ := h
  exact ⟨PBx, h1.mid hl⟩
/-- Draws turn nothing. -/
theorem InSt.below {w wr w1 : World} {B : Nat} {PB : Nat → Prop} {g n : Nat} {cs0 : List LC} {cA : LC} {ls0 : List Lv} {l1 : Lv} {st : List (Int × Int) × List Lv} (h : InSt w wr B PB g n cs0 cA ls0 l1 st) (hb : Below wr.heap.size wr w1) (hw : B ≤ wr.heap.size) (hPB : ∀ b, PB b → b < w.heap.size) (hsz : w.heap.size ≤ wr.heap.size) : InSt w w1 B PB g n cs0 cA ls0 l1 st := by
  obtain ⟨avx, PBx, csx, h1, h2, h3, h4, h5⟩ := h
  exact ⟨avx, PBx, csx, h1.below hb, fun b hp => Nat.lt_of_lt_of_le (h2 b hp) hb.size, h3, fun b hp hlt => (hb.block b (Nat.lt_of_lt_of_le hlt hsz)).trans (h4 b hp hlt), ⟨hb.os.trans h5.os, hb.tape.trans h5.tape, hb.output.trans h5.output, Nat.le_trans h5.size hb.size, fun i hi => (hb.block i (Nat.lt_of_lt_of_le hi hw)).trans (h5.block i hi)⟩⟩
/-- A pair is struck. -/
theorem InSt.drop {w wr : World} {B : Nat} {PB : Nat → Prop} {g n : Nat} {cs0 : List LC} {cA : LC} {ls0 : List Lv} {l1 : Lv} {st : List (Int × Int) × List Lv} (h : InSt w wr B PB g n cs0 cA ls0 l1 st) (hl : cs0.length = ls0.length) (hs : Small st.1) (hn : st.1.Nodup) {k : Int × Int} (hk : 0 ≤ k.1 ∧ k.1 ≤ 1000000000000 ∧ 0 ≤ k.2 ∧ k.2 ≤ 1000000000000) (hm : k ∈ st.1) (hsz : w.heap.size ≤ wr.heap.size) :
    ∃ w1, (∀ ty, (Builtin.delete_ #[109, 139] ty #[.map (some cA.tb), .agg #[.int .i64 k.1, .int .i64 k.2]]).run Try.prog wr = .ok (.tuple #[]) w1) ∧ InSt w w1 B PB g n cs0 cA ls0 l1 (st.1.erase k, st.2) ∧ wr.heap.size ≤ w1.heap.size ∧ Chg (fun i => i = cA.tb) wr w1 := by
  obtain ⟨avx, PBx, csx, h1, h2, h3, h4, h5⟩ := h
  have hlv := h1.mid hl
  obtain ⟨w1, hr, ht, hc⟩ := todo_drop hlv.todo hs hn hk hm 0
  have hc' : Chg cA.Blk wr w1 := hc.mono (fun b e => .inr (.inr (.inr (.inr e))))
  have hge : ∀ b, cA.Blk b → B ≤ b := fun b hb => (hlv.kind hb).1
  refine ⟨w1, fun ty => hr, ⟨avx, PBx, csx, h1.upd hl rfl (lvx_todo hlv ht hc) hc' (fun b hb => .inl hb) (fun b hb => hb) (fun b hb => .inl hb), fun b hp => Nat.lt_of_lt_of_le (h2 b hp) hc.size, h3, fun b hp hlt => (hc'.keep b (Nat.lt_of_lt_of_le hlt hsz) (fun hb => hlv.free b hb (h3 b hp))).trans (h4 b hp hlt), ⟨hc.os.trans h5.os, hc.tape.trans h5.tape, hc.output.trans h5.output, Nat.le_trans h5.size hc.size, fun i hi => ?_⟩⟩, hc.size, hc⟩
  have hlt : i < wr.heap.size := by
    have := hge cA.lb (.inl rfl)
    have := hlv.lt (.inl rfl)
    omega
  exact (hc'.keep i hlt (fun hb => by have := hge i hb; omega)).trans (h5.block i hi)

theorem InSt.cells {w wr : World} {B : Nat} {PB : Nat → Prop} {g n : Nat} {cs0 : List LC} {cA : LC} {ls0 : List Lv} {l1 : Lv} {st : List (Int × Int) × List Lv} (h : InSt w wr B PB g n cs0 cA ls0 l1 st) (hl : cs0.length = ls0.length) {lb : Nat} (hlb : cA.lb = lb) : ∃ A cap A' cap', cA.gv = .slice A l1.gens.length cap ∧ cA.ov = .slice A' l1.reps.length cap' ∧
    wr.cell? ⟨lb, 1, none⟩ = some (.slice A l1.gens.length cap) ∧ wr.cell? ⟨lb, 2, none⟩ = some (.slice A' l1.reps.length cap') ∧ wr.cell? ⟨lb, 3, none⟩ = some (.map (some cA.rb)) ∧ wr.cell? ⟨lb, 4, none⟩ = some (.map (some cA.tb)) := by
  obtain ⟨PBx, hx⟩ := h.lv hl
  obtain ⟨_, h1, h2, h3, h4⟩ := hx.cell
  rw [hlb] at h1 h2 h3 h4
  obtain ⟨gs, hg, _⟩ := hx.gens
  obtain ⟨A, cap, e⟩ := own_slice hg
  obtain ⟨A', cap', e'⟩ := own_slice hx.orb
  have hd : (dom l1).length = l1.reps.length := by simp [dom]
  rw [hd] at e'
  exact ⟨A, cap, A', cap', e, e', by rw [h1, e], by rw [h2, e'], h3, h4⟩
theorem loop_small {n : Nat} {pts : List Int} {l1 : Lv} {rest : List Lv} {st : List (Int × Int) × List Lv} (h : LoopInv n pts l1 rest st) (h1 : l1.reps.length ≤ 512) (h2 : l1.gens.length ≤ 1000000000000) : Small st.1 := by
  intro q hq
  obtain ⟨a, b, rfl, ha, hb⟩ := h.tin q hq
  exact ⟨by show (0 : Int) ≤ a; omega, by show (a : Int) ≤ _; omega, by show (0 : Int) ≤ b; omega, by show (b : Int) ≤ _; omega⟩
theorem range_cons {a m : Nat} (h : a < m) : List.range' a (m - a) = a :: List.range' (a + 1) (m - (a + 1)) := by
  have : m - a = (m - (a + 1)) + 1 := by omega
  rw [this, List.range'_succ]
theorem allF_cons {ins : List Lv → List Int → Option (List Lv)} {l : Lv} {a : Nat} {zs : List Nat} {st stF : List (Int × Int) × List Lv} (h : allF ins l (a :: zs) st = some stF) : ∃ st1, rowF ins l a (List.range' 0 l.gens.length) st = some st1 ∧ allF ins l zs st1 = some stF := by
  unfold allF at h ⊢
  rw [List.foldlM_cons] at h
  exact Option.bind_eq_some_iff.1 h
theorem rowF_cons {ins : List Lv → List Int → Option (List Lv)} {l : Lv} {a b : Nat} {bs : List Nat} {st stF : List (Int × Int) × List Lv} (h : rowF ins l a (b :: bs) st = some stF) : ∃ st1, stepF ins l st a b = some st1 ∧ rowF ins l a bs st1 = some stF := by
  unfold rowF at h ⊢
  rw [List.foldlM_cons] at h
  exact Option.bind_eq_some_iff.1 h

set_option maxHeartbeats 8000000 in
set_option maxRecDepth 100000 in
theorem insert_succ {n f : Nat} (hn : 0 < n) (h11 : n ≤ 11) (ih : InsC n f) : InsC n (f + 1) := by
  intro w B PB g av cs ls k pts p v okp ls' hG hbd hB hkp hkl hPC hgb hpn hpr hp hfx hfk hv hins
  have hn' : n ≤ 512 := by omega
  have hlen0 := PC_length hPC hpn hpr
  have hlsn : ls.length ≤ n := by rw [List.length_drop] at hlen0; omega
  have hpl : p.length = n := hp.len
  obtain ⟨Aa, ca, rfl⟩ := own_slice hG.arr
  have hc1 : w.cell? ⟨g, 1, none⟩ = some (.slice Aa cs.length ca) := by simp [World.cell?, hG.cells]
  have hc0 : w.cell? ⟨g, 0, none⟩ = some (.int .i64 (n : Int)) := by simp [World.cell?, hG.cells]
  have HCL := Aside0.mk hG.len
  have HG := Aside0.mk hG
  have HBD := Aside0.mk hbd
  have HB := Aside0.mk hB
  have HKP := Aside0.mk hkp
  have HKL := Aside0.mk hkl
  have HPC := Aside0.mk hPC
  have HGB := Aside0.mk hgb
  have HPN := Aside0.mk hpn
  have HPR := Aside0.mk hpr
  have HP := Aside0.mk hp
  have HFX := Aside0.mk hfx
  have HFK := Aside0.mk hfk
  have HV := Aside0.mk hv
  have HINS := Aside0.mk hins
  have HN := Aside0.mk hn
  have HLSN := Aside0.mk hlsn
  have HPL := Aside0.mk hpl
  have HRI := Aside0.mk (resid_isP (PC_ok hPC) hp)
  have HIH : Aside0 (InsC n f) := ⟨@ih⟩
  clear ih hG hbd hB hkp hkl hPC hgb hpn hpr hp hfx hfk hv hins hn hlen0 hlsn hpl
  by_cases hm : movedL (residF (ls.drop k) p) < 0
  · go_enter Try.func84, Try.ntmps84
    go_wp2_with (first | (go_at_call 76; (with_reducible refine (clone_pv (by rw [HPL.out]; exact HN.out) (by rw [HPL.out]; exact hn') HV.out).mono ?_); rintro e w1 ⟨r, rfl, hR, hb⟩; have HR := Aside0.mk hR; have HB1 := Aside0.mk hb; clear hR hb) | (go_at_call 93; (with_reducible refine (residue_calls HN.out hn' (HG.out.below HB1.out) HKL.out (PC_ok HPC.out) HR.out.any HP.out (by have := HLSN.out; omega)).mono ?_); rintro e w2 ⟨u, rfl, hU, hb⟩; have HU := Aside0.mk hU; have HB2 := Aside0.mk hb; clear hU hb) | (go_at_call 92; (with_reducible refine (moved_pv (by rw [HRI.out.len]; exact hn') HU.out).mono ?_); rintro e w3 ⟨rfl, hD⟩; have HD := Aside0.mk hD; clear hD))
    refine bodyPost_ret (v := .tuple #[]) (by simp [results, Try.results84, go_sem]) rfl ⟨rfl, ?_⟩
    have e1 : ls' = ls.drop k := by
      have h := HINS.out
      rw [insF, if_pos hm] at h
      exact (Option.some.inj h).symm
    have hb3 : Below w.heap.size w w3 := below_then (below_then HB1.out HB1.out.size HB2.out) (Nat.le_trans HB1.out.size HB2.out.size) HD.out.below
    refine ⟨.slice Aa cs.length ca, PB, cs.drop k, ?_, fun b hb => Nat.lt_of_lt_of_le (HBD.out b hb) hb3.size, fun _ h => h, fun b _ hlt => hb3.block b hlt, ⟨hb3.os, hb3.tape, hb3.output, hb3.size, fun i hi => hb3.block i (Nat.lt_of_lt_of_le hi HB.out)⟩⟩
    rw [e1, List.take_append_drop, List.take_append_drop]
    exact HG.out.below hb3
  · have hmm : ¬ movedL (residF (ls.drop k) p) < 0 := hm
    have HMM := Aside0.mk hmm
    have HF := Aside0.mk (head_pc HPC.out HP.out HFX.out hmm HGB.out)
    clear hmm
    go_enter Try.func84, Try.ntmps84
    go_upto_if 25 with (first | (go_at_call 76; (with_reducible refine (clone_pv (by rw [HPL.out]; exact HN.out) (by rw [HPL.out]; exact hn') HV.out).mono ?_); rintro e w1 ⟨r, rfl, hR, hb⟩; obtain ⟨Ar, cr, rfl, -, -⟩ := PV.read hR.any; have hc11 := pw_cell_below hb hc1; have hc01 := pw_cell_below hb hc0; have HR := Aside0.mk hR; have HB1 := Aside0.mk hb; clear hR hb) | (go_at_call 93; (with_reducible refine (residue_calls HN.out hn' (HG.out.below HB1.out) HKL.out (PC_ok HPC.out) HR.out.any HP.out (by have := HLSN.out; omega)).mono ?_); rintro e w2 ⟨u, rfl, hU, hb⟩; have hc12 := pw_cell_below hb hc11; have hc02 := pw_cell_below hb hc01; have HU := Aside0.mk hU; have HB2 := Aside0.mk hb; clear hU hb) | (go_at_call 92; (with_reducible refine (moved_pv (by rw [HRI.out.len]; exact hn') HU.out).mono ?_); rintro e w3 ⟨rfl, hD⟩; have hc13 := pw_cell_below hD.below hc12; have hc03 := pw_cell_below hD.below hc02; have HD := Aside0.mk hD; clear hD))
    have hbb2 : Below w1.heap.size w1 w3 := below_then HB2.out HB2.out.size HD.out.below
    obtain ⟨PB1, hG1, hR1, hup1, hbd1⟩ := HG.out.made HBD.out HB1.out HR.out
    have HG3 := Aside0.mk (hG1.below hbb2)
    have HR3 := Aside0.mk (PV.below hR1 hbb2)
    have HUP := Aside0.mk hup1
    have HBD3 : Aside0 (∀ b, PB1 b → b < w3.heap.size) := ⟨fun b hb => Nat.lt_of_lt_of_le (hbd1 b hb) hbb2.size⟩
    have HBW : Aside0 (Below w.heap.size w w3) := ⟨below_then HB1.out HB1.out.size hbb2⟩
    clear hm hG1 hR1 hup1 hbd1 hbb2 HG HV HR HB1 HB2 HU HD HRI hc1 hc11 hc12 hc0 hc01 hc02
    go_cut [2] (fun v2 wc => v2 = .slice Ar p.length cr ∧ Aside0 (∃ av' PB' c cs1, GrAt wc B PB' g n av' (cs.take k ++ c :: cs1) (ls.take k ++ (headF n p (ls.drop k)).1 :: (headF n p (ls.drop k)).2) ∧ (∀ b, PB' b → b < wc.heap.size) ∧ (∀ b, PB b → PB' b) ∧ PV wc PB' (.slice Ar p.length cr) p ∧ Agree PB w wc ∧ Below B w wc))
    case first =>
      by_cases hk : k = cs.length
      · have hkt : ((k : Int) == (cs.length : Int)) = true := by rw [hk]; exact beq_self_eq_true _
        have HK := Aside0.mk hk
        clear hk
        go_wp2_with (fail)
        have hd0 : ls.drop k = [] := List.drop_eq_nil_of_le (by have := HK.out; have := HCL.out; omega)
        have hmp : ¬ movedL p < 0 := by
          have h := HMM.out
          rw [hd0] at h
          have h2 : residF [] p = p := rfl
          rw [h2] at h
          omega
        obtain ⟨m0, m1, m2⟩ := moved_pos HP.out hmp
        have hf3 : w3.frozen? ⟨g, 1, none⟩ = false := by simp [World.frozen?, HG3.out.cells]
        have hgl3 := lt_of_some HG3.out.cells
        have hB3 : B ≤ w3.heap.size := Nat.le_trans HB.out HBW.out.size
        have hma3 : cs.length < 1000000 := by have := HCL.out; have := HLSN.out; omega
        refine insert_region3 hc03 hc13 hf3 hgl3 hB3 hma3 HG3.out.arr HG3.out.av_ne HN.out hn' HR3.out (by rw [HPL.out]; exact hn') rfl m0 m1 ?_
        intro w0 w4 w5 c PBc g' cap t26 t27 t28 t29 t30 t31 t32 t33 t34 t35 t36 t37 t38 t39 t40 t41 k1 k2 k3 k4 k5 k6 k7 k8
        obtain ⟨PB2, p1, p2, p3, p4, p5⟩ := HG3.out.push HBD3.out hB3 k1 k2 k3 k4 k5 k6 k7 k8
        have HP1 := Aside0.mk p1
        have HP2 := Aside0.mk p2
        have HP3 := Aside0.mk p3
        have HP4 := Aside0.mk p4
        have HP5 := Aside0.mk p5
        have HD0 := Aside0.mk hd0
        clear hd0 hmp m0 m1 m2 hf3 hgl3 hB3 hma3 k1 k2 k3 k4 k5 k6 k7 k8 p1 p2 p3 p4 p5 hc03 hc13 hkt
        obtain ⟨wz, hwz⟩ : ∃ wz, wz = w5.setCell ⟨g, 1, none⟩ (.slice (some ⟨g', 0, none⟩) (cs.length + 1) cap) := ⟨_, rfl⟩
        rw [← hwz]
        have HWZ := Aside0.mk hwz
        clear hwz
        go_wp2_with (fail)
        go_meet
        case rel =>
          refine ⟨rfl, ⟨⟨.slice (some ⟨g', 0, none⟩) (cs.length + 1) cap, PB2, c, [], ?_⟩⟩⟩
          rw [HWZ.out]
          have e1 : cs.take k = cs := List.take_of_length_le (by rw [HK.out]; exact Nat.le_refl _)
          have e2 : ls.take k = ls := List.take_of_length_le (by rw [HK.out, HCL.out]; exact Nat.le_refl _)
          rw [HD0.out, e1, e2]
          exact ⟨HP1.out, HP2.out, fun b hb => HP3.out b (HUP.out b hb), PV.mono (PV.agree HR3.out HP4.out) HP3.out, fun b hb hlt => (HP4.out b (HUP.out b hb) (Nat.lt_of_lt_of_le hlt HBW.out.size)).trans (HBW.out.block b hlt), ⟨HP5.out.os.trans HBW.out.os, HP5.out.tape.trans HBW.out.tape, HP5.out.output.trans HBW.out.output, Nat.le_trans HBW.out.size HP5.out.size, fun i hi => (HP5.out.block i hi).trans (HBW.out.block i (Nat.lt_of_lt_of_le hi HB.out))⟩⟩
      · have hkt : ((k : Int) == (cs.length : Int)) = false := by
          rw [beq_eq_false_iff_ne]
          omega
        have HK := Aside0.mk hk
        clear hk
        go_wp2_with (fail)
        go_meet
        case rel =>
          have hk1 : k < cs.length := by have := HK.out; have := HKL.out; have := HCL.out; omega
          have hk2 : k < ls.length := by have := HCL.out; omega
          refine ⟨rfl, ⟨⟨.slice Aa cs.length ca, PB1, cs[k], cs.drop (k + 1), ?_⟩⟩⟩
          have e1 : cs.take k ++ cs[k] :: cs.drop (k + 1) = cs := by rw [← List.drop_eq_getElem_cons hk1, List.take_append_drop]
          have e2 : ls.drop k = ls[k] :: ls.drop (k + 1) := List.drop_eq_getElem_cons hk2
          rw [e1, e2]
          show GrAt w3 B PB1 g n (.slice Aa cs.length ca) cs (ls.take k ++ ls[k] :: ls.drop (k + 1)) ∧ _
          rw [← e2, List.take_append_drop]
          exact ⟨HG3.out, HBD3.out, HUP.out, HR3.out, fun b _ hlt => HBW.out.block b hlt, ⟨HBW.out.os, HBW.out.tape, HBW.out.output, HBW.out.size, fun i hi => HBW.out.block i (Nat.lt_of_lt_of_le hi HB.out)⟩⟩
    case rest =>
      obtain ⟨rfl, HH⟩ := hcut
      clear hc13 hc03 HG3 HR3 HBD3 HUP HBW
      obtain ⟨hgb2, hpc2, -, -⟩ := HF.out
      obtain ⟨lr, hlr⟩ : ∃ lr, headF n p (ls.drop k) = lr := ⟨_, rfl⟩
      obtain ⟨l, rest⟩ := lr
      rw [hlr] at hgb2 hpc2 HH
      dsimp only at hgb2 hpc2 HH
      obtain ⟨avh, PBh, c, cs1, hGh, hbdh, huph, hRh, hagh, hBh⟩ := HH.out
      have hkl1 : (cs.take k).length = k := by rw [List.length_take]; have := HKL.out; have := HCL.out; omega
      have hkl2 : (ls.take k).length = k := by rw [List.length_take]; have := HKL.out; omega
      have hkl3 : (cs.take k).length = (ls.take k).length := by rw [hkl1, hkl2]
      obtain ⟨hCl, hLI, hgeq, hpeq⟩ := add_spec hpc2 hgb2.2 HP.out HFX.out
      have hlv := hGh.mid hkl3
      have hfew := gens_few HN.out h11 hpc2 HPN.out HPR.out hgb2 l (by simp)
      have htd : l.todo = [] := hpc2.2.1
      have hB2 : B ≤ wc.heap.size := Nat.le_trans HB.out hBh.size
      have hadd := add_calls HN.out hn' hlv hB2 hbdh hRh (fun g hg => hCl.gens g (by rw [hgeq]; exact hg)) hpc2.cl.pt (hpc2.cl.gr.mono (fun g hg => List.mem_append.2 (.inl hg))) (by rw [htd]; exact fun q hq => by simp at hq) (by rw [htd]; exact List.nodup_nil) hfew
      obtain ⟨stF, hall, hfin⟩ : ∃ stF, allF (insF n f) (addF n l p) (List.range' 0 (addF n l p).reps.length) ((addF n l p).todo, rest) = some stF ∧ { addF n l p with todo := stF.1 } :: stF.2 = ls' := by
        have h := HINS.out
        rw [insF, if_neg (show ¬ movedL (residF (ls.drop k) p) < 0 from by have := HMM.out; omega), hlr] at h
        exact Option.map_eq_some_iff.1 h
      have hInOk : InsOk n (insF n f) ((addF n l p).point :: pts) := by
        rw [hpeq]
        exact ins_ok f _ (List.nodup_cons.2 ⟨hpc2.2.2.1, HPN.out⟩) (fun x hx => by
          rcases List.mem_cons.1 hx with rfl | hx
          · exact hpc2.cl.pt
          · exact HPR.out x hx) (by rw [List.length_cons, HKP.out]; have := HFK.out; omega)
      obtain ⟨Ah, ch, hav⟩ := own_slice hGh.arr
      have hkk : (cs.take k ++ c :: cs1)[k]? = some c := by
        rw [List.getElem?_append_right (by omega), hkl1, Nat.sub_self]
        rfl
      have hc1h : wc.cell? ⟨g, 1, none⟩ = some avh := by simp [World.cell?, hGh.cells]
      rw [hav] at hGh hc1h
      obtain ⟨-, adh, rfl, hcp⟩ := hGh.ptr_at hkk
      obtain ⟨mh, hmh⟩ : ∃ mh, (cs.take k ++ c :: cs1).length = mh := ⟨_, rfl⟩
      rw [hmh] at hc1h
      have hkm : (k : Int) < (mh : Int) := by
        have : k < (cs.take k ++ c :: cs1).length := by rw [List.length_append, hkl1, List.length_cons]; omega
        omega
      have hst0 : ∀ wA, (∃ cA PBA, AddSt wc B PBh c wA PBA cA l.point (l.gens ++ [p]) (dom (addF n l p)) (addF n l p).reps (addF n l p).todo) → ∃ cA, cA.lb = c.lb ∧ InSt w wA B PB g n (cs.take k) cA (ls.take k) (addF n l p) ((addF n l p).todo, rest) ∧ w.heap.size ≤ wA.heap.size := by
        rintro wA ⟨cA, PBA, hA⟩
        have hge : ∀ b, c.Blk b → B ≤ b := fun b hb => (hlv.kind hb).1
        have hG4 := hGh.upd hkl3 hA.lb (show LvAt wA B PBA cA (addF n l p) from hA.lv) hA.chg hA.blk hA.up hA.pb
        refine ⟨cA, hA.lb, ⟨_, PBA, cs1, hG4, hA.bd, fun b hb => hA.up b (huph b hb), fun b hb hlt => ?_, ⟨hA.chg.os.trans hBh.os, hA.chg.tape.trans hBh.tape, hA.chg.output.trans hBh.output, Nat.le_trans hBh.size hA.chg.size, fun i hi => ?_⟩⟩, Nat.le_trans hBh.size hA.chg.size⟩
        · exact (hA.chg.keep b (Nat.lt_of_lt_of_le hlt hBh.size) (fun h => hlv.free b h (huph b hb))).trans (hagh b hb hlt)
        · exact (hA.chg.keep i (by omega) (fun h => by have := hge i h; omega)).trans (hBh.block i hi)
      obtain ⟨l1, hl1⟩ : ∃ l1, addF n l p = l1 := ⟨_, rfl⟩
      rw [hl1] at hall hfin hCl hLI hInOk hst0 hadd hgeq hpeq
      have HADD := Aside0.mk hadd
      have HST0 := Aside0.mk hst0
      have HALL := Aside0.mk hall
      have HFIN := Aside0.mk hfin
      have HCL2 := Aside0.mk hCl
      have HLI := Aside0.mk hLI
      have HIO := Aside0.mk hInOk
      have HKL3 := Aside0.mk hkl3
      have HKL1 := Aside0.mk hkl1
      have HKL2 := Aside0.mk hkl2
      have HB2 := Aside0.mk hB2
      have HFEW := Aside0.mk hfew
      have HPEQ := Aside0.mk hpeq
      have HGEQ := Aside0.mk hgeq
      clear hadd hst0 hall hfin hCl hLI hInOk hkl3 hkl1 hkl2 hB2 hfew hpeq hgeq hgb2 hpc2 hlr HH hGh hbdh huph hRh hagh hBh hlv htd hav hkk hmh HINS HMM HF hl1
      go_upto_region 6 with (first | (go_at_call 107; (with_reducible refine HADD.out.mono ?_); rintro e wA ⟨cA, PBA, rfl, hA⟩; have HA := Aside0.mk hA; clear hA))
      obtain ⟨cB, hlb, hS0, hsz0⟩ := HST0.out wA ⟨cA, PBA, HA.out⟩
      have HS0 := Aside0.mk hS0
      have HLB := Aside0.mk hlb
      have HSZ0 := Aside0.mk hsz0
      clear hS0 hsz0 HST0 HADD HA hc1h hcp hkm
      have HM0 : Aside0 (l1.reps.length ≤ 512) := ⟨Nat.le_trans HCL2.out.gr.length hn'⟩
      have HKG : Aside0 (l1.gens.length ≤ 1000000000000) := ⟨by rw [HGEQ.out, List.length_append, List.length_singleton]; have := HFEW.out; omega⟩
      obtain ⟨-, -, Ao, co, -, -, -, hc2, -, -⟩ := HS0.out.cells HKL3.out HLB.out
      obtain ⟨m0, hm0⟩ : ∃ m0, l1.reps.length = m0 := ⟨_, rfl⟩
      obtain ⟨kg, hkg⟩ : ∃ kg, l1.gens.length = kg := ⟨_, rfl⟩
      rw [hm0] at hc2 HM0 HALL
      rw [hkg] at HKG
      have hm0' : m0 ≤ 512 := HM0.out
      have hkg' : kg ≤ 1000000000000 := HKG.out
      have HMM0 := Aside0.mk hm0
      have HKGG := Aside0.mk hkg
      clear hm0 hkg hlb
      go_wp2_with (fail)
      go_loopw [57] (fun i wr => ∃ (a : Nat) (st : List (Int × Int) × List Lv), i = .int .i64 a ∧ a ≤ m0 ∧ Aside0 (InSt w wr B PB g n (cs.take k) cB (ls.take k) l1 st) ∧ Aside0 (LoopInv n pts l1 rest st) ∧ Aside0 (allF (insF n f) l1 (List.range' a (m0 - a)) st = some stF) ∧ Aside0 (w.heap.size ≤ wr.heap.size)) (fun i _ => m0 - (intOf i).toNat)
      case atStart => exact ⟨0, (l1.todo, rest), rfl, by omega, HS0, HLI, HALL, HSZ0⟩
      case round =>
        clear HS0 HLI HALL HSZ0 hc2
        obtain ⟨a, st, rfl, ha, HS, HLI, HALL, HSZ⟩ := hrel
        by_cases hlt : a < m0
        · have hall := HALL.out
          rw [range_cons hlt] at hall
          obtain ⟨st1, hrow, hall1⟩ := allF_cons hall
          rw [HKGG.out] at hrow
          have HROW : Aside0 (rowF (insF n f) l1 a (List.range' 0 (kg - 0)) st = some st1) := ⟨hrow⟩
          have HALL1 := Aside0.mk hall1
          obtain ⟨Ag, cg, -, -, hgv, -, hc1, -, -, -⟩ := HS.out.cells HKL3.out HLB.out
          rw [HKGG.out] at hc1 hgv
          have HGV := Aside0.mk hgv
          have hlt2 : (a : Int) < (m0 : Int) := by omega
          clear hall hrow hall1 hgv HALL
          go_wp2_with (fail)
          go_loopw [65] (fun i wr => ∃ (b : Nat) (st : List (Int × Int) × List Lv), i = .int .i64 b ∧ b ≤ kg ∧ Aside0 (InSt w wr B PB g n (cs.take k) cB (ls.take k) l1 st) ∧ Aside0 (LoopInv n pts l1 rest st) ∧ Aside0 (rowF (insF n f) l1 a (List.range' b (kg - b)) st = some st1) ∧ Aside0 (w.heap.size ≤ wr.heap.size)) (fun i _ => kg - (intOf i).toNat)
          case atStart => exact ⟨0, st, rfl, by omega, HS, HLI, HROW, HSZ⟩
          case round =>
            clear HS HLI HROW HSZ hc1
            obtain ⟨b, st, rfl, hb, HS, HLI, HROW, HSZ⟩ := hrel
            by_cases hltb : b < kg
            · have hrow := HROW.out
              rw [range_cons hltb] at hrow
              obtain ⟨st2, hstep, hrow1⟩ := rowF_cons hrow
              obtain ⟨st2', hstep', hLI2, -, -⟩ := step_inv HCL2.out HPR.out HIO.out HLI.out (a := a) (b := b) (by rw [HMM0.out]; exact hlt) (by rw [HKGG.out]; exact hltb)
              have e2 : st2' = st2 := Option.some.inj (hstep'.symm.trans hstep)
              rw [e2] at hLI2
              have HROW1 := Aside0.mk hrow1
              have HLI2 := Aside0.mk hLI2
              obtain ⟨PBx, hx⟩ := HS.out.lv HKL3.out
              obtain ⟨s, hsb⟩ : ∃ s, l1.gens[b]? = some s := ⟨l1.gens[b]'(by rw [HKGG.out]; exact hltb), List.getElem?_eq_getElem _⟩
              obtain ⟨adg, us, rfl, hcu, hpu⟩ := gens_at hx.gens HGV.out hsb
              have hsm : s ∈ l1.gens := List.mem_of_getElem? hsb
              have hsp := HCL2.out.gens s hsm
              obtain ⟨As, cs', rfl, -, hCs⟩ := PV.read hpu
              obtain ⟨ads, rfl⟩ := PV.addr hCs (by rw [hsp.len]; exact HN.out)
              obtain ⟨-, -, -, -, -, -, -, -, -, hc4⟩ := HS.out.cells HKL3.out HLB.out
              have hpk : 0 ≤ ((a : Int), (b : Int)).1 ∧ ((a : Int), (b : Int)).1 ≤ 1000000000000 ∧ 0 ≤ ((a : Int), (b : Int)).2 ∧ ((a : Int), (b : Int)).2 ≤ 1000000000000 := ⟨by show (0 : Int) ≤ a; omega, by show (a : Int) ≤ _; omega, by show (0 : Int) ≤ b; omega, by show (b : Int) ≤ _; omega⟩
              have hsml := loop_small HLI.out (by rw [HMM0.out]; exact hm0') (by rw [HKGG.out]; exact hkg')
              have hlook := todo_look hx.todo hsml HLI.out.tnd hpk wr rfl
              dsimp only at hlook
              have hltb2 : (b : Int) < (kg : Int) := by omega
              have HSB := Aside0.mk hsb
              have HPU := Aside0.mk hpu
              have HSP := Aside0.mk hsp
              have HSM := Aside0.mk hsm
              have HPK := Aside0.mk hpk
              have HSML := Aside0.mk hsml
              by_cases hmem : ((a : Int), (b : Int)) ∈ st.1
              · have hd : decide (((a : Int), (b : Int)) ∈ st.1) = true := decide_eq_true hmem
                rw [hd] at hlook
                obtain ⟨r2, hins, hst2⟩ : ∃ r2, insF n f st.2 (schF l1.reps (l1.reps.getD a (0, [])).1 (l1.gens.getD b [])) = some r2 ∧ st2 = (st.1.erase ((a : Int), (b : Int)), r2) := by
                  unfold stepF at hstep
                  rw [if_pos hmem] at hstep
                  obtain ⟨r2, h1, h2⟩ := Option.map_eq_some_iff.1 hstep
                  exact ⟨r2, h1, h2.symm⟩
                obtain ⟨w1, hdel, hS1, hsz1, hch1⟩ := HS.out.drop HKL3.out hsml HLI.out.tnd hpk hmem HSZ.out
                dsimp only at hdel
                have hag1 : Agree PBx wr w1 := fun i hi hl => hch1.keep i hl (fun e => hx.free i (.inr (.inr (.inr (.inr e)))) hi)
                have HPU1 := Aside0.mk (PV.agree hpu hag1)
                have HCU1 : Aside0 (w1.cell? (adg.add b) = some (.slice (some ads) s.length cs')) := ⟨by
                  have hne : (adg.add b).block ≠ cB.tb := fun e => by
                    obtain ⟨et, ct, h1, _⟩ := hx.todo
                    have h2 := hcu
                    simp [World.cell?, e, h1] at h2
                  exact (World.cell?_of_block (hch1.keep _ (World.block_lt_of_cell? wr _ hcu) hne)).trans hcu⟩
                have HDEL := Aside0.mk hdel
                have HS1 := Aside0.mk hS1
                have HSZ1 : Aside0 (w.heap.size ≤ w1.heap.size) := ⟨Nat.le_trans HSZ.out hsz1⟩
                have HINS2 := Aside0.mk hins
                have HST2 := Aside0.mk hst2
                clear hag1 hch1 hd hins hst2 hdel hS1 hsz1 hmem hrow hstep hstep' hLI2 e2 hrow1 hx hsb hpu hsm hsp hCs hpk hsml HROW HS HSZ
                go_upto_region 14 with (at_delete; (with_reducible refine wpList_delete_run rfl (.tmp 82) (.tmp 85) 109 139 rfl _ _ rfl rfl (HDEL.out _) ?_))
                clear hlook hcu hc4
                obtain ⟨PBy, hx⟩ := HS1.out.lv HKL3.out
                dsimp only at hx
                obtain ⟨q, hq⟩ : ∃ q, l1.reps[a]? = some q := ⟨l1.reps[a]'(by rw [HMM0.out]; exact hlt), List.getElem?_eq_getElem _⟩
                obtain ⟨Ao3, cg3, Ao1, co1, -, hov1, -, hc21, hc31, -⟩ := HS1.out.cells HKL3.out HLB.out
                rw [HMM0.out] at hc21 hov1
                obtain ⟨ado, rfl, hco⟩ := orb_at hx hov1 (k := a) (x := q.1) (by rw [dom, List.getElem?_map, hq]; rfl)
                obtain ⟨x, hxq⟩ : ∃ x, q.1 = x := ⟨_, rfl⟩
                rw [hxq] at hco
                have hxd : x ∈ dom l1 := by rw [← hxq]; exact List.mem_map.2 ⟨q, List.mem_of_getElem? hq, rfl⟩
                have hxr := HCL2.out.gr.rng x hxd
                have hyd := HCL2.out.closed x hxd s HSM.out
                have hyr := HCL2.out.gr.rng _ hyd
                obtain ⟨As2, cs2, he2, -, hC2⟩ := PV.read HPU1.out
                have he3 : some ads = As2 := by injection he2
                rw [← he3] at hC2
                have hx0 := hxr.1
                have hx1 : x < (s.length : Int) := by rw [HSP.out.len]; exact hxr.2
                have hcy := PV.at_ hC2 hx0 hx1
                obtain ⟨ux, rx', fx, hlookx, hcasex⟩ := reps_look hx.reps HCL2.out.gr.rng hn' HCL2.out.gr.nd hxr.1 hxr.2
                obtain ⟨uy, ry', fy, hlooky, hcasey⟩ := reps_look hx.reps HCL2.out.gr.rng hn' HCL2.out.gr.nd hyr.1 hyr.2
                have hlookx' : ∀ W : World, W.heap[cB.rb]? = w1.heap[cB.rb]? → (Instr.lookup 108 (.map (some cB.rb)) (.int .i64 x) false).run Try.prog W = .ok ux W := fun W h => hlookx W false h
                have hlooky' : ∀ W : World, W.heap[cB.rb]? = w1.heap[cB.rb]? → (Instr.lookup 108 (.map (some cB.rb)) (.int .i64 (rdl s x)) false).run Try.prog W = .ok uy W := fun W h => hlooky W false h
                have hrepx : lookA x l1.reps = some (repL l1.reps x) := by
                  obtain ⟨r, hr⟩ := lookA_some hxd
                  rw [hr]; unfold repL; rw [hr]; rfl
                have hrepy : lookA (rdl s x) l1.reps = some (repL l1.reps (rdl s x)) := by
                  obtain ⟨r, hr⟩ := lookA_some hyd
                  rw [hr]; unfold repL; rw [hr]; rfl
                have hpux : PV w1 PBy ux (repL l1.reps x) := by
                  rcases hcasex with ⟨_, h1, h2⟩ | ⟨_, h1, _⟩
                  · rw [hrepx] at h1; cases h1; exact h2
                  · rw [hrepx] at h1; cases h1
                have hpuy : PV w1 PBy uy (repL l1.reps (rdl s x)) := by
                  rcases hcasey with ⟨_, h1, h2⟩ | ⟨_, h1, _⟩
                  · rw [hrepy] at h1; cases h1; exact h2
                  · rw [hrepy] at h1; cases h1
                have hsch : schF l1.reps (l1.reps.getD a (0, [])).1 (l1.gens.getD b []) = thenL (thenL (repL l1.reps x) s) (backL (repL l1.reps (rdl s x))) := by
                  have e1 : (l1.reps.getD a (0, [])).1 = x := by rw [List.getD_eq_getElem?_getD, hq, Option.getD_some, hxq]
                  have e2 : l1.gens.getD b [] = s := by rw [List.getD_eq_getElem?_getD, HSB.out, Option.getD_some]
                  rw [e1, e2]
                  rfl
                have hinsC : ∀ (w3 : World) (r : Value), Below w1.heap.size w1 w3 → PN w1.heap.size w3 r (thenL (thenL (repL l1.reps x) s) (backL (repL l1.reps (rdl s x)))) → Calls Try.prog 84 #[.pointer (some ⟨g, 0, none⟩), .int .i64 ((k : Int) + 1), r] w3 fun e w4 => e = .returned (.tuple #[]) ∧ (InSt w w4 B PB g n (cs.take k) cB (ls.take k) l1 (st.1.erase ((a : Int), (b : Int)), r2) ∧ w.heap.size ≤ w4.heap.size) ∧ w4.cell? ⟨c.lb, 3, none⟩ = some (.map (some cB.rb)) ∧ w4.cell? (ads.add x.toNat) = some (.int .i64 (rdl s x)) := by
                  intro w3 r hb3 hr3
                  obtain ⟨avx, PBz, csx, g1, g2, g3, g4, g5⟩ := HS1.out.below hb3 (Nat.le_trans HB.out HSZ1.out) HBD.out HSZ1.out
                  dsimp only at g1
                  have ed : (ls.take k ++ { l1 with todo := st.1.erase ((a : Int), (b : Int)) } :: st.2).drop (k + 1) = st.2 := by
                    rw [List.drop_append, HKL2.out, List.drop_eq_nil_of_le (by rw [HKL2.out]; omega), show k + 1 - k = 1 from by omega]
                    rfl
                  have et : (ls.take k ++ { l1 with todo := st.1.erase ((a : Int), (b : Int)) } :: st.2).take (k + 1) = ls.take k ++ [{ l1 with todo := st.1.erase ((a : Int), (b : Int)) }] := by
                    rw [List.take_append, HKL2.out, List.take_of_length_le (by rw [HKL2.out]; omega), show k + 1 - k = 1 from by omega]
                    rfl
                  have ec : (cs.take k ++ cB :: csx).take (k + 1) = cs.take k ++ [cB] := by
                    rw [List.take_append, HKL1.out, List.take_of_length_le (by rw [HKL1.out]; omega), show k + 1 - k = 1 from by omega]
                    rfl
                  have hfx := sch_fix HCL2.out HPR.out hxd HSM.out
                  have hip := (HCL2.out.sch hxd HSM.out).1
                  have hsch2 : schF l1.reps x s = thenL (thenL (repL l1.reps x) s) (backL (repL l1.reps (rdl s x))) := rfl
                  have hih : InsC n f := HIH.out
                  have hcall := @hih w3 B PBz g avx (cs.take k ++ cB :: csx) (ls.take k ++ { l1 with todo := st.1.erase ((a : Int), (b : Int)) } :: st.2) (k + 1) (l1.point :: pts) (schF l1.reps x s) r (fun _ => True) r2 g1 g2 (Nat.le_trans HB.out (Nat.le_trans HSZ1.out hb3.size)) (by rw [List.length_cons, HKP.out]) (by rw [List.length_append, HKL2.out, List.length_cons]; omega) (by rw [ed]; exact HLI.out.pc) (by rw [ed]; exact HLI.out.gb) (List.nodup_cons.2 ⟨HCL2.out.new, HPN.out⟩) (fun z hz => by
                    rcases List.mem_cons.1 hz with rfl | hz
                    · exact HCL2.out.pt
                    · exact HPR.out z hz) hip hfx (by have := HFK.out; omega) (by rw [hsch2]; exact hr3.any) (by rw [ed]; have h := HINS2.out; rw [hsch] at h; exact h)
                  refine hcall.mono ?_
                  rintro e w4 ⟨rfl, avx', PBz', csx', q1, q2, q3, q4, q5⟩
                  rw [ec, et, List.append_assoc, List.append_assoc] at q1
                  have hS4 : InSt w w4 B PB g n (cs.take k) cB (ls.take k) l1 (st.1.erase ((a : Int), (b : Int)), r2) := ⟨avx', PBz', csx', q1, q2, fun i hi => q3 i (g3 i hi), fun i hi hl => (q4 i (g3 i hi) (Nat.lt_of_lt_of_le hl (Nat.le_trans HSZ1.out hb3.size))).trans (g4 i hi hl), ⟨q5.os.trans g5.os, q5.tape.trans g5.tape, q5.output.trans g5.output, Nat.le_trans g5.size q5.size, fun i hi => (q5.block i hi).trans (g5.block i hi)⟩⟩
                  obtain ⟨-, -, -, -, -, -, -, -, z3, -⟩ := hS4.cells HKL3.out HLB.out
                  refine ⟨rfl, ⟨hS4, Nat.le_trans HSZ1.out (Nat.le_trans hb3.size q5.size)⟩, z3, ?_⟩
                  obtain ⟨ad5, u5, e5, hc5, hp5⟩ := gens_at (g1.mid HKL3.out).gens HGV.out HSB.out
                  have e6 : adg = ad5 := Option.some.inj e5
                  rw [← e6, pw_cell_below hb3 HCU1.out] at hc5
                  have e7 := Option.some.inj hc5
                  rw [← e7] at hp5
                  exact PV.at_ (PV.readAt hp5 q4) hx0 hx1
                have HW1 : Aside0 (rdl s x = rdl s x) := ⟨rfl⟩
                go_wp2_with (fail)
                refine insert_region15 HN.out hn' (by have := HKP.out; have := pts_le HPN.out HPR.out; omega) hc31 hcy hx0 hx1 hlookx' hlooky' (hx.lt (.inr (.inr (.inr (.inl rfl))))) hpux hpuy HPU1.out ((HCL2.out.gr.rep x hxd).1) ((HCL2.out.gr.rep _ hyd).1) HSP.out (fun w4 => InSt w w4 B PB g n (cs.take k) cB (ls.take k) l1 (st.1.erase ((a : Int), (b : Int)), r2) ∧ w.heap.size ≤ w4.heap.size) hinsC ?_
                rintro w4 t93 t94 t95 t96 t97 t98 t99 t100 t101 t102 t103 t104 t105 t106 t107 t108 t109 t110 t111 t112 t113 t114 t115 ⟨hS4, hsz4⟩
                have HS4 := Aside0.mk hS4
                have HSZ4 := Aside0.mk hsz4
                clear hinsC hS4 hsz4 hlookx' hlooky' hcy hx hco hc31 hc21 hxd hyd hxr hyr hq hxq hC2 hpux hpuy hrepx hrepy hsch hcasex hcasey hlookx hlooky
                go_wp2_with (fail)
                go_roundw
                case rel => exact ⟨b + 1, (st.1.erase ((a : Int), (b : Int)), r2), by go_num, by omega, HS4, ⟨by rw [← HST2.out]; exact HLI2.out⟩, ⟨by rw [← HST2.out]; exact HROW1.out⟩, HSZ4⟩
                case measure => simp [intOf]; omega
              · have hd : decide (((a : Int), (b : Int)) ∈ st.1) = false := decide_eq_false hmem
                rw [hd] at hlook
                have HST2 : Aside0 (st2 = st) := ⟨by
                  unfold stepF at hstep
                  rw [if_neg hmem] at hstep
                  exact (Option.some.inj hstep).symm⟩
                clear hd hmem hrow hstep hstep' hLI2 e2 hrow1 hx hsb hpu hsm hsp hCs hpk hsml HROW
                go_wp2_with (fail)
                go_roundw
                case rel => exact ⟨b + 1, st, by go_num, by omega, HS, HLI, ⟨by rw [← HST2.out]; exact HROW1.out⟩, HSZ⟩
                case measure => simp [intOf]; omega
            · obtain rfl : b = kg := by omega
              have HE : Aside0 (st = st1) := ⟨by
                have h := HROW.out
                rw [Nat.sub_self] at h
                exact Option.some.inj h⟩
              clear hltb hb HROW
              go_wp2_with (fail)
              go_roundw
              case rel => exact ⟨a + 1, st, by go_num, by omega, HS, HLI, ⟨by rw [HE.out]; exact HALL1.out⟩, HSZ⟩
              case measure => simp [intOf]; omega
        · obtain rfl : a = m0 := by omega
          have HE : Aside0 (st = stF) := ⟨by
            have h := HALL.out
            rw [Nat.sub_self] at h
            exact Option.some.inj h⟩
          clear hlt ha HALL
          go_wp2_with (fail)
          go_end0
          refine ⟨rfl, ?_⟩
          obtain ⟨avx, PBx, csx, g1, g2, g3, g4, g5⟩ := HS.out
          rw [HE.out] at g1
          exact ⟨avx, PBx, cB :: csx, by rw [← HFIN.out]; exact g1, g2, g3, g4, g5⟩
end Go.Proofs.Ytpkgckccfanchaa.M

/- ## Gq -/
/- A new chain: its levels over given points, then its generators inserted. -/
-- The text of this file is written by wip/tools/mkgq.py.
namespace Go.Proofs.Ytpkgckccfanchaa.M
open Go.RowKit Go.Proofs.YtpkgckccfanchaaW.PrintWords Go.Proofs.YtpkgckccfanchaaW.PrintLast Go.Proofs.YtpkgckccfanchaaW.PrintMore
open Sims
set_option linter.unusedVariables false
set_option linter.unusedSimpArgs false
set_option maxHeartbeats 4000000 in
set_option maxRecDepth 100000 in
theorem newGroup_region5 {Q : Exit → Act → World → Prop} {w : World} {g B n ma ca : Nat} {mv : Int} {Aa : Option Addr} {xs : List Value} {s1 s2 s3 s4 s5 s6 s8 s10 s11 s12 s13 s14 s15 s16 s17 s18 s19 s20 s21 s22 s23 s24 s25 s26 s27 s28 s29 s30 s31 s32 s33 s34 s35 s36 s37 s38 s39 s40 s41 s42 s43 s44 : Value}
    (h1 : w.cell? ⟨g, 1, none⟩ = some (.slice Aa ma ca)) (hf : w.frozen? ⟨g, 1, none⟩ = false) (hgl : g < w.heap.size) (hB : B ≤ w.heap.size) (hma : ma < 1000000)
    (hown : w.ownsRow B 107 1 (.slice Aa ma ca) ma xs) (hne : (Value.slice Aa ma ca).ownBlock ≠ some g)
    (hn : 0 < n) (hn' : n ≤ 512) (hm0 : 0 ≤ mv) (hm1 : mv < n)
    (hQ : ∀ (w0 w1 w2 : World) (c : LC) (PB : Nat → Prop) (g' cap : Nat) (t21 t22 t23 t24 t25 t26 t27 t28 t29 t30 t31 t32 : Value), Below w.heap.size w w0 → w0.heap.size = w.heap.size → LvAt w1 w0.heap.size PB c (newLv n mv) → Below w0.heap.size w0 w1 → (∀ k, PB k → w0.heap.size ≤ k) → w2.ownsRow B 107 1 (.slice (some ⟨g', 0, none⟩) (ma + 1) cap) (ma + 1) (xs ++ [c.ptr]) → (w1.alloc (.cells #[c.ptr] 107)).grownBy w2 (Value.slice Aa ma ca).ownBlock → ((Value.slice Aa ma ca).ownBlock = some g' ∨ g' = w1.heap.size + 1) → Q .normal { tmps := #[.int .i64 (n : Int), s1, s2, s3, s4, s5, s6, .pointer (some ⟨g, 0, none⟩), s8, .int .i64 mv, s10, s11, s12, s13, s14, s15, s16, s17, s18, s19, s20, t21, t22, t23, t24, t25, t26, t27, t28, t29, t30, t31, t32, s33, s34, s35, s36, s37, s38, s39, s40, s41, s42, s43, s44], defers := [] } (w2.setCell ⟨g, 1, none⟩ (.slice (some ⟨g', 0, none⟩) (ma + 1) cap))) :
    (Code.region 5 #[{ dst := some 21, op := Go.Op.move (Go.Operand.tmp 7), type := 74, pos := "levels.go:97", after := #[], guard := none }, { dst := some 22, op := Go.Op.move (Go.Operand.tmp 7), type := 74, pos := "levels.go:97", after := #[], guard := none }, { dst := some 23, op := Go.Op.nilCheck (Go.Operand.tmp 22), type := 0, pos := "levels.go:97", after := #[{ on := 1, ground := Go.Ground.data }], guard := none }, { dst := some 24, op := Go.Op.fieldAddr 106 (Go.Operand.tmp 23) 1, type := 0, pos := "levels.go:97", after := #[{ on := 2, ground := Go.Ground.data }], guard := none }, { dst := some 25, op := Go.Op.load 104 (Go.Operand.tmp 24), type := 104, pos := "levels.go:97", after := #[{ on := 3, ground := Go.Ground.data }], guard := none }, { dst := some 26, op := Go.Op.move (Go.Operand.tmp 0), type := 3, pos := "levels.go:97", after := #[], guard := none }, { dst := some 27, op := Go.Op.move (Go.Operand.tmp 9), type := 3, pos := "levels.go:97", after := #[], guard := none }, { dst := some 28, op := Go.Op.call { callee := Go.Callee.value (Go.Operand.func 83), args := #[Go.Operand.tmp 26, Go.Operand.tmp 27], argTypes := #[3, 3] }, type := 107, pos := "levels.go:97", after := #[{ on := 5, ground := Go.Ground.data }, { on := 6, ground := Go.Ground.data }], guard := none }, { dst := some 29, op := Go.Op.buildSlice 104 1 #[(0, Go.Operand.tmp 28)], type := 104, pos := "levels.go:97", after := #[{ on := 7, ground := Go.Ground.data }], guard := none }, { dst := some 30, op := Go.Op.call { callee := Go.Callee.builtin Go.Builtin.append, args := #[Go.Operand.tmp 25, Go.Operand.tmp 29], argTypes := #[104, 104] }, type := 104, pos := "levels.go:97", after := #[{ on := 4, ground := Go.Ground.data }, { on := 8, ground := Go.Ground.data }, { on := 7, ground := Go.Ground.chain }], guard := none }, { dst := some 31, op := Go.Op.nilCheck (Go.Operand.tmp 21), type := 0, pos := "levels.go:97", after := #[{ on := 0, ground := Go.Ground.data }, { on := 0, ground := Go.Ground.phase }, { on := 1, ground := Go.Ground.phase }, { on := 2, ground := Go.Ground.phase }, { on := 3, ground := Go.Ground.phase }, { on := 4, ground := Go.Ground.phase }, { on := 5, ground := Go.Ground.phase }, { on := 6, ground := Go.Ground.phase }, { on := 7, ground := Go.Ground.phase }, { on := 8, ground := Go.Ground.phase }, { on := 9, ground := Go.Ground.phase }], guard := none }, { dst := some 32, op := Go.Op.fieldAddr 106 (Go.Operand.tmp 31) 1, type := 0, pos := "levels.go:97", after := #[{ on := 10, ground := Go.Ground.data }, { on := 0, ground := Go.Ground.phase }, { on := 1, ground := Go.Ground.phase }, { on := 2, ground := Go.Ground.phase }, { on := 3, ground := Go.Ground.phase }, { on := 4, ground := Go.Ground.phase }, { on := 5, ground := Go.Ground.phase }, { on := 6, ground := Go.Ground.phase }, { on := 7, ground := Go.Ground.phase }, { on := 8, ground := Go.Ground.phase }, { on := 9, ground := Go.Ground.phase }], guard := none }, { dst := none, op := Go.Op.store 104 (Go.Operand.tmp 32) (Go.Operand.tmp 30), type := 0, pos := "levels.go:97", after := #[{ on := 11, ground := Go.Ground.data }, { on := 9, ground := Go.Ground.data }, { on := 9, ground := Go.Ground.chain }, { on := 0, ground := Go.Ground.phase }, { on := 1, ground := Go.Ground.phase }, { on := 2, ground := Go.Ground.phase }, { on := 3, ground := Go.Ground.phase }, { on := 4, ground := Go.Ground.phase }, { on := 5, ground := Go.Ground.phase }, { on := 6, ground := Go.Ground.phase }, { on := 7, ground := Go.Ground.phase }, { on := 8, ground := Go.Ground.phase }, { on := 9, ground := Go.Ground.phase }], guard := none }] true).wp Try.prog Q { tmps := #[.int .i64 (n : Int), s1, s2, s3, s4, s5, s6, .pointer (some ⟨g, 0, none⟩), s8, .int .i64 mv, s10, s11, s12, s13, s14, s15, s16, s17, s18, s19, s20, s21, s22, s23, s24, s25, s26, s27, s28, s29, s30, s31, s32, s33, s34, s35, s36, s37, s38, s39, s40, s41, s42, s43, s44], defers := [] } w := by
  have HQ := Aside0.mk hQ
  have HO := Aside0.mk hown
  have HNE := Aside0.mk hne
  have HB := Aside0.mk hB
  have HN := Aside0.mk hn
  have HM0 := Aside0.mk hm0
  have HM1 := Aside0.mk hm1
  have HGL := Aside0.mk hgl
  obtain ⟨i0, hi, hz0, hz1, hz2⟩ := info_parts infoLv
  have HI := Aside0.mk hi
  have HZ := Aside0.mk hz0
  have HZ1 := Aside0.mk hz1
  have HZ2 := Aside0.mk hz2
  have HML : Aside0 (ma + 1 ≤ maxLen) := ⟨by unfold maxLen; omega⟩
  have HBY : Aside0 ((ma + 1) * 8 ≤ 140737488355328) := ⟨by omega⟩
  clear hQ hown hne hB hi hz0 hz1 hz2 hn hm0 hm1
  refine wp_region_noPanic ?_
  go_region_law (first | (refine step_append_lies _ rfl (.tmp 25) (.tmp 29) 104 rfl B 107 i0 (.pointer none) 1 8 Try.underlying104 HI.out HZ.out HZ1.out HZ2.out rfl (by decide) _ ma xs rfl (HO1.out.alloc _) ⟨w1.heap.size, 0, none⟩ 1 1 [c.ptr] rfl rfl (World.news_of_block (cs := #[c.ptr]) (t := 107) (fr := (0, 0)) (heap_alloc_new w1 _)) (by simp [Value.oneCell']) (by decide) HML.out HBY.out HBB.out (w1.heap.size + 1) (World.size_alloc _ _) ?_; intro g' cap w2 hown hgr hat hlt; have hx1' := (World.cell?_of_block (a := ⟨g, 1, none⟩) (HC.out w2 hgr)).trans kw1; have hx2' := (World.frozen?_of_block (a := ⟨g, 1, none⟩) (HC.out w2 hgr)).trans kf1; have HO2 := Aside0.mk hown; have HG2 := Aside0.mk hgr; have HT2 := Aside0.mk hat; clear hown hgr hat) | (go_simp; go_at_call 83; refine (newLevel_calls HN.out hn' HM0.out HM1.out).mono ?_; rintro e w1 ⟨c, PB, rfl, hlv, hb1, hpb⟩; have kw1 := pw_cell_below hb1 h1; have kw2 := pw_cell_below (below_alloc (Below.refl _ w1) (.cells #[c.ptr] 107)) kw1; have kf1 := (hb1.frozen (p := ⟨g, 1, none⟩) HGL.out).trans hf; have HO1 : Aside0 (w1.ownsRow B 107 1 (.slice Aa ma ca) ma xs) := ⟨own_same HO.out (fun b hb => hb1.block b (own_lt HO.out b hb))⟩; have hgw : g < w1.heap.size := (Nat.lt_of_lt_of_le HGL.out hb1.size); have hsz1 : w.heap.size ≤ w1.heap.size := hb1.size; have HBB : Aside0 (B ≤ (w1.alloc (.cells #[c.ptr] 107)).heap.size) := ⟨by rw [World.size_alloc]; exact Nat.le_succ_of_le (Nat.le_trans HB.out hsz1)⟩; have HC : Aside0 (∀ w2 : World, (w1.alloc (.cells #[c.ptr] 107)).grownBy w2 (Value.slice Aa ma ca).ownBlock → w2.heap[g]? = w1.heap[g]?) := ⟨fun w2 hg => (hg.block g (by rw [World.size_alloc]; exact Nat.lt_succ_of_lt hgw) (fun e => HNE.out e.symm)).trans (heap_alloc_old w1 _ hgw)⟩; have HLV := Aside0.mk hlv; have HB1 := Aside0.mk hb1; clear hgw hsz1; have HPB := Aside0.mk hpb; clear hlv hb1 hpb))
  all_goals (refine NoPanic.normal ?_; exact HQ.out w.drew w1 w2 c PB g' cap _ _ _ _ _ _ _ _ _ _ _ _ (below_drew (Below.refl _ w)) rfl HLV.out HB1.out HPB.out HO2.out HG2.out HT2.out)
theorem insert_ok {n : Nat} (hn : 0 < n) (h11 : n ≤ 11) : ∀ f, InsC n f
  | 0 => by
    intro _ _ _ hk _ _ _ hn' hr _ _ hf _ _
    have := pts_le hn' hr
    omega
  | f + 1 => insert_succ hn h11 (insert_ok hn h11 f)
theorem pv_of_C {w : World} {A : Option Addr} {p : List Int} {c : Nat} (h : Kd.C (Kd.int .i64) w A p.length p) (hc : p.length ≤ c) : PV w (fun _ => True) (.slice A p.length c) p := by
  refine ⟨A, c, rfl, hc, fun W' hW => ?_⟩
  have hr := Kd.reads_of_C (enc := Value.int .i64) (d := (0 : Int)) (h1 := fun _ => rfl) h
  refine Kd.C_of_reads (enc := Value.int .i64) (d := (0 : Int)) (h1 := fun _ => rfl) ⟨hr.1, hr.2.1, fun hn => ?_⟩
  obtain ⟨ad, e1, hcl⟩ := hr.2.2 hn
  refine ⟨ad, e1, fun j hj => ?_⟩
  rw [← hcl j hj]
  exact cell_heap (hW _ trivial (World.block_lt_of_cell? w _ (hcl j hj)))
/-- An element of a row of rows. -/
theorem rows_at {w : World} {A : Option Addr} {gens : List (List Int)} (h : Kd.C (Kd.slice 3 (Kd.int .i64)) w A gens.length gens) {j : Nat} {p : List Int} (hj : gens[j]? = some p) :
    ∃ ad A' c, A = some ad ∧ w.cell? (ad.add j) = some (.slice A' p.length c) ∧ PV w (fun _ => True) (.slice A' p.length c) p := by
  have hlt := (List.getElem?_eq_some_iff.1 hj).1
  obtain ⟨ad, e, hc⟩ := h.2.2 (by omega)
  obtain ⟨cs, hcl, ⟨A', c, rfl, hl, hC⟩, hcell⟩ := hc j p hj
  refine ⟨ad, A', c, e, ?_, pv_of_C hC hl⟩
  have := hcell 0 _ rfl
  have e2 : j * (Kd.slice 3 (Kd.int .i64)).sz + 0 = j := by show j * 1 + 0 = j; omega
  rwa [e2] at this

set_option maxHeartbeats 4000000 in
set_option maxRecDepth 100000 in
theorem newGroup_calls {n : Nat} {w : World} {A1 A2 : Option Addr} {c1 c2 : Nat} {gens : List (List Int)} {base : List Int} {lsF : List Lv} (hn : 0 < n) (h11 : n ≤ 11) (h1 : Kd.C (Kd.slice 3 (Kd.int .i64)) w A1 gens.length gens) (h2 : Kd.C (Kd.int .i64) w A2 base.length base)
    (hg : ∀ g ∈ gens, IsP n g) (hb : ∀ x ∈ base, 0 ≤ x ∧ x < n) (hbn : base.Nodup) (hlen : gens.length < 1000000) (hF : groupF n (n + 1) gens base = some lsF) :
    Calls Try.prog 48 #[.int .i64 (n : Int), .slice A1 gens.length c1, .slice A2 base.length c2] w fun e w' => ∃ g av cs PB, e = .returned (.pointer (some ⟨g, 0, none⟩)) ∧ GrAt w' w.heap.size PB g n av cs lsF ∧ PC n [] lsF ∧ Below w.heap.size w w' := by
  have hbl : base.length ≤ n := pts_le hbn hb
  have HN := Aside0.mk hn
  have H1 := Aside0.mk h1
  have H2 := Aside0.mk h2
  have HG := Aside0.mk hg
  have HB := Aside0.mk hb
  have HBN := Aside0.mk hbn
  have HF := Aside0.mk hF
  have HBP := Aside0.mk (base_pc base [] hb hbn (fun x _ h => by simp at h)).1
  obtain ⟨mb, hmb⟩ : ∃ mb, base.length = mb := ⟨_, rfl⟩
  obtain ⟨mg, hmg⟩ : ∃ mg, gens.length = mg := ⟨_, rfl⟩
  rw [hmb, hmg]
  rw [hmb] at hbl
  rw [hmg] at hlen
  have HMB := Aside0.mk hmb
  have HMG := Aside0.mk hmg
  clear hn h1 h2 hg hb hbn hF hmb hmg
  go_enter Try.func48, Try.ntmps48
  go_wp2_with (fail)
  obtain ⟨w0, hw0⟩ : ∃ w0, w0 = w.alloc (.cells #[.int .i64 (n : Int), .slice none 0 0] 106) := ⟨_, rfl⟩
  obtain ⟨g, hgd⟩ : ∃ g, g = w.heap.size := ⟨_, rfl⟩
  rw [← hw0, ← hgd]
  have HBW0 : Aside0 (Below w.heap.size w w0) := ⟨by rw [hw0]; exact below_alloc (Below.refl _ _) _⟩
  have HG0 : Aside0 (∃ av PB cs, GrAt w0 w.heap.size PB g n av cs ((base.take 0).map (newLv n)) ∧ (∀ b, PB b → b < w0.heap.size)) := ⟨⟨.slice none 0 0, fun _ => False, [], ⟨by rw [hgd, hw0]; exact heap_alloc_new w _, ⟨rfl, .inl ⟨rfl, rfl⟩⟩, rfl, fun j c l h => by simp at h, List.Pairwise.nil, by rw [hgd]; exact Nat.le_refl _, ⟨id, fun _ _ => id⟩⟩, fun _ h => h.elim⟩⟩
  clear hw0 hgd
  go_loopw [17] (fun i wr => ∃ j : Nat, i = .int .i64 j ∧ j ≤ mb ∧ Aside0 (∃ av PB cs, GrAt wr w.heap.size PB g n av cs ((base.take j).map (newLv n)) ∧ (∀ b, PB b → b < wr.heap.size)) ∧ Aside0 (Below w.heap.size w wr)) (fun i _ => mb - (intOf i).toNat)
  case atStart => exact ⟨0, rfl, by omega, HG0, HBW0⟩
  case round =>
    clear HG0 HBW0
    obtain ⟨j, rfl, hj, HGJ, HBW⟩ := hrel
    by_cases hlt : j < mb
    · obtain ⟨x, hx⟩ : ∃ x, base[j]? = some x := ⟨base[j]'(by rw [HMB.out]; exact hlt), List.getElem?_eq_getElem _⟩
      obtain ⟨ad, rfl⟩ := PV.addr H2.out (by rw [HMB.out]; omega)
      have hcx : w.cell? (ad.add j) = some (.int .i64 x) := PV.cells H2.out j _ (by simp [nums, hx])
      have hcr := (HBW.out.cell (World.block_lt_of_cell? w _ hcx)).trans hcx
      have hxr := HB.out x (List.mem_of_getElem? hx)
      obtain ⟨av, PB, cs, hG, hbd⟩ := HGJ.out
      obtain ⟨Aa, ca, rfl⟩ := own_slice hG.arr
      have hc1 : wr.cell? ⟨g, 1, none⟩ = some (.slice Aa cs.length ca) := by simp [World.cell?, hG.cells]
      have hf1 : wr.frozen? ⟨g, 1, none⟩ = false := by simp [World.frozen?, hG.cells]
      have hgl := lt_of_some hG.cells
      have hB2 : w.heap.size ≤ wr.heap.size := HBW.out.size
      have hlt2 : (j : Int) < (mb : Int) := by omega
      have hma : cs.length < 1000000 := by
        have := hG.len
        rw [this, List.length_map, List.length_take]
        omega
      have HX := Aside0.mk hx
      have HXR := Aside0.mk hxr
      have HGG := Aside0.mk hG
      have HBD := Aside0.mk hbd
      clear hx hcx hxr hG hbd HGJ
      go_wp2_with (fail)
      refine newGroup_region5 hc1 hf1 hgl hB2 hma HGG.out.arr HGG.out.av_ne HN.out (by omega) HXR.out.1 HXR.out.2 ?_
      intro w0' w4 w5 c PBc g' cap t21 t22 t23 t24 t25 t26 t27 t28 t29 t30 t31 t32 k1 k2 k3 k4 k5 k6 k7 k8
      obtain ⟨PB2, p1, p2, p3, p4, p5⟩ := HGG.out.push HBD.out hB2 k1 k2 k3 k4 k5 k6 k7 k8
      obtain ⟨wz, hwz⟩ : ∃ wz, wz = w5.setCell ⟨g, 1, none⟩ (.slice (some ⟨g', 0, none⟩) (cs.length + 1) cap) := ⟨_, rfl⟩
      rw [← hwz] at p1 p2 p5 ⊢
      have e1 : (base.take (j + 1)).map (newLv n) = (base.take j).map (newLv n) ++ [newLv n x] := by
        obtain ⟨h3, h4⟩ := List.getElem?_eq_some_iff.1 HX.out
        rw [List.take_succ_eq_append_getElem h3, h4, List.map_append]
        rfl
      have HP1 : Aside0 (∃ av PB cs, GrAt wz w.heap.size PB g n av cs ((base.take (j + 1)).map (newLv n)) ∧ (∀ b, PB b → b < wz.heap.size)) := ⟨⟨_, _, _, by rw [e1]; exact p1, p2⟩⟩
      have HP5 : Aside0 (Below w.heap.size w wz) := ⟨HBW.out.trans p5⟩
      clear k1 k2 k3 k4 k5 k6 k7 k8 p1 p2 p3 p4 p5 e1 hwz hcr hc1 hf1 hgl hB2 hma hlt2
      go_wp2_with (fail)
      go_roundw
      case rel => exact ⟨j + 1, by go_num, by omega, HP1, HP5⟩
      case measure => simp [intOf]; omega
    · obtain rfl : j = mb := by omega
      have HS0 : Aside0 (∃ av PB cs ls, GrAt wr w.heap.size PB g n av cs ls ∧ (∀ b, PB b → b < wr.heap.size) ∧ PC n [] ls ∧ GenB ls ∧ (gens.drop 0).foldlM (fun ls p => insF n (n + 1) ls p) ls = some lsF) := ⟨by
        obtain ⟨av, PB, cs, h1, h2⟩ := HGJ.out
        have e1 : base.take j = base := List.take_of_length_le (by rw [HMB.out]; exact Nat.le_refl _)
        rw [e1] at h1
        exact ⟨av, PB, cs, _, h1, h2, HBP.out, (base_sz base).2, HF.out⟩⟩
      clear HGJ hlt hj
      go_wp2_with (fail)
      go_loopw [36] (fun i wr => ∃ j : Nat, i = .int .i64 j ∧ j ≤ mg ∧ Aside0 (∃ av PB cs ls, GrAt wr w.heap.size PB g n av cs ls ∧ (∀ b, PB b → b < wr.heap.size) ∧ PC n [] ls ∧ GenB ls ∧ (gens.drop j).foldlM (fun ls p => insF n (n + 1) ls p) ls = some lsF) ∧ Aside0 (Below w.heap.size w wr)) (fun i _ => mg - (intOf i).toNat)
      case atStart => exact ⟨0, rfl, by omega, HS0, HBW⟩
      case round =>
        clear HS0 HBW
        obtain ⟨i, rfl, hi, HS, HBW⟩ := hrel
        by_cases hlt : i < mg
        · obtain ⟨p, hp⟩ : ∃ p, gens[i]? = some p := ⟨gens[i]'(by rw [HMG.out]; exact hlt), List.getElem?_eq_getElem _⟩
          obtain ⟨ad, A', c, rfl, hcp, hpv⟩ := rows_at H1.out hp
          have hcr := (HBW.out.cell (World.block_lt_of_cell? w _ hcp)).trans hcp
          have hip := HG.out p (List.mem_of_getElem? hp)
          obtain ⟨av, PB, cs, ls, hG, hbd, hpc, hgb, hfold⟩ := HS.out
          have hdrop : gens.drop i = p :: gens.drop (i + 1) := by
            obtain ⟨h3, h4⟩ := List.getElem?_eq_some_iff.1 hp
            rw [List.drop_eq_getElem_cons h3, h4]
          rw [hdrop, List.foldlM_cons] at hfold
          obtain ⟨ls1, hins, hfold1⟩ := Option.bind_eq_some_iff.1 hfold
          obtain ⟨ls1', e1, q1, _, _, q2⟩ := ins_ok (n + 1) [] List.nodup_nil (fun x hx => by simp at hx) (by simp) ls p hpc hip (fun x hx => by simp at hx) hgb
          have e2 : ls1' = ls1 := Option.some.inj (e1.symm.trans hins)
          rw [e2] at q1 q2
          have hcall : Calls Try.prog 84 #[.pointer (some ⟨g, 0, none⟩), .int .i64 0, .slice A' p.length c] wr (fun e w' => e = .returned (.tuple #[]) ∧ Left wr w' w.heap.size PB g n (cs.take 0) (ls.take 0 ++ ls1)) := insert_ok HN.out h11 (n + 1) hG hbd HBW.out.size (k := 0) (pts := []) rfl (Nat.zero_le _) hpc hgb List.nodup_nil (fun x hx => by simp at hx) hip (fun x hx => by simp at hx) (by omega) (PV.below hpv (Below.mk HBW.out.os HBW.out.tape HBW.out.output HBW.out.size HBW.out.block)) hins
          have hlt2 : (i : Int) < (mg : Int) := by omega
          have HC := Aside0.mk hcall
          have HPC1 := Aside0.mk q1
          have HGB1 := Aside0.mk q2
          have HFO := Aside0.mk hfold1
          clear hp hcp hpv hip hG hbd hpc hgb hfold hdrop hins hfold1 e1 e2 q1 q2 hcall HS
          go_wp2_with (go_at_call 84; (with_reducible refine HC.out.mono ?_); rintro e w1 ⟨rfl, av', PB', csx, r1, r2, r3, r4, r5⟩; have HS1 : Aside0 (∃ av PB cs ls, GrAt w1 w.heap.size PB g n av cs ls ∧ (∀ b, PB b → b < w1.heap.size) ∧ PC n [] ls ∧ GenB ls ∧ (gens.drop (i + 1)).foldlM (fun ls p => insF n (n + 1) ls p) ls = some lsF) := ⟨⟨av', PB', _, _, r1, r2, HPC1.out, HGB1.out, HFO.out⟩⟩; have HBW1 : Aside0 (Below w.heap.size w w1) := ⟨HBW.out.trans r5⟩; clear r1 r2 r3 r4 r5)
          go_roundw
          case rel => exact ⟨i + 1, by go_num, by omega, HS1, HBW1⟩
          case measure => simp [intOf]; omega
        · obtain rfl : i = mg := by omega
          clear hlt hi
          go_wp2_with (fail)
          go_ret
          obtain ⟨av, PB, cs, ls, hG, hbd, hpc, hgb, hfold⟩ := HS.out
          rw [List.drop_eq_nil_of_le (by rw [HMG.out]; exact Nat.le_refl _)] at hfold
          have e1 : ls = lsF := Option.some.inj hfold
          rw [e1] at hG hpc
          exact ⟨g, av, cs, PB, rfl, hG, hpc, HBW.out⟩
end Go.Proofs.Ytpkgckccfanchaa.M

/- ## M17 -/
-- Written by wip/tools/pp.py (a driver round the kit's printer, with patches of this session): not a printed file.
namespace Go.Proofs.Ytpkgckccfanchaa.M
open Go.RowKit Go.Proofs.YtpkgckccfanchaaW.PrintWords Go.Proofs.YtpkgckccfanchaaW.PrintLast Go.Proofs.YtpkgckccfanchaaW.PrintMore
attribute [local go_sem] max2_int min2_int max_two min_two max_three min_three max_four min_four   -- for this text's walks alone
set_option linter.unusedVariables false
set_option linter.unusedSimpArgs false

/-! ### integer_trim: function 117 (by hand) -/
theorem trim_V {w : World} {P : Nat → Prop} {A0 : Option Addr} {l0 r : List Int} (m : Nat) (hm : m ≤ l0.length) (h : Kd.F (Kd.int .u32) w P A0 l0.length l0) (hr : l0.take m = r) :
    Kd.V (Kd.int .u32) 98 w w.heap.size (fun k_ => (P k_ ∨ w.heap.size ≤ k_)) (.slice A0 m m) r := by
  subst hr
  have hl : (l0.take m).length = m := by rw [List.length_take]; omega
  refine ⟨A0, m, by rw [hl], by rw [hl]; exact Nat.le_refl _, ?_⟩
  refine Kd.F_mono (ok := P) ?_ (fun _ hk => .inl hk)
  refine Kd.F_imp h (fun W' hC => ?_)
  rw [hl]
  exact Kd.C_of_reads (enc := Value.int .u32) (d := (0 : Int)) (ReadsOf.take_ (Kd.reads_of_C hC) m hm)
def integer_trim.f (l0 : List Int) : Option (List Int) := if l0.length < 35184372088832 then some (trimZ l0) else none
theorem integer_trim.calls (P0_ : Nat → Prop) (A0 : Option Addr) (c0 : Nat) (l0 : List Int) (r : List Int) (w : World) (hs0 : Kd.V (Kd.int .u32) 98 w w.heap.size (fun k_ => P0_ k_) (.slice A0 l0.length c0) l0) (h : integer_trim.f l0 = some r) :
    Calls Try.prog 117 #[.slice A0 l0.length c0] w fun e w' => ∃ v0_ : Value, e = .returned (v0_) ∧ Kd.V (Kd.int .u32) 98 w' w.heap.size (fun k_ => (P0_ k_ ∨ w.heap.size ≤ k_)) v0_ r ∧ Below w.heap.size w w' := by
  have hl : l0.length < 35184372088832 := by unfold integer_trim.f at h; split at h <;> simp_all
  have hr : trimZ l0 = r := by unfold integer_trim.f at h; rw [if_pos hl] at h; exact Option.some.inj h
  clear h
  obtain ⟨A, c, e0, hc0, hF⟩ := hs0
  simp only [Value.slice.injEq, true_and] at e0
  obtain ⟨rfl, rfl⟩ := e0
  have HF := Aside0.mk hF
  have HR0 := Aside0.mk (show Kd.C (Kd.int .u32) w A0 l0.length l0 from Kd.F_now hF)
  clear hF
  have H := Aside0.mk hr
  clear hr
  go_enter Try.func117, Try.ntmps117
  go_wp2
  go_loop [3] (fun v => ∃ k : Nat, k ≤ l0.length ∧ v = .int .i64 k ∧ Aside0 (trimZ (l0.take k) = r)) (fun v => (intOf v).toNat)
  case atStart => exact ⟨l0.length, Nat.le_refl _, rfl, ⟨by rw [List.take_length]; exact H.out⟩⟩
  case round =>
    obtain ⟨k, hk, rfl, HE⟩ := hrel
    by_cases h0 : 0 < k
    · obtain ⟨k, rfl⟩ : ∃ j, k = j + 1 := ⟨k - 1, by omega⟩
      obtain ⟨ad, e1, hx⟩ := Kd.at_int HR0.out (k : Int) (by omega) (by omega)
      cases e1
      simp only [Int.toNat_natCast] at hx
      have ht := take_snoc_rd l0 k hk
      by_cases hz : rd l0 (k : Int) = 0
      · have hz0 : (rd l0 (k : Int) == 0) = true := by simp [hz]
        have HE2 : Aside0 (trimZ (l0.take k) = r) := ⟨by have := HE.out; rw [ht, hz, trimZ_snoc0] at this; exact this⟩
        clear HE ht hz
        go_wp2
        exact ⟨⟨k, by omega, rfl, HE2⟩, by simp [intOf]⟩
      · have hz0 : (rd l0 (k : Int) == 0) = false := by simp [hz]
        have HE2 : Aside0 (l0.take (k + 1) = r) := ⟨by have := HE.out; rw [ht, trimZ_snoc _ _ hz, ← ht] at this; exact this⟩
        clear HE ht hz
        have HT := Aside0.mk (trim_V (k + 1) hk HF.out HE2.out)
        clear HE2
        go_wp2
        go_ret
        exact ⟨_, rfl, HT.out, Below.refl _ _⟩
    · obtain rfl : k = 0 := by omega
      have HT := Aside0.mk (trim_V 0 hk HF.out (by have := HE.out; simpa [trimZ_nil] using this))
      clear HE
      go_wp2
      go_ret
      exact ⟨_, rfl, HT.out, Below.refl _ _⟩

end Go.Proofs.Ytpkgckccfanchaa.M

/- ## M18 -/
-- Written by wip/tools/pp.py (a driver round the kit's printer, with patches of this session): not a printed file.
namespace Go.Proofs.Ytpkgckccfanchaa.M
open Go.RowKit Go.Proofs.YtpkgckccfanchaaW.PrintWords Go.Proofs.YtpkgckccfanchaaW.PrintLast Go.Proofs.YtpkgckccfanchaaW.PrintMore
attribute [local go_sem] max2_int min2_int max_two min_two max_three min_three max_four min_four   -- for this text's walks alone
set_option linter.unusedVariables false
set_option linter.unusedSimpArgs false

/-! ### integer_signed: function 102 -/
def integer_signed.f (a0 : Bool) (l1 : List Int) : Option (Bool × List Int) := (integer_trim.f l1).bind fun t128 => (if (t128.length : Int) = 0 then (some (false, ([] : List Int))) else (some (a0, t128)))
set_option maxHeartbeats 8000000 in
set_option maxRecDepth 100000 in
theorem integer_signed.calls (a0 : Bool) (P1_ : Nat → Prop) (A1 : Option Addr) (c1 : Nat) (l1 : List Int) (r1 : Bool) (r2 : List Int) (w : World) (hs1 : Kd.V (Kd.int .u32) 98 w w.heap.size (fun k_ => P1_ k_) (.slice A1 l1.length c1) l1) (h : integer_signed.f a0 l1 = some (r1, r2)) :
    Calls Try.prog 102 #[.bool a0, .slice A1 l1.length c1] w fun e w' => ∃ v1_ : Value, e = .returned (.agg #[.bool r1, v1_]) ∧ Kd.V (Kd.int .u32) 98 w' w.heap.size (fun k_ => (P1_ k_ ∨ w.heap.size ≤ k_)) v1_ r2 ∧ Below w.heap.size w w' := by
  have hu24 := Try.underlying24
  have HO1 := Aside0.mk (show Kd.V (Kd.int .u32) 98 w w.heap.size (fun k_ => (P1_ k_ ∨ w.heap.size ≤ k_)) (.slice A1 l1.length c1) l1 from Kd.V_mono hs1 (fun k_ hk => .inl hk))
  have HB := Aside0.mk (Below.refl w.heap.size w)
  have H : ((integer_trim.f l1).bind fun t128 => (if (t128.length : Int) = 0 then (some (false, ([] : List Int))) else (some (a0, t128)))) = some (r1, r2) := h
  clear h
  replace H := Option.bind_eq_some_iff.mp H
  obtain ⟨t128, A30, H⟩ := H
  replace H : (if (t128.length : Int) = 0 then (some (false, ([] : List Int))) else (some (a0, t128))) = some (r1, r2) := H
  have A3 := Aside0.mk A30
  clear A30
  by_cases c4 : (t128.length : Int) = 0
  · rw [if_pos c4] at H
    have c4b0 : ((t128.length : Int) == 0) = true := beq_iff_eq.mpr c4
    have c4b1 : ((t128.length : Int) != 0) = false := bne_eq_false_iff_eq.mpr c4
    clear c4
    simp only [Option.some.injEq, Prod.mk.injEq] at H
    obtain ⟨rfl, rfl⟩ := H
    go_enter Try.func102, Try.ntmps102
    go_wp2_with (first | ((with_reducible refine gate_dst (N := 4) rfl ?_); refine box_event ?hg (N := 4) ?hd (cs := #[.bool false, .slice none 0 0]) (t := 24) ?hr ?_; (case hd => rfl); (case hg => rfl); (case hr => first | (go_simp; done) | (go_simp; rfl)); intro gb127 hg w5 hbox hb; have n0_ := Aside0.mk (Kd.V_below (Kd.V_elderB (by (with_reducible repeat (first | apply Kd.V_alloc | apply Kd.V_drewN | apply Kd.V_drew)); exact HO1.out) gb127 (Nat.le_of_eq hg.symm)) hb); have n1_ := Aside0.mk (below_step (by repeat (first | (with_reducible first | exact HB.out | apply below_alloc | apply pw_below_drewN | apply below_drew1) | exact HB.out)) hb); have n2_ := Aside0.mk (hbox); have n3_ := Aside0.mk ((by rw [hg]; exact (below_size (by repeat (first | (with_reducible first | exact HB.out | apply below_alloc | apply pw_below_drewN | apply below_drew1) | exact HB.out))) : w.heap.size ≤ gb127)); have n4_ := Aside0.mk ((by rw [hg]; exact (below_size (by repeat (first | (with_reducible first | exact HB.out | apply below_alloc | apply pw_below_drewN | apply below_drew1) | exact HB.out))) : w.heap.size ≤ gb127)); clear HO1; clear HB; have HO1 := n0_; have HB := n1_; have BK127 := n2_; have GW127 := n3_; have GE127 := n4_; clear n0_ n1_ n2_ n3_ n4_; clear hb hbox hg) | ((with_reducible refine gate_callee (f := 117) rfl ?_); refine goesL_ (some 6) rfl rfl Try.func117 (by kernel_rfl) rfl #[.slice A1 l1.length c1] rfl (by (try simp only [List.map_toArray, List.map_cons, List.map_nil]); first | done | rfl | (simp only [List.length_drop, List.length_take]; rfl)) ?_; (with_reducible refine (integer_trim.calls (fun k_ => ((P1_ k_ ∨ w.heap.size ≤ k_) ∧ k_ ≠ gb127)) _ _ l1 t128 _ ?side1 A3.out).mono ?_); (case side1 => exact HO1.out); rintro e w6 ⟨v129, rfl, ho0, hb⟩; refine ⟨_, rfl, ?_⟩; have n0_ := Aside0.mk (Kd.V_below (by (with_reducible repeat (first | apply Kd.V_alloc | apply Kd.V_drewN | apply Kd.V_drew)); exact HO1.out) hb); have n1_ := Aside0.mk (Kd.V_lower (Kd.V_mono (ok' := fun k_ => (P1_ k_ ∨ w.heap.size ≤ k_) ∧ k_ ≠ gb127) ho0 (fun k_ hk_ => ⟨Or.elim hk_ (fun hs_ => hs_.1) (fun hn_ => (.inr (Nat.le_trans (below_size (by repeat (first | (with_reducible first | exact HB.out | apply below_alloc | apply pw_below_drewN | apply below_drew1 | refine below_set ?_ GE127.out) | exact HB.out))) hn_))), Or.elim hk_ (fun hs_ => hs_.2) (fun hn_ => (Kd.freshB (g := gb127) (o := .cells #[.bool false, .slice none 0 0] 24 (0, 0)) (by (with_reducible repeat (first | refine blk_drewN ?_ _ | refine blk_drew ?_ | refine blk_alloc ?_ _)); exact BK127.out) k_ hn_))⟩)) (below_size (by repeat (first | (with_reducible first | exact HB.out | apply below_alloc | apply pw_below_drewN | apply below_drew1 | refine below_set ?_ GE127.out) | exact HB.out)))); have n2_ := Aside0.mk (blk_below (g := gb127) (o := .cells #[.bool false, .slice none 0 0] 24 (0, 0)) (by (with_reducible repeat (first | refine blk_drewN ?_ _ | refine blk_drew ?_ | refine blk_alloc ?_ _)); exact BK127.out) hb); have n3_ := Aside0.mk (below_step (by repeat (first | (with_reducible first | exact HB.out | apply below_alloc | apply pw_below_drewN | apply below_drew1 | refine below_set ?_ GE127.out) | exact HB.out)) hb); clear HO1; clear BK127; clear HB; have HO1 := n0_; have HO130 := n1_; have BK127 := n2_; have HB := n3_; clear n0_ n1_ n2_ n3_; (try clear hb); (try clear hb2); (try clear hk); (try clear hi); (try clear ho0); obtain ⟨Ao7, co7, eo7⟩ := Kd.V_slice HO130.out; subst eo7; have hcz8_0 : w6.cell? ⟨gb127, 0, none⟩ = some (.bool false) := (blk_cell BK127.out 0).trans rfl; have hcz8_1 : w6.cell? ⟨gb127, 1, none⟩ = some (.slice none 0 0) := (blk_cell BK127.out 1).trans rfl; have hfz8_0 := blk_frozen BK127.out 0; have hfz8_1 := blk_frozen BK127.out 1))
    refine bodyPost_ret (results_cell_row rfl _ _ gb127 24 #[.bool false, .slice none 0 0] (0, 0) _ rfl (by (with_reducible repeat (first | refine blk_drewN ?_ _ | refine blk_drew ?_ | refine blk_alloc ?_ _)); refine blk_put (cs := #[.bool false, .slice none 0 0]) ?_ 1 _ rfl; (with_reducible repeat (first | refine blk_drewN ?_ _ | refine blk_drew ?_ | refine blk_alloc ?_ _)); refine blk_put (cs := #[.bool false, .slice none 0 0]) ?_ 0 _ rfl; (with_reducible repeat (first | refine blk_drewN ?_ _ | refine blk_drew ?_ | refine blk_alloc ?_ _)); exact BK127.out) Try.underlying24 rfl (by kernel_rfl)) rfl ?_
    exact ⟨_, by first | rfl | (simp [errW_none, errW_some] <;> rfl) | (simp [*, errW_none, errW_some] <;> rfl), Kd.V_nil _ _ _ _ _, by repeat (first | (with_reducible first | exact HB.out | apply below_alloc | apply pw_below_drewN | apply below_drew1 | refine below_set ?_ GE127.out) | exact HB.out)⟩
  · rw [if_neg c4] at H
    have c4b0 : ((t128.length : Int) == 0) = false := beq_eq_false_iff_ne.mpr c4
    have c4b1 : ((t128.length : Int) != 0) = true := bne_iff_ne.mpr c4
    have c4b2 : ¬ (t128 = []) := fun h_ => c4 (by rw [h_]; rfl)
    simp only [Option.some.injEq, Prod.mk.injEq] at H
    obtain ⟨rfl, rfl⟩ := H
    go_enter Try.func102, Try.ntmps102
    go_wp2_with (first | ((with_reducible refine gate_dst (N := 4) rfl ?_); refine box_event ?hg (N := 4) ?hd (cs := #[.bool false, .slice none 0 0]) (t := 24) ?hr ?_; (case hd => rfl); (case hg => rfl); (case hr => first | (go_simp; done) | (go_simp; rfl)); intro gb127 hg w9 hbox hb; have n0_ := Aside0.mk (Kd.V_below (Kd.V_elderB (by (with_reducible repeat (first | apply Kd.V_alloc | apply Kd.V_drewN | apply Kd.V_drew)); exact HO1.out) gb127 (Nat.le_of_eq hg.symm)) hb); have n1_ := Aside0.mk (below_step (by repeat (first | (with_reducible first | exact HB.out | apply below_alloc | apply pw_below_drewN | apply below_drew1) | exact HB.out)) hb); have n2_ := Aside0.mk (hbox); have n3_ := Aside0.mk ((by rw [hg]; exact (below_size (by repeat (first | (with_reducible first | exact HB.out | apply below_alloc | apply pw_below_drewN | apply below_drew1) | exact HB.out))) : w.heap.size ≤ gb127)); have n4_ := Aside0.mk ((by rw [hg]; exact (below_size (by repeat (first | (with_reducible first | exact HB.out | apply below_alloc | apply pw_below_drewN | apply below_drew1) | exact HB.out))) : w.heap.size ≤ gb127)); clear HO1; clear HB; have HO1 := n0_; have HB := n1_; have BK127 := n2_; have GW127 := n3_; have GE127 := n4_; clear n0_ n1_ n2_ n3_ n4_; clear hb hbox hg) | ((with_reducible refine gate_callee (f := 117) rfl ?_); refine goesL_ (some 6) rfl rfl Try.func117 (by kernel_rfl) rfl #[.slice A1 l1.length c1] rfl (by (try simp only [List.map_toArray, List.map_cons, List.map_nil]); first | done | rfl | (simp only [List.length_drop, List.length_take]; rfl)) ?_; (with_reducible refine (integer_trim.calls (fun k_ => ((P1_ k_ ∨ w.heap.size ≤ k_) ∧ k_ ≠ gb127)) _ _ l1 t128 _ ?side1 A3.out).mono ?_); (case side1 => exact HO1.out); rintro e w10 ⟨v129, rfl, ho0, hb⟩; refine ⟨_, rfl, ?_⟩; have n0_ := Aside0.mk (Kd.V_below (by (with_reducible repeat (first | apply Kd.V_alloc | apply Kd.V_drewN | apply Kd.V_drew)); exact HO1.out) hb); have n1_ := Aside0.mk (Kd.V_lower (Kd.V_mono (ok' := fun k_ => (P1_ k_ ∨ w.heap.size ≤ k_) ∧ k_ ≠ gb127) ho0 (fun k_ hk_ => ⟨Or.elim hk_ (fun hs_ => hs_.1) (fun hn_ => (.inr (Nat.le_trans (below_size (by repeat (first | (with_reducible first | exact HB.out | apply below_alloc | apply pw_below_drewN | apply below_drew1 | refine below_set ?_ GE127.out) | exact HB.out))) hn_))), Or.elim hk_ (fun hs_ => hs_.2) (fun hn_ => (Kd.freshB (g := gb127) (o := .cells #[.bool false, .slice none 0 0] 24 (0, 0)) (by (with_reducible repeat (first | refine blk_drewN ?_ _ | refine blk_drew ?_ | refine blk_alloc ?_ _)); exact BK127.out) k_ hn_))⟩)) (below_size (by repeat (first | (with_reducible first | exact HB.out | apply below_alloc | apply pw_below_drewN | apply below_drew1 | refine below_set ?_ GE127.out) | exact HB.out)))); have n2_ := Aside0.mk (blk_below (g := gb127) (o := .cells #[.bool false, .slice none 0 0] 24 (0, 0)) (by (with_reducible repeat (first | refine blk_drewN ?_ _ | refine blk_drew ?_ | refine blk_alloc ?_ _)); exact BK127.out) hb); have n3_ := Aside0.mk (below_step (by repeat (first | (with_reducible first | exact HB.out | apply below_alloc | apply pw_below_drewN | apply below_drew1 | refine below_set ?_ GE127.out) | exact HB.out)) hb); clear HO1; clear BK127; clear HB; have HO1 := n0_; have HO130 := n1_; have BK127 := n2_; have HB := n3_; clear n0_ n1_ n2_ n3_; (try clear hb); (try clear hb2); (try clear hk); (try clear hi); (try clear ho0); obtain ⟨Ao11, co11, eo11⟩ := Kd.V_slice HO130.out; subst eo11; have hcz12_0 : w10.cell? ⟨gb127, 0, none⟩ = some (.bool false) := (blk_cell BK127.out 0).trans rfl; have hcz12_1 : w10.cell? ⟨gb127, 1, none⟩ = some (.slice none 0 0) := (blk_cell BK127.out 1).trans rfl; have hfz12_0 := blk_frozen BK127.out 0; have hfz12_1 := blk_frozen BK127.out 1))
    refine bodyPost_ret (results_cell_row rfl _ _ gb127 24 #[.bool a0, .slice Ao11 t128.length co11] (0, 0) _ rfl (by (with_reducible repeat (first | refine blk_drewN ?_ _ | refine blk_drew ?_ | refine blk_alloc ?_ _)); refine blk_put (cs := #[.bool a0, .slice none 0 0]) ?_ 1 _ rfl; (with_reducible repeat (first | refine blk_drewN ?_ _ | refine blk_drew ?_ | refine blk_alloc ?_ _)); refine blk_put (cs := #[.bool false, .slice none 0 0]) ?_ 0 _ rfl; (with_reducible repeat (first | refine blk_drewN ?_ _ | refine blk_drew ?_ | refine blk_alloc ?_ _)); exact BK127.out) Try.underlying24 rfl (by kernel_rfl)) rfl ?_
    exact ⟨_, by first | rfl | (simp [errW_none, errW_some] <;> rfl) | (simp [*, errW_none, errW_some] <;> rfl), by (with_reducible repeat (first | apply Kd.V_alloc | apply Kd.V_drewN | apply Kd.V_drew)); exact Kd.V_mono (Kd.V_far (p := ⟨gb127, 1, none⟩) (Kd.V_far (p := ⟨gb127, 0, none⟩) (Kd.V_mono HO130.out (fun k_ hk => (⟨hk, hk.2⟩ : _ ∧ k_ ≠ gb127))) (fun _ hk => hk.2) (.bool a0)) (fun _ hk => hk.2) (.slice Ao11 t128.length co11)) (fun _ hk => hk.1.1), by repeat (first | (with_reducible first | exact HB.out | apply below_alloc | apply pw_below_drewN | apply below_drew1 | refine below_set ?_ GE127.out) | exact HB.out)⟩

end Go.Proofs.Ytpkgckccfanchaa.M

/- ## M19 -/
-- Written by wip/tools/pp.py (a driver round the kit's printer, with patches of this session): not a printed file.
namespace Go.Proofs.Ytpkgckccfanchaa.M
open Go.RowKit Go.Proofs.YtpkgckccfanchaaW.PrintWords Go.Proofs.YtpkgckccfanchaaW.PrintLast Go.Proofs.YtpkgckccfanchaaW.PrintMore
attribute [local go_sem] max2_int min2_int max_two min_two max_three min_three max_four min_four   -- for this text's walks alone
set_option linter.unusedVariables false
set_option linter.unusedSimpArgs false

/-! ### integer_Small: function 71 (by hand) -/
/-- A literal of words is a row that may be shared. -/
theorem lit_V {k : IntKind} {e : Nat} {W : World} (x y : Int) (base g : Nat) (hg : g = W.heap.size) (hb : base ≤ W.heap.size) :
    Kd.V (Kd.int k) e (W.alloc (.cells #[.int k x, .int k y] e)) (W.alloc (.cells #[.int k x, .int k y] e)).heap.size (fun k_ => base ≤ k_) (.slice (some ⟨g, 0, none⟩) [x, y].length 2) [x, y] := by
  subst hg
  refine Kd.V_mk (xs := [x, y]) (Nat.le_refl _) ?_
  intro W' hW'
  have hblk := hW' W.heap.size hb (by simp)
  rw [heap_alloc_new] at hblk
  refine Kd.C_of_reads (enc := Value.int k) (d := (0 : Int)) ⟨rfl, by simp, fun _ => ⟨_, rfl, fun i hi => ?_⟩⟩
  match i, hi with
  | 0, _ => simpa [Addr.add] using blk_cell hblk 0
  | 1, _ => simpa [Addr.add] using blk_cell hblk 1
def integer_Small.f (a0 : Int) : Option (Bool × List Int) := if -9223372036854775808 ≤ a0 ∧ a0 < 9223372036854775808 then integer_signed.f (decide (a0 < 0)) [(a0.natAbs : Int) % 4294967296, (a0.natAbs : Int) / 4294967296 % 4294967296] else none
set_option maxHeartbeats 1000000 in
theorem integer_Small.calls (a0 : Int) (r1 : Bool) (r2 : List Int) (w : World) (h : integer_Small.f a0 = some (r1, r2)) :
    Calls Try.prog 71 #[.int .i64 a0] w fun e w' => ∃ v1_ : Value, e = .returned (.agg #[.bool r1, v1_]) ∧ Kd.V (Kd.int .u32) 98 w' w.heap.size (fun k_ => (w.heap.size ≤ k_)) v1_ r2 ∧ Below w.heap.size w w' := by
  unfold integer_Small.f at h
  split at h
  case isFalse => simp at h
  case isTrue hx =>
  obtain ⟨h1, h2⟩ := hx
  by_cases hn : a0 < 0
  all_goals
    obtain ⟨u, hu⟩ : ∃ u, u = (a0.natAbs : Int) := ⟨_, rfl⟩
    rw [← hu] at h
    simp only [hn, decide_true, decide_false] at h
    have H := Aside0.mk h
    have HU := Aside0.mk (show IntKind.u64.wrap (-IntKind.u64.wrap a0) = -a0 ∨ IntKind.u64.wrap a0 = a0 from by simp only [IntKind.wrap_u64]; omega)
    clear h
  · have hw : Aside0 (IntKind.u64.wrap (-IntKind.u64.wrap a0) = u) := ⟨by simp only [IntKind.wrap_u64]; omega⟩
    clear hu
    go_enter Try.func71, Try.ntmps71
    go_wp2_with fail
    rw [hw.out]
    refine (integer_signed.calls true (fun k_ => w.heap.size + 1 ≤ k_) (some ⟨w.heap.size + 1, 0, none⟩) 2 [u % 4294967296, u / 4294967296 % 4294967296] r1 r2 _ (lit_V _ _ _ _ (by simp) (by simp)) H.out).mono ?_
    rintro e w' ⟨v1, rfl, hV, hB⟩
    have hblk := blk_below (blk_alloc (blk_new w (.cells #[.bool false, .slice none 0 0] 24)) _) hB
    have hc0 := blk_cell hblk 0
    have hc1 := blk_cell hblk 1
    have hf0 := blk_frozen hblk 0
    have hf1 := blk_frozen hblk 1
    obtain ⟨A1, c1, rfl⟩ := Kd.V_slice hV
    have hV2 := Kd.V_mono (Kd.V_far (p := ⟨w.heap.size, 1, none⟩) (Kd.V_far (p := ⟨w.heap.size, 0, none⟩) hV (fun k hk => by have := hk; simp at this; simp; omega) (.bool r1)) (fun k hk => by have := hk; simp at this; simp; omega) (.slice A1 r2.length c1)) (ok' := fun k_ => w.heap.size ≤ k_) (fun k hk => by have := hk; simp at this; omega)
    have hblk2 := blk_put (blk_put hblk 0 (.bool r1) rfl) 1 (.slice A1 r2.length c1) rfl
    have hB2 := below_set (j := 1) (v := .slice A1 r2.length c1) (below_set (j := 0) (v := .bool r1) (below_step (w := w) (below_alloc (below_alloc (Below.refl _ _) _) _) hB) (Nat.le_refl _)) (Nat.le_refl _)
    have HV := Aside0.mk hV2
    have HBL := Aside0.mk hblk2
    have HB := Aside0.mk hB2
    clear hV2 hblk hblk2 hB2 hB hV
    go_wp2
    refine bodyPost_ret (results_cell_row rfl _ _ w.heap.size 24 #[.bool r1, .slice A1 r2.length c1] (0, 0) _ rfl HBL.out Try.underlying24 rfl (by kernel_rfl)) rfl ?_
    exact ⟨_, rfl, HV.out, HB.out⟩
  · have H2 : Aside0 (integer_signed.f false [a0 % 4294967296, a0 / 4294967296] = some (r1, r2)) := ⟨by have h := H.out; rw [show u = a0 from by omega, show a0 / 4294967296 % 4294967296 = a0 / 4294967296 from by omega] at h; exact h⟩
    clear hu H
    go_enter Try.func71, Try.ntmps71
    go_wp2_with fail
    refine (integer_signed.calls false (fun k_ => w.heap.size + 1 ≤ k_) (some ⟨w.heap.size + 1, 0, none⟩) 2 [a0 % 4294967296, a0 / 4294967296] r1 r2 _ (lit_V _ _ _ _ (by simp) (by simp)) H2.out).mono ?_
    rintro e w' ⟨v1, rfl, hV, hB⟩
    have hblk := blk_below (blk_alloc (blk_new w (.cells #[.bool false, .slice none 0 0] 24)) _) hB
    have hc0 := blk_cell hblk 0
    have hc1 := blk_cell hblk 1
    have hf0 := blk_frozen hblk 0
    have hf1 := blk_frozen hblk 1
    obtain ⟨A1, c1, rfl⟩ := Kd.V_slice hV
    have hV2 := Kd.V_mono (Kd.V_far (p := ⟨w.heap.size, 1, none⟩) (Kd.V_far (p := ⟨w.heap.size, 0, none⟩) hV (fun k hk => by have := hk; simp at this; simp; omega) (.bool r1)) (fun k hk => by have := hk; simp at this; simp; omega) (.slice A1 r2.length c1)) (ok' := fun k_ => w.heap.size ≤ k_) (fun k hk => by have := hk; simp at this; omega)
    have hblk2 := blk_put (blk_put hblk 0 (.bool r1) rfl) 1 (.slice A1 r2.length c1) rfl
    have hB2 := below_set (j := 1) (v := .slice A1 r2.length c1) (below_set (j := 0) (v := .bool r1) (below_step (w := w) (below_alloc (below_alloc (Below.refl _ _) _) _) hB) (Nat.le_refl _)) (Nat.le_refl _)
    have HV := Aside0.mk hV2
    have HBL := Aside0.mk hblk2
    have HB := Aside0.mk hB2
    clear hV2 hblk hblk2 hB2 hB hV
    go_wp2
    refine bodyPost_ret (results_cell_row rfl _ _ w.heap.size 24 #[.bool r1, .slice A1 r2.length c1] (0, 0) _ rfl HBL.out Try.underlying24 rfl (by kernel_rfl)) rfl ?_
    exact ⟨_, rfl, HV.out, HB.out⟩

end Go.Proofs.Ytpkgckccfanchaa.M

/- ## M20 -/
-- Written by wip/tools/pp.py (a driver round the kit's printer, with patches of this session): not a printed file.
namespace Go.Proofs.Ytpkgckccfanchaa.M
open Go.RowKit Go.Proofs.YtpkgckccfanchaaW.PrintWords Go.Proofs.YtpkgckccfanchaaW.PrintLast Go.Proofs.YtpkgckccfanchaaW.PrintMore
attribute [local go_sem] max2_int min2_int max_two min_two max_three min_three max_four min_four   -- for this text's walks alone
set_option linter.unusedVariables false
set_option linter.unusedSimpArgs false

/-! ### integer_magnitude: function 101 -/
def integer_magnitude.f (a0_0 : Bool) (l0_1 : List Int) : Option (List Int) := (integer_trim.f l0_1).bind fun t132 => (some t132)
set_option maxHeartbeats 8000000 in
set_option maxRecDepth 100000 in
theorem integer_magnitude.calls (a0_0 : Bool) (P0_1_ : Nat → Prop) (A0_1 : Option Addr) (c0_1 : Nat) (l0_1 : List Int) (r : List Int) (w : World) (hs0_1 : Kd.V (Kd.int .u32) 98 w w.heap.size (fun k_ => P0_1_ k_) (.slice A0_1 l0_1.length c0_1) l0_1) (h : integer_magnitude.f a0_0 l0_1 = some r) :
    Calls Try.prog 101 #[.agg #[.bool a0_0, .slice A0_1 l0_1.length c0_1]] w fun e w' => ∃ v0_ : Value, e = .returned (v0_) ∧ Kd.V (Kd.int .u32) 98 w' w.heap.size (fun k_ => (P0_1_ k_ ∨ w.heap.size ≤ k_)) v0_ r ∧ Below w.heap.size w w' := by
  have hu24 := Try.underlying24
  have HO0_1 := Aside0.mk (show Kd.V (Kd.int .u32) 98 w w.heap.size (fun k_ => (P0_1_ k_ ∨ w.heap.size ≤ k_)) (.slice A0_1 l0_1.length c0_1) l0_1 from Kd.V_mono hs0_1 (fun k_ hk => .inl hk))
  have HB := Aside0.mk (Below.refl w.heap.size w)
  have H : ((integer_trim.f l0_1).bind fun t132 => (some t132)) = some r := h
  clear h
  replace H := Option.bind_eq_some_iff.mp H
  obtain ⟨t132, A20, H⟩ := H
  replace H : (some t132) = some r := H
  have A2 := Aside0.mk A20
  clear A20
  obtain rfl := Option.some.inj H
  go_enter Try.func101, Try.ntmps101
  go_wp2_with (first | ((with_reducible refine gate_dst (N := 1) rfl ?_); refine box_event ?hg (N := 1) ?hd (cs := #[.bool a0_0, .slice A0_1 l0_1.length c0_1]) (t := 24) ?hr ?_; (case hd => rfl); (case hg => rfl); (case hr => first | (go_simp; done) | (go_simp; rfl)); intro gb131 hg w3 hbox hb; have n0_ := Aside0.mk (Kd.V_below (Kd.V_elderB (by (with_reducible repeat (first | apply Kd.V_alloc | apply Kd.V_drewN | apply Kd.V_drew)); exact HO0_1.out) gb131 (Nat.le_of_eq hg.symm)) hb); have n1_ := Aside0.mk (below_step (by repeat (first | (with_reducible first | exact HB.out | apply below_alloc | apply pw_below_drewN | apply below_drew1) | exact HB.out)) hb); have n2_ := Aside0.mk (hbox); have n3_ := Aside0.mk ((by rw [hg]; exact (below_size (by repeat (first | (with_reducible first | exact HB.out | apply below_alloc | apply pw_below_drewN | apply below_drew1) | exact HB.out))) : w.heap.size ≤ gb131)); have n4_ := Aside0.mk ((by rw [hg]; exact (below_size (by repeat (first | (with_reducible first | exact HB.out | apply below_alloc | apply pw_below_drewN | apply below_drew1) | exact HB.out))) : w.heap.size ≤ gb131)); clear HO0_1; clear HB; have HO0_1 := n0_; have HB := n1_; have BK131 := n2_; have GW131 := n3_; have GE131 := n4_; clear n0_ n1_ n2_ n3_ n4_; clear hb hbox hg; have hcz4_0 : w3.cell? ⟨gb131, 0, none⟩ = some (.bool a0_0) := (blk_cell BK131.out 0).trans rfl; have hcz4_1 : w3.cell? ⟨gb131, 1, none⟩ = some (.slice A0_1 l0_1.length c0_1) := (blk_cell BK131.out 1).trans rfl; have hfz4_0 := blk_frozen BK131.out 0; have hfz4_1 := blk_frozen BK131.out 1) | ((with_reducible refine gate_callee (f := 117) rfl ?_); refine goesL_ (some 5) rfl rfl Try.func117 (by kernel_rfl) rfl #[.slice A0_1 l0_1.length c0_1] rfl (by (try simp only [List.map_toArray, List.map_cons, List.map_nil]); first | done | rfl | (simp only [List.length_drop, List.length_take]; rfl)) ?_; (with_reducible refine (integer_trim.calls (fun k_ => ((P0_1_ k_ ∨ w.heap.size ≤ k_) ∧ k_ ≠ gb131)) _ _ l0_1 t132 _ ?side1 A2.out).mono ?_); (case side1 => exact HO0_1.out); rintro e w5 ⟨v133, rfl, ho0, hb⟩; refine ⟨_, rfl, ?_⟩; have n0_ := Aside0.mk (Kd.V_below (by (with_reducible repeat (first | apply Kd.V_alloc | apply Kd.V_drewN | apply Kd.V_drew)); exact HO0_1.out) hb); have n1_ := Aside0.mk (Kd.V_lower (Kd.V_mono (ok' := fun k_ => (P0_1_ k_ ∨ w.heap.size ≤ k_) ∧ k_ ≠ gb131) ho0 (fun k_ hk_ => ⟨Or.elim hk_ (fun hs_ => hs_.1) (fun hn_ => (.inr (Nat.le_trans (below_size (by repeat (first | (with_reducible first | exact HB.out | apply below_alloc | apply pw_below_drewN | apply below_drew1 | refine below_set ?_ GE131.out) | exact HB.out))) hn_))), Or.elim hk_ (fun hs_ => hs_.2) (fun hn_ => (Kd.freshB (g := gb131) (o := .cells #[.bool a0_0, .slice A0_1 l0_1.length c0_1] 24 (0, 0)) (by (with_reducible repeat (first | refine blk_drewN ?_ _ | refine blk_drew ?_ | refine blk_alloc ?_ _)); exact BK131.out) k_ hn_))⟩)) (below_size (by repeat (first | (with_reducible first | exact HB.out | apply below_alloc | apply pw_below_drewN | apply below_drew1 | refine below_set ?_ GE131.out) | exact HB.out)))); have n2_ := Aside0.mk (blk_below (g := gb131) (o := .cells #[.bool a0_0, .slice A0_1 l0_1.length c0_1] 24 (0, 0)) (by (with_reducible repeat (first | refine blk_drewN ?_ _ | refine blk_drew ?_ | refine blk_alloc ?_ _)); exact BK131.out) hb); have n3_ := Aside0.mk (below_step (by repeat (first | (with_reducible first | exact HB.out | apply below_alloc | apply pw_below_drewN | apply below_drew1 | refine below_set ?_ GE131.out) | exact HB.out)) hb); clear HO0_1; clear BK131; clear HB; have HO0_1 := n0_; have HO134 := n1_; have BK131 := n2_; have HB := n3_; clear n0_ n1_ n2_ n3_; (try clear hb); (try clear hb2); (try clear hk); (try clear hi); (try clear ho0)))
  go_ret
  exact ⟨_, by first | rfl | (simp [errW_none, errW_some] <;> rfl) | (simp [*, errW_none, errW_some] <;> rfl), by (with_reducible repeat (first | apply Kd.V_alloc | apply Kd.V_drewN | apply Kd.V_drew)); exact Kd.V_mono HO134.out (fun _ hk => hk.1), by repeat (first | (with_reducible first | exact HB.out | apply below_alloc | apply pw_below_drewN | apply below_drew1 | refine below_set ?_ GE131.out) | exact HB.out)⟩

end Go.Proofs.Ytpkgckccfanchaa.M

/- ## M34 -/
-- Written by wip/tools/pp.py (a driver round the kit's printer, with patches of this session): not a printed file.
namespace Go.Proofs.Ytpkgckccfanchaa.M
open Go.RowKit Go.Proofs.YtpkgckccfanchaaW.PrintWords Go.Proofs.YtpkgckccfanchaaW.PrintLast Go.Proofs.YtpkgckccfanchaaW.PrintMore
attribute [local go_sem] max2_int min2_int max_two min_two max_three min_three max_four min_four   -- for this text's walks alone
set_option linter.unusedVariables false
set_option linter.unusedSimpArgs false

/-- A state of type 82 at block g of W; what its slices lead to came in by w0. -/
def IsS82 (w0 W : World) (g : Nat) (f0 : List Int) (f1 : Int) : Prop := ∃ A0 c0, W.heap[g]? = some (.cells #[.slice A0 f0.length c0, .int .i64 f1] 82 (0, 0)) ∧ w0.heap.size ≤ g ∧ Kd.C (Kd.int .i8) w0 A0 f0.length f0
theorem IsS82.grown {w0 W : World} {g : Nat} {f0 : List Int} {f1 : Int} {W1 : World} {row : Option Nat} (h : IsS82 w0 W g f0 f1) (hw : W.grownBy W1 row) (hne : some g ≠ row) : IsS82 w0 W1 g f0 f1 := by
  obtain ⟨A0, c0, hb, hg, hr0⟩ := h
  exact ⟨A0, c0, blk_grown hb hw hne, hg, hr0⟩
theorem IsS82.own_neN {w0 W : World} {g : Nat} {f0 : List Int} {f1 : Int} {α : Type} {d : Kd α} {e : Nat} {base : Nat} {ok : Nat → Prop} {v : Value} {xs : List α} (h : IsS82 w0 W g f0 f1) (ho : Kd.N d e W base ok v xs) (ht : e ≠ 82) : some g ≠ v.ownBlock := by
  obtain ⟨A0, c0, hb, hg, hr0⟩ := h
  exact Kd.N_ne ho hb ht
theorem IsS82.fresh {w0 W : World} {g : Nat} {f0 : List Int} {f1 : Int} (h : IsS82 w0 W g f0 f1) : ∀ k, W.heap.size ≤ k → k ≠ g := by
  obtain ⟨A0, c0, hb, hg, hr0⟩ := h
  exact Kd.freshB hb
theorem IsS82.kept {w0 W : World} {g : Nat} {f0 : List Int} {f1 : Int} {W1 : World} {S : Nat → Prop} (h : IsS82 w0 W g f0 f1) (hk : Kept W W1 S) (hne : ¬ S g) : IsS82 w0 W1 g f0 f1 := by
  obtain ⟨A0, c0, hb, hg, hr0⟩ := h
  exact ⟨A0, c0, blk_kept hb hk hne, hg, hr0⟩
theorem IsS82.below {w0 W : World} {g : Nat} {f0 : List Int} {f1 : Int} {W1 : World} (h : IsS82 w0 W g f0 f1) (hw : Below W.heap.size W W1) : IsS82 w0 W1 g f0 f1 := h.grown (grown_of_below hw none) (by simp)
theorem IsS82.alloc {w0 W : World} {g : Nat} {f0 : List Int} {f1 : Int} (h : IsS82 w0 W g f0 f1) (o : Obj) : IsS82 w0 (W.alloc o) g f0 f1 := h.below (below_alloc (Below.refl _ _) o)
theorem IsS82.drewN {w0 W : World} {g : Nat} {f0 : List Int} {f1 : Int} (h : IsS82 w0 W g f0 f1) (m : Nat) : IsS82 w0 (W.drewN m) g f0 f1 := h
theorem IsS82.drew {w0 W : World} {g : Nat} {f0 : List Int} {f1 : Int} (h : IsS82 w0 W g f0 f1) : IsS82 w0 W.drew g f0 f1 := h
theorem IsS82.at_ {w0 W : World} {g : Nat} {f0 : List Int} {f1 : Int} {w' : World} {m : Nat} (hq : W.drewN m = w') (h : IsS82 w0 W g f0 f1) : IsS82 w0 w' g f0 f1 := by subst hq; exact IsS82.drewN h m
theorem IsS82.apart {w0 W : World} {g : Nat} {f0 : List Int} {f1 : Int} {α : Type} {d : Kd α} {e : Nat} {base : Nat} {ok : Nat → Prop} {v : Value} {xs : List α} (h : IsS82 w0 W g f0 f1) (ho : d.R e W base ok v xs) (ht : ∀ q, q ∈ e :: d.E → q ≠ 82) : d.R e W base (fun k => ok k ∧ k ≠ g) v xs := by
  obtain ⟨A0, c0, hb, hg, hr0⟩ := h
  exact Kd.R_types ho hb ht
theorem IsS82.own_ne {w0 W : World} {g : Nat} {f0 : List Int} {f1 : Int} {α : Type} {d : Kd α} {e : Nat} {base : Nat} {ok : Nat → Prop} {v : Value} {xs : List α} (h : IsS82 w0 W g f0 f1) (ho : d.R e W base ok v xs) (ht : e ≠ 82) : some g ≠ v.ownBlock := by
  obtain ⟨A0, c0, hb, hg, hr0⟩ := h
  exact Kd.R_ne ho hb ht
theorem IsS82.apartQ {w0 W : World} {g : Nat} {f0 : List Int} {f1 : Int} {α : Type} {d : Kd α} {e : Nat} {base : Nat} {ok : Nat → Prop} {v : Value} {xs : List α} (h : IsS82 w0 W g f0 f1) (ho : d.Q e W base ok v xs) (ht : ∀ q, q ∈ e :: d.E → q ≠ 82) : d.Q e W base (fun k => ok k ∧ k ≠ g) v xs := by
  obtain ⟨A0, c0, hb, hg, hr0⟩ := h
  exact Kd.Q_types ho hb ht
theorem IsS82.own_neQ {w0 W : World} {g : Nat} {f0 : List Int} {f1 : Int} {α : Type} {d : Kd α} {e : Nat} {base : Nat} {ok : Nat → Prop} {v : Value} {xs : List α} (h : IsS82 w0 W g f0 f1) (ho : d.Q e W base ok v xs) (ht : e ≠ 82) : some g ≠ v.ownBlock := by
  obtain ⟨A0, c0, hb, hg, hr0⟩ := h
  exact Kd.Q_ne ho hb ht
theorem IsS82.apartS {w0 W : World} {g : Nat} {f0 : List Int} {f1 : Int} {α : Type} {d : Kd α} {e : Nat} {base : Nat} {ok : Nat → Prop} {v : Value} {xs : List α} (h : IsS82 w0 W g f0 f1) (ho : d.S e W base ok v xs) (ht : ∀ q, q ∈ e :: d.E → q ≠ 82) : d.S e W base (fun k => ok k ∧ k ≠ g) v xs := by
  obtain ⟨A0, c0, hb, hg, hr0⟩ := h
  exact Kd.S_types ho hb ht
theorem IsS82.own_neS {w0 W : World} {g : Nat} {f0 : List Int} {f1 : Int} {α : Type} {d : Kd α} {e : Nat} {base : Nat} {ok : Nat → Prop} {v : Value} {xs : List α} (h : IsS82 w0 W g f0 f1) (ho : d.S e W base ok v xs) (ht : e ≠ 82) : some g ≠ v.ownBlock := by
  obtain ⟨A0, c0, hb, hg, hr0⟩ := h
  exact Kd.S_ne ho hb ht
theorem IsS82.lt {w0 W : World} {g : Nat} {f0 : List Int} {f1 : Int} (h : IsS82 w0 W g f0 f1) : g < W.heap.size := by
  obtain ⟨A0, c0, hb, hg, hr0⟩ := h
  exact blk_lt hb
theorem IsS82.ge {w0 W : World} {g : Nat} {f0 : List Int} {f1 : Int} (h : IsS82 w0 W g f0 f1) : w0.heap.size ≤ g := by
  obtain ⟨A0, c0, hb, hg, hr0⟩ := h
  exact hg
theorem IsS82.ne_blk {w0 W : World} {g : Nat} {f0 : List Int} {f1 : Int} {a : Nat} {cs : Array Value} {t : TypeId} {fr : Nat × Nat} (h : IsS82 w0 W g f0 f1) (hb2 : W.heap[a]? = some (.cells cs t fr)) (ht : t ≠ 82) : g ≠ a := by
  obtain ⟨A0, c0, hb, hg, hr0⟩ := h
  rintro rfl
  rw [hb] at hb2
  injection hb2 with hb2
  injection hb2 with _ ht2
  exact ht ht2.symm
theorem IsS82.far {w0 W : World} {g : Nat} {f0 : List Int} {f1 : Int} {p : Addr} (h : IsS82 w0 W g f0 f1) (hne : g ≠ p.block) (u : Value) : IsS82 w0 (W.setCell p u) g f0 f1 := by
  obtain ⟨A0, c0, hb, hg, hr0⟩ := h
  exact ⟨A0, c0, blk_far hb hne u, hg, hr0⟩
theorem cellS82_0 {W : World} {g : Nat} {A0 : Option Addr} {c0 : Nat} {f0 : List Int} {f1 : Int} (h : W.heap[g]? = some (.cells #[.slice A0 f0.length c0, .int .i64 f1] 82 (0, 0))) : W.cell? ⟨g, 0, none⟩ = some (.slice A0 f0.length c0) := (blk_cell h 0).trans rfl
theorem cellS82_1 {W : World} {g : Nat} {A0 : Option Addr} {c0 : Nat} {f0 : List Int} {f1 : Int} (h : W.heap[g]? = some (.cells #[.slice A0 f0.length c0, .int .i64 f1] 82 (0, 0))) : W.cell? ⟨g, 1, none⟩ = some (.int .i64 f1) := (blk_cell h 1).trans rfl
theorem IsS82.set_1 {w0 W : World} {g : Nat} {f0 : List Int} {f1 : Int} (h : IsS82 w0 W g f0 f1) (x : Int) : IsS82 w0 (W.setCell ⟨g, 1, none⟩ (.int .i64 x)) g f0 x := by
  obtain ⟨A0, c0, hb, hg, hr0⟩ := h
  exact ⟨A0, c0, by simpa using blk_set hb 1 (.int .i64 x), hg, hr0⟩
theorem IsS82.new (w0 W : World) (A0 : Option Addr) (c0 : Nat) (f0 : List Int) (f1 : Int) (hB : Below w0.heap.size w0 W) (hr0 : Kd.C (Kd.int .i8) w0 A0 f0.length f0) : IsS82 w0 (W.alloc (.cells #[.slice A0 f0.length c0, .int .i64 f1] 82)) W.heap.size f0 f1 := ⟨A0, c0, by simpa using heap_alloc_new W _, hB.size, hr0⟩

/-! ### quadformmake_Tape_Next: function 85 -/
def quadformmake_Tape_Next.f (s0_0 : List Int) (s0_1 : Int) : Option (Int × Int) := if s0_1 ≥ (s0_0.length : Int) then (some (0, s0_1)) else (if 0 ≤ (wrap64 ((wrap64 (s0_1 + 1)) - 1)) then (if (wrap64 ((wrap64 (s0_1 + 1)) - 1)) < (s0_0.length : Int) then (some (wrap64 (rd s0_0 (wrap64 ((wrap64 (s0_1 + 1)) - 1))), wrap64 (s0_1 + 1))) else (none)) else (none))
set_option maxHeartbeats 8000000 in
set_option maxRecDepth 100000 in
theorem quadformmake_Tape_Next.calls (g : Nat) (s0_0 : List Int) (s0_1 : Int) (r1 : Int) (r2 : Int) (w0 w : World) (hI : IsS82 w0 w g s0_0 s0_1) (hB : Below w0.heap.size w0 w) (h : quadformmake_Tape_Next.f s0_0 s0_1 = some (r1, r2)) :
    Calls Try.prog 85 #[.pointer (some ⟨g, 0, none⟩)] w fun e w' => e = .returned (.int .i64 r1) ∧ IsS82 w0 w' g s0_0 r2 ∧ Below w0.heap.size w0 w' ∧ KeepBut w w' g none := by
  have HI0 := Aside0.mk hI
  have HK := Aside0.mk (KeepBut.refl w g none)
  have HL := Aside0.mk hB.size
  clear hI
  have HW0 := Aside0.mk hB.size
  have HB := Aside0.mk hB
  clear hB
  have H : (if s0_1 ≥ (s0_0.length : Int) then (some (0, s0_1)) else (if 0 ≤ (wrap64 ((wrap64 (s0_1 + 1)) - 1)) then (if (wrap64 ((wrap64 (s0_1 + 1)) - 1)) < (s0_0.length : Int) then (some (wrap64 (rd s0_0 (wrap64 ((wrap64 (s0_1 + 1)) - 1))), wrap64 (s0_1 + 1))) else (none)) else (none))) = some (r1, r2) := h
  clear h
  by_cases c2 : s0_1 ≥ (s0_0.length : Int)
  · rw [if_pos c2] at H
    have c2b0 : decide ((s0_0.length : Int) ≤ s0_1) = true := decide_eq_true c2
    clear c2
    simp only [Option.some.injEq, Prod.mk.injEq] at H
    obtain ⟨rfl, rfl⟩ := H
    obtain ⟨ASz3_0, cSz3_0, HGz3, hgz3, HSz3_0⟩ := HI0.out
    have hcz3_0 := cellS82_0 HGz3
    have hcz3_1 := cellS82_1 HGz3
    have hfz3_1 := blk_frozen HGz3 1
    clear HGz3 hgz3
    go_enter Try.func85, Try.ntmps85
    go_wp2
    repeat (go_quiet (fail); try go_wp2)
    go_ret
    exact ⟨by first | rfl | (simp [errW_none, errW_some] <;> rfl) | (simp [*, errW_none, errW_some] <;> rfl), by repeat (first | (with_reducible first | exact HI0.out | apply IsS82.alloc | apply IsS82.drewN | apply IsS82.drew | apply IsS82.set_1) | exact HI0.out), by repeat (first | (with_reducible first | exact HB.out | apply below_alloc | apply pw_below_drewN | apply below_drew1 | refine below_set ?_ (IsS82.ge HI0.out)) | exact HB.out), by repeat (first | (with_reducible first | exact HK.out | apply KeepBut.set_ | apply keep_drewN | apply keep_drew | apply keep_alloc) | exact HK.out)⟩
  · rw [if_neg c2] at H
    have c2b0 : decide ((s0_0.length : Int) ≤ s0_1) = false := decide_eq_false c2
    clear c2
    obtain ⟨ji4, hji4⟩ : ∃ j_ : Int, (wrap64 ((wrap64 (s0_1 + 1)) - 1)) = j_ := ⟨_, rfl⟩
    replace H : (if 0 ≤ (ji4) then (if (ji4) < (s0_0.length : Int) then (some (wrap64 (rd s0_0 (ji4)), wrap64 (s0_1 + 1))) else (none)) else (none)) = some (r1, r2) := by first | (rw [hji4] at H; exact H) | (simp only [hji4] at H ⊢; exact H)
    have hji4w : (IntKind.i64.wrap ((wrap64 (s0_1 + 1)) - 1)) = ji4 := (i64_w _).trans hji4
    by_cases c5 : 0 ≤ (ji4)
    · rw [if_pos c5] at H
      have c5b0 : decide (0 ≤ (ji4)) = true := decide_eq_true c5
      clear c5
      by_cases c6 : (ji4) < (s0_0.length : Int)
      · rw [if_pos c6] at H
        have c6b0 : decide ((ji4) < (s0_0.length : Int)) = true := decide_eq_true c6
        clear c6
        simp only [Option.some.injEq, Prod.mk.injEq] at H
        obtain ⟨rfl, rfl⟩ := H
        obtain ⟨ASz7_0, cSz7_0, HGz7, hgz7, HSz7_0⟩ := HI0.out
        have hcz7_0 := cellS82_0 HGz7
        have hcz7_1 := cellS82_1 HGz7
        have hfz7_1 := blk_frozen HGz7 1
        clear HGz7 hgz7
        have p217 : 0 ≤ ((ji4) : Int) := of_decide_eq_true (by first | (with_reducible assumption) | assumption)
        have q217 : (ji4) < (s0_0.length : Int) := of_decide_eq_true (by first | (with_reducible assumption) | assumption)
        obtain ⟨ad217, e217, hx217_0⟩ := Kd.at_int HSz7_0 (ji4) p217 q217
        cases e217
        have hn217_0 : ad217.block ≠ g := Nat.ne_of_lt (Nat.lt_of_lt_of_le (by have := World.block_lt_of_cell? _ _ hx217_0; first | rwa [add_block] at this | exact this) (IsS82.ge HI0.out))
        replace hx217_0 := pw_cell_below HB.out hx217_0
        replace hx217_0 := (cell_far (p := ⟨g, 1, none⟩) (by first | (rw [add_block]; exact hn217_0) | (show (Addr.add _ _).block ≠ _; rw [add_block]; exact hn217_0) | exact hn217_0) (.int .i64 (wrap64 (s0_1 + 1)))).trans hx217_0
        (try have hy217_0 := fun (n_ : Nat) => (show (((w.drewN n_).setCell ⟨g, 1, none⟩ (.int .i64 (wrap64 (s0_1 + 1))))).cell? _ = some _ from hx217_0))
        clear hn217_0
        replace p217 := eq_true p217
        replace q217 := eq_true q217
        go_enter Try.func85, Try.ntmps85
        go_wp2
        repeat (go_quiet (fail); try go_wp2)
        go_ret
        exact ⟨by first | rfl | (simp [errW_none, errW_some] <;> rfl) | (simp only [← hji4]; first | rfl | (simp [errW_none, errW_some] <;> rfl)) | (simp [*, errW_none, errW_some] <;> rfl), by repeat (first | (with_reducible first | exact HI0.out | apply IsS82.alloc | apply IsS82.drewN | apply IsS82.drew | apply IsS82.set_1) | exact HI0.out), by repeat (first | (with_reducible first | exact HB.out | apply below_alloc | apply pw_below_drewN | apply below_drew1 | refine below_set ?_ (IsS82.ge HI0.out)) | exact HB.out), by repeat (first | (with_reducible first | exact HK.out | apply KeepBut.set_ | apply keep_drewN | apply keep_drew | apply keep_alloc) | exact HK.out)⟩
      · rw [if_neg c6] at H
        exact absurd H (by simp)
    · rw [if_neg c5] at H
      exact absurd H (by simp)

end Go.Proofs.Ytpkgckccfanchaa.M

/- ## M35 -/
-- Written by wip/tools/pp.py (a driver round the kit's printer, with patches of this session): not a printed file.
namespace Go.Proofs.Ytpkgckccfanchaa.M
open Go.RowKit Go.Proofs.YtpkgckccfanchaaW.PrintWords Go.Proofs.YtpkgckccfanchaaW.PrintLast Go.Proofs.YtpkgckccfanchaaW.PrintMore
attribute [local go_sem] max2_int min2_int max_two min_two max_three min_three max_four min_four   -- for this text's walks alone
set_option linter.unusedVariables false
set_option linter.unusedSimpArgs false

/-! ### quadformmake_Tape_Below: function 52 -/
def quadformmake_Tape_Below.f (s0_0 : List Int) (s0_1 : Int) (a1 : Int) : Option (Int × Int) := (quadformmake_Tape_Next.f s0_0 s0_1).bind fun bt218 => (if a1 = 0 then (none) else (some (((bt218.1) % 256) % a1, bt218.2)))
set_option maxHeartbeats 8000000 in
set_option maxRecDepth 100000 in
theorem quadformmake_Tape_Below.calls (g : Nat) (s0_0 : List Int) (s0_1 : Int) (a1 : Int) (r1 : Int) (r2 : Int) (w0 w : World) (hI : IsS82 w0 w g s0_0 s0_1) (hB : Below w0.heap.size w0 w) (h : quadformmake_Tape_Below.f s0_0 s0_1 a1 = some (r1, r2)) :
    Calls Try.prog 52 #[.pointer (some ⟨g, 0, none⟩), .int .i64 a1] w fun e w' => e = .returned (.int .i64 r1) ∧ IsS82 w0 w' g s0_0 r2 ∧ Below w0.heap.size w0 w' ∧ KeepBut w w' g none := by
  have HI0 := Aside0.mk hI
  have HK := Aside0.mk (KeepBut.refl w g none)
  have HL := Aside0.mk hB.size
  clear hI
  have HW0 := Aside0.mk hB.size
  have HB := Aside0.mk hB
  clear hB
  have H : ((quadformmake_Tape_Next.f s0_0 s0_1).bind fun bt218 => (if a1 = 0 then (none) else (some (((bt218.1) % 256) % a1, bt218.2)))) = some (r1, r2) := h
  clear h
  replace H := Option.bind_eq_some_iff.mp H
  obtain ⟨⟨t218, t219⟩, A30, H⟩ := H
  replace H : (if a1 = 0 then (none) else (some (((t218) % 256) % a1, t219))) = some (r1, r2) := H
  have A3 := Aside0.mk A30
  clear A30
  by_cases c4 : a1 = 0
  · rw [if_pos c4] at H
    exact absurd H (by simp)
  · rw [if_neg c4] at H
    have c4b0 : (a1 == 0) = false := beq_eq_false_iff_ne.mpr c4
    have c4b1 : (a1 != 0) = true := bne_iff_ne.mpr c4
    simp only [Option.some.injEq, Prod.mk.injEq] at H
    obtain ⟨rfl, rfl⟩ := H
    go_enter Try.func52, Try.ntmps52
    go_wp2_with (first | ((with_reducible refine gate_callee (f := 85) rfl ?_); refine goesL_ (some 6) rfl rfl Try.func85 (by kernel_rfl) rfl #[.pointer (some ⟨g, 0, none⟩)] rfl (by (try simp only [List.map_toArray, List.map_cons, List.map_nil]); first | done | rfl | (simp only [List.length_drop, List.length_take]; rfl)) ?_; (with_reducible refine (quadformmake_Tape_Next.calls g s0_0 s0_1 t218 t219 w0 _ ?side1 ?side2 A3.out).mono ?_); (case side1 => repeat (first | (with_reducible first | exact HI0.out | apply IsS82.alloc | apply IsS82.drewN | apply IsS82.drew | apply IsS82.set_1) | exact HI0.out)); (case side2 => repeat (first | (with_reducible first | exact HB.out | apply below_alloc | apply pw_below_drewN | apply below_drew1 | refine below_set ?_ (IsS82.ge HI0.out)) | exact HB.out)); rintro e w5 ⟨rfl, hi, hb, hk⟩; refine ⟨_, rfl, ?_⟩; have n0_ := Aside0.mk (KeepBut.trans (by repeat (first | (with_reducible first | exact HK.out | apply KeepBut.set_ | apply keep_drewN | apply keep_drew | apply keep_alloc) | exact HK.out)) hk (.inl rfl)); have n1_ := Aside0.mk (hb); have n2_ := Aside0.mk (hi); clear HK; clear HB; clear HI0; have HK := n0_; have HB := n1_; have HI0 := n2_; clear n0_ n1_ n2_; (try clear hb); (try clear hb2); (try clear hk); (try clear hi)))
    go_ret
    exact ⟨by first | rfl | (simp [errW_none, errW_some] <;> rfl) | (simp [*, errW_none, errW_some] <;> rfl), by repeat (first | (with_reducible first | exact HI0.out | apply IsS82.alloc | apply IsS82.drewN | apply IsS82.drew | apply IsS82.set_1) | exact HI0.out), by repeat (first | (with_reducible first | exact HB.out | apply below_alloc | apply pw_below_drewN | apply below_drew1 | refine below_set ?_ (IsS82.ge HI0.out)) | exact HB.out), by repeat (first | (with_reducible first | exact HK.out | apply KeepBut.set_ | apply keep_drewN | apply keep_drew | apply keep_alloc) | exact HK.out)⟩

end Go.Proofs.Ytpkgckccfanchaa.M

/- ## M36 -/
-- Written by wip/tools/pp.py (a driver round the kit's printer, with patches of this session): not a printed file.
namespace Go.Proofs.Ytpkgckccfanchaa.M
open Go.RowKit Go.Proofs.YtpkgckccfanchaaW.PrintWords Go.Proofs.YtpkgckccfanchaaW.PrintLast Go.Proofs.YtpkgckccfanchaaW.PrintMore
attribute [local go_sem] max2_int min2_int max_two min_two max_three min_three max_four min_four   -- for this text's walks alone
set_option linter.unusedVariables false
set_option linter.unusedSimpArgs false

/-! ### quadformmake_Perm: function 22 (by hand) -/
/-- The exchange of two places. -/
def swapI (l : List Int) (i j : Nat) : List Int := (l.set i (l.getD j 0)).set j (l.getD i 0)
theorem swapI_length (l : List Int) (i j : Nat) : (swapI l i j).length = l.length := by simp [swapI]
/-- Fisher and Yates: the place with which place i is exchanged, by number at_ of the tape. -/
def permPick (l : List Int) (at_ i : Nat) : Nat := i - ((l.getD at_ 0 % 256) % ((i : Int) + 1)).toNat
def permLoop (l : List Int) : Nat → Nat → List Int → List Int
  | 0, _, out => out
  | i + 1, at_, out => permLoop l i (at_ + 1) (swapI out (i + 1) (permPick l at_ (i + 1)))
theorem below_at (l : List Int) (a : Nat) (n : Int) (h : 1 ≤ n) (hl : l.length < 9223372036854775807) : quadformmake_Tape_Below.f l (min a l.length : Nat) n = some ((l.getD a 0 % 256) % n, ((min (a + 1) l.length : Nat) : Int)) := by
  unfold quadformmake_Tape_Below.f quadformmake_Tape_Next.f
  have hn : n ≠ 0 := by omega
  by_cases ha : l.length ≤ a
  · rw [if_pos (by omega)]
    have e1 : l.getD a 0 = 0 := by simp [List.getD_eq_getElem?_getD, List.getElem?_eq_none ha]
    have e2 : min a l.length = l.length := by omega
    have e3 : min (a + 1) l.length = l.length := by omega
    simp only [Option.bind_some, hn, if_false, e1, e2, e3]
  · have e2 : min a l.length = a := by omega
    have e3 : min (a + 1) l.length = a + 1 := by omega
    have e4 : wrap64 (wrap64 ((a : Int) + 1) - 1) = a := by unfold wrap64; omega
    have e5 : wrap64 ((a : Int) + 1) = ((a + 1 : Nat) : Int) := by unfold wrap64; omega
    rw [e2, e3, if_neg (by omega), e4, if_pos (by omega), if_pos (by omega), e5]
    have e6 : rd l (a : Int) = l.getD a 0 := by simp [rd]
    have e7 : ∀ x : Int, wrap64 x % 256 = x % 256 := by intro x; unfold wrap64; omega
    simp only [Option.bind_some, hn, if_false, e6, e7]
def quadformmake_Perm.f (l0 : List Int) (a1 : Int) : Option (List Int) := if 0 ≤ a1 ∧ a1 ≤ 250 ∧ l0.length < 9223372036854775807 then some (permLoop l0 (a1.toNat - 1) 0 (rangeI a1.toNat)) else none
set_option maxHeartbeats 1000000 in
set_option maxRecDepth 100000 in
theorem quadformmake_Perm.calls (A0 : Option Addr) (c0 : Nat) (l0 : List Int) (a1 : Int) (r : List Int) (w : World) (hr0 : Kd.C (Kd.int .i8) w A0 l0.length l0) (hc0 : l0.length ≤ c0) (h : quadformmake_Perm.f l0 a1 = some r) :
    Calls Try.prog 22 #[.slice A0 l0.length c0, .int .i64 a1] w fun e w' => ∃ v0_ : Value, e = .returned (v0_) ∧ Kd.R (Kd.int .i64) 3 w' w.heap.size (fun _ => True) v0_ r ∧ Below w.heap.size w w' := by
  unfold quadformmake_Perm.f at h
  split at h
  case isFalse => simp at h
  case isTrue hx =>
  obtain ⟨h0, h1, hll⟩ := hx
  have hr := Option.some.inj h
  clear h
  obtain ⟨n, rfl⟩ := Int.eq_ofNat_of_zero_le h0
  rw [Int.toNat_natCast] at hr
  have hn1 : n ≤ 250 := by omega
  have H := Aside0.mk hr
  have HR0 := Aside0.mk hr0
  clear hr hr0
  have HI := Aside0.mk (IsS82.new w w A0 c0 l0 0 (Below.refl _ _) HR0.out)
  have HBk := Aside0.mk (below_alloc (Below.refl w.heap.size w) (.cells #[.slice A0 l0.length c0, .int .i64 0] 82))
  have HE : Aside0 (w.heap.size < (w.alloc (.cells #[.slice A0 l0.length c0, .int .i64 0] 82)).heap.size) := ⟨by simp⟩
  go_enter Try.func22, Try.ntmps22
  go_wp2
  obtain ⟨g, hg0⟩ : ∃ g, g = w.heap.size := ⟨_, rfl⟩
  rw [← hg0] at HI HE ⊢
  have HG := Aside0.mk hg0
  clear hg0
  go_loopw [6, 7] (fun v i wr => ∃ k : Nat, k ≤ n ∧ i = .int .i64 k ∧ Aside0 (Kd.R (Kd.int .i64) 3 wr w.heap.size (fun _ => True) v (rangeI k)) ∧ Aside0 (IsS82 w wr g l0 0) ∧ Aside0 (Below w.heap.size w wr)) (fun _ i _ => n - (intOf i).toNat)
  case atStart => exact ⟨0, by omega, rfl, ⟨Kd.R_nil _ _ _ _ _⟩, HI, HBk⟩
  case round =>
    clear HI HBk HE
    obtain ⟨k, hk, rfl, HO, HI, HB⟩ := hrel
    by_cases hlt : k < n
    · have hlt2 : (k : Int) < n := by omega
      have hsz : (rangeI k).length = k := rangeI_length k
      go_wp2_with ((with_reducible refine gate_builtin (b := .append) (xs := #[.tmp 18, .tmp 20]) rfl ?_); at_builtin; go_must (refine Kd.R_append (Kd.int .i64) (w0 := w) w.heap.size rfl (.tmp 18) (.tmp 20) 28 3 (.int .i64 0) 8 rfl Try.underlying28 info3 rfl (by decide) (by omega) u6 (rangeI k) (k : Int) [.int .i64 (k : Int)] (fun _ => True) (fun _ => False) rfl rfl ?aP (fun _ hk => hk.elim) ?aF ?aO ?aB ?aS ?aL ?_); (case aP => go_must (exact rfl)); (case aB => go_must (exact HB.out)); (case aF => go_must (exact (fun _ _ => trivial))); (case aO => go_must (exact HO.out)); (case aS => go_must (exact below_size HB.out)); (case aL => go_must (omega)); intro v1 w1 ho hb hg hat; go_must (rw [← rangeI_succ] at ho); go_must (have hI2 := Aside0.mk (HI.out.grown hg (IsS82.own_ne HI.out HO.out (by decide)))); have ho2 := Aside0.mk ho; have hb2 := Aside0.mk hb; clear ho hb hg hat HO HI HB)
      go_roundw
      case rel => exact ⟨k + 1, by omega, by go_num, ho2, hI2, hb2⟩
      case measure => simp [intOf]; omega
    · obtain rfl : k = n := by omega
      clear hlt hk
      rcases Nat.eq_zero_or_pos k with h00 | hpos
      · subst h00
        have hr0 : r = rangeI 0 := by have := H.out; simpa [permLoop] using this.symm
        subst hr0
        clear H HI
        go_wp2
        refine wp_loop_rounds 1 ?_
        rw [rounds_succ]
        go_wp2
        go_ret
        exact ⟨_, rfl, HO.out, HB.out⟩
      obtain ⟨g2, cap, e6, hg2, _, _⟩ := Kd.R_form HO.out (by rw [rangeI_length]; exact hpos)
      rw [rangeI_length] at e6
      subst e6
      have HO2 : Aside0 (∃ (a_ : Nat) (L : List Int), permLoop l0 ((k : Int) - 1).toNat a_ L = r ∧ L.length = k ∧ Kd.R (Kd.int .i64) 3 wr w.heap.size (fun _ => True) (.slice (some ⟨g2, 0, none⟩) k cap) L ∧ IsS82 w wr g l0 ((min a_ l0.length : Nat) : Int)) :=
        ⟨0, rangeI k, by rw [show ((k : Int) - 1).toNat = k - 1 from by omega]; exact H.out, rangeI_length k, HO.out, by simpa using HI.out⟩
      clear HO HI H
      go_wp2
      go_loopw [8, 9] (fun x _ wq => ∃ i : Int, -1 ≤ i ∧ i < k ∧ x = .int .i64 i ∧ Aside0 (∃ (a_ : Nat) (L : List Int), permLoop l0 i.toNat a_ L = r ∧ L.length = k ∧ Kd.R (Kd.int .i64) 3 wq w.heap.size (fun _ => True) (.slice (some ⟨g2, 0, none⟩) k cap) L ∧ IsS82 w wq g l0 ((min a_ l0.length : Nat) : Int)) ∧ Aside0 (Below w.heap.size w wq)) (fun x _ _ => (intOf x).toNat)
      case atStart => exact ⟨(k : Int) - 1, by omega, by omega, rfl, HO2, HB⟩
      case round =>
        clear HO2 HB
        obtain ⟨i, hi0, hik, rfl, HO, HB⟩ := hrel
        obtain ⟨a_, L, hp, hL, hR, hI⟩ := HO.out
        clear HO
        by_cases h2 : 0 < i
        · obtain ⟨q, hq⟩ : ∃ q, i.toNat = q + 1 := ⟨i.toNat - 1, by omega⟩
          have hbl := below_at l0 a_ (i + 1) (by omega) hll
          obtain ⟨y, hy⟩ : ∃ y, y = (l0.getD a_ 0 % 256) % (i + 1) := ⟨_, rfl⟩
          have hy0 : 0 ≤ y := by rw [hy]; exact Int.emod_nonneg _ (by omega)
          have hy1 : y < i + 1 := by rw [hy]; exact Int.emod_lt_of_pos _ (by omega)
          rw [← hy] at hbl
          have hpk : permPick l0 a_ (q + 1) = (i - y).toNat := by
            unfold permPick
            rw [show ((q + 1 : Nat) : Int) + 1 = i + 1 from by omega, ← hy]
            omega
          rw [hq, permLoop, hpk] at hp
          have HP := Aside0.mk hp
          have HY := Aside0.mk hy
          have HQ := Aside0.mk hq
          have HBL := Aside0.mk hbl
          have HR := Aside0.mk hR
          have HI := Aside0.mk hI
          have HL := Aside0.mk hL
          clear hp hy hq hbl hR hI hL hpk
          go_wp2_with (go_at_call 52; go_must (refine (quadformmake_Tape_Below.calls g l0 _ (i + 1) y _ w _ HI.out HB.out HBL.out).mono ?_); rintro e w1 ⟨rfl, hi, hb, hk⟩)
          have hR1 : Kd.R (Kd.int .i64) 3 w1 w.heap.size (fun _ => True) (.slice (some ⟨g2, 0, none⟩) L.length cap) L := by
           rw [HL.out]
           exact Kd.R_mono (Kd.R_keep (IsS82.apart HI.out HR.out (by decide)) hk (fun _ h => h.2)) (fun _ _ => trivial)
          have hl := HL.out
          have hci := Kd.R_cell (enc := Value.int .i64) (h1 := fun _ => rfl) 0 hR1 i (by omega) (by omega)
          have hcj := Kd.R_cell (enc := Value.int .i64) (h1 := fun _ => rfl) 0 hR1 (i - y) (by omega) (by omega)
          obtain ⟨hci1, hci2⟩ := hci
          obtain ⟨hcj1, hcj2⟩ := hcj
          have hj0 : 0 ≤ i - y := by omega
          have hjk : i - y < k := by omega
          have HI1 := Aside0.mk hi
          have HB1 := Aside0.mk hb
          have HR1 := Aside0.mk hR1
          clear hi hb hk hR1 HI HB HR
          have hyi : y ≤ i := by omega
          obtain ⟨v', hy'⟩ := cell?_setCell_some (w := w1) (p := ⟨g2, i.toNat, none⟩) (x := .int .i64 (rdOf 0 L (i - y))) hcj1
          clear hl
          go_region
          go_wp2
          have hne : g ≠ g2 := by
            have h1 := IsS82.own_ne HI1.out HR1.out (by decide)
            intro e
            exact h1 (by rw [e]; rfl)
          have hrp := (Kd.R_put (enc := Value.int .i64) (h1 := fun _ => rfl) HR1.out i (rdOf 0 L (i - y))).1
          have hrp2 := (Kd.R_put (enc := Value.int .i64) (h1 := fun _ => rfl) (by rw [List.length_set]; exact hrp) (i - y) (rdOf 0 L i)).1
          rw [show (L.set i.toNat (rdOf 0 L (i - y))).set (i - y).toNat (rdOf 0 L i) = swapI L (q + 1) (i - y).toNat from by rw [← HQ.out]; rfl, List.length_set] at hrp2
          have hsl : (swapI L (q + 1) (i - y).toNat).length = k := by rw [swapI_length]; exact HL.out
          have hrf := Kd.R_drew hrp2
          rw [HL.out] at hrf
          go_roundw
          case rel => exact ⟨i - 1, by omega, by omega, rfl, ⟨a_ + 1, swapI L (q + 1) (i - y).toNat, by rw [show (i - 1).toNat = q from by have := HQ.out; omega]; exact HP.out, hsl, hrf, IsS82.drew (IsS82.far (IsS82.far HI1.out hne _) hne _)⟩, ⟨below_drew1 (below_set (below_set HB1.out hg2) hg2)⟩⟩
          case measure => simp [intOf]; omega
        · have hq : i.toNat = 0 := by omega
          rw [hq, permLoop] at hp
          subst hp
          have HR := Aside0.mk hR
          clear hR hI hq
          go_wp2
          go_ret
          exact ⟨_, rfl, HR.out, HB.out⟩

end Go.Proofs.Ytpkgckccfanchaa.M
