/- Part of the proof of StabchainProducts: merged and pruned by merge2.py. -/
import Derived.Test.YtpkgckccfanchaaBStabchainProducts4
import Derived.Test.YtpkgckccfanchaaBStabchainProducts3
import Derived.Lib.SmallJoins
import Derived.Deep.Matrix
import Derived.OpenShut

namespace Go.Proofs.Ytpkgckccfanchaa.M
open Go.RowKit YtpkgckccfanchaaW.PrintWords YtpkgckccfanchaaW.PrintLast YtpkgckccfanchaaW.PrintMore
open Sims
set_option linter.unusedVariables false
set_option linter.unusedSimpArgs false
set_option maxHeartbeats 4000000 in
set_option maxRecDepth 100000 in
theorem newGroup_region5 {Q : Exit → Act → World → Prop} {w : World} {g B n ma ca : Nat} {mv : Int} {Aa : Option Addr} {xs : List Value} {s1 s2 s3 s4 s5 s6 s8 s10 s11 s12 s13 s14 s15 s16 s17 s18 s19 s20 s21 s22 s23 s24 s25 s26 s27 s28 s29 s30 s31 s32 s33 s34 s35 s36 s37 s38 s39 s40 s41 s42 s43 s44 : Value}
    (h1 : w.cell? ⟨g, 1, none⟩ = some (.slice Aa ma ca)) (hf : w.frozen? ⟨g, 1, none⟩ = false) (hgl : g < w.heap.size) (hB : B ≤ w.heap.size) (hma : ma < 1000000)
    (hown : w.ownsRow B 107 1 (.slice Aa ma ca) ma xs) (hne : (Value.slice Aa ma ca).ownBlock ≠ some g)
    (hn : 0 < n) (hn' : n ≤ 512) (hm0 : 0 ≤ mv) (hm1 : mv < n)
    (hQ : ∀ (w0 w1 w2 : World) (c : LC) (PB : Nat → Prop) (g' cap : Nat) (t21 t22 t23 t24 t25 t26 t27 t28 t29 t30 t31 t32 : Value), Below w.heap.size w w0 → w0.heap.size = w.heap.size → LvAt w1 w0.heap.size PB c (newLv n mv) → Below w0.heap.size w0 w1 → (∀ k, PB k → w0.heap.size ≤ k) → w2.ownsRow B 107 1 (.slice (some ⟨g', 0, none⟩) (ma + 1) cap) (ma + 1) (xs ++ [c.ptr]) → (w1.alloc (.cells #[c.ptr] 107)).grownBy w2 (Value.slice Aa ma ca).ownBlock → ((Value.slice Aa ma ca).ownBlock = some g' ∨ g' = w1.heap.size + 1) → Q .normal { tmps := #[.int .i64 (n : Int), s1, s2, s3, s4, s5, s6, .pointer (some ⟨g, 0, none⟩), s8, .int .i64 mv, s10, s11, s12, s13, s14, s15, s16, s17, s18, s19, s20, t21, t22, t23, t24, t25, t26, t27, t28, t29, t30, t31, t32, s33, s34, s35, s36, s37, s38, s39, s40, s41, s42, s43, s44], defers := [] } (w2.setCell ⟨g, 1, none⟩ (.slice (some ⟨g', 0, none⟩) (ma + 1) cap))) :
    (Code.region 5 #[{ dst := some 21, op := Go.Op.move (Go.Operand.tmp 7), type := 74, pos := "levels.go:97", after := #[], guard := none }, { dst := some 22, op := Go.Op.move (Go.Operand.tmp 7), type := 74, pos := "levels.go:97", after := #[], guard := none }, { dst := some 23, op := Go.Op.nilCheck (Go.Operand.tmp 22), type := 0, pos := "levels.go:97", after := #[{ on := 1, ground := Go.Ground.data }], guard := none }, { dst := some 24, op := Go.Op.fieldAddr 106 (Go.Operand.tmp 23) 1, type := 0, pos := "levels.go:97", after := #[{ on := 2, ground := Go.Ground.data }], guard := none }, { dst := some 25, op := Go.Op.load 104 (Go.Operand.tmp 24), type := 104, pos := "levels.go:97", after := #[{ on := 3, ground := Go.Ground.data }], guard := none }, { dst := some 26, op := Go.Op.move (Go.Operand.tmp 0), type := 3, pos := "levels.go:97", after := #[], guard := none }, { dst := some 27, op := Go.Op.move (Go.Operand.tmp 9), type := 3, pos := "levels.go:97", after := #[], guard := none }, { dst := some 28, op := Go.Op.call { callee := Go.Callee.value (Go.Operand.func 83), args := #[Go.Operand.tmp 26, Go.Operand.tmp 27], argTypes := #[3, 3] }, type := 107, pos := "levels.go:97", after := #[{ on := 5, ground := Go.Ground.data }, { on := 6, ground := Go.Ground.data }], guard := none }, { dst := some 29, op := Go.Op.buildSlice 104 1 #[(0, Go.Operand.tmp 28)], type := 104, pos := "levels.go:97", after := #[{ on := 7, ground := Go.Ground.data }], guard := none }, { dst := some 30, op := Go.Op.call { callee := Go.Callee.builtin Go.Builtin.append, args := #[Go.Operand.tmp 25, Go.Operand.tmp 29], argTypes := #[104, 104] }, type := 104, pos := "levels.go:97", after := #[{ on := 4, ground := Go.Ground.data }, { on := 8, ground := Go.Ground.data }, { on := 7, ground := Go.Ground.chain }], guard := none }, { dst := some 31, op := Go.Op.nilCheck (Go.Operand.tmp 21), type := 0, pos := "levels.go:97", after := #[{ on := 0, ground := Go.Ground.data }, { on := 0, ground := Go.Ground.phase }, { on := 1, ground := Go.Ground.phase }, { on := 2, ground := Go.Ground.phase }, { on := 3, ground := Go.Ground.phase }, { on := 4, ground := Go.Ground.phase }, { on := 5, ground := Go.Ground.phase }, { on := 6, ground := Go.Ground.phase }, { on := 7, ground := Go.Ground.phase }, { on := 8, ground := Go.Ground.phase }, { on := 9, ground := Go.Ground.phase }], guard := none }, { dst := some 32, op := Go.Op.fieldAddr 106 (Go.Operand.tmp 31) 1, type := 0, pos := "levels.go:97", after := #[{ on := 10, ground := Go.Ground.data }, { on := 0, ground := Go.Ground.phase }, { on := 1, ground := Go.Ground.phase }, { on := 2, ground := Go.Ground.phase }, { on := 3, ground := Go.Ground.phase }, { on := 4, ground := Go.Ground.phase }, { on := 5, ground := Go.Ground.phase }, { on := 6, ground := Go.Ground.phase }, { on := 7, ground := Go.Ground.phase }, { on := 8, ground := Go.Ground.phase }, { on := 9, ground := Go.Ground.phase }], guard := none }, { dst := none, op := Go.Op.store 104 (Go.Operand.tmp 32) (Go.Operand.tmp 30), type := 0, pos := "levels.go:97", after := #[{ on := 11, ground := Go.Ground.data }, { on := 9, ground := Go.Ground.data }, { on := 9, ground := Go.Ground.chain }, { on := 0, ground := Go.Ground.phase }, { on := 1, ground := Go.Ground.phase }, { on := 2, ground := Go.Ground.phase }, { on := 3, ground := Go.Ground.phase }, { on := 4, ground := Go.Ground.phase }, { on := 5, ground := Go.Ground.phase }, { on := 6, ground := Go.Ground.phase }, { on := 7, ground := Go.Ground.phase }, { on := 8, ground := Go.Ground.phase }, { on := 9, ground := Go.Ground.phase }], guard := none }] true).wp Try.prog Q { tmps := #[.int .i64 (n : Int), s1, s2, s3, s4, s5, s6, .pointer (some ⟨g, 0, none⟩), s8, .int .i64 mv, s10, s11, s12, s13, s14, s15, s16, s17, s18, s19, s20, s21, s22, s23, s24, s25, s26, s27, s28, s29, s30, s31, s32, s33, s34, s35, s36, s37, s38, s39, s40, s41, s42, s43, s44], defers := [] } w := by
  have HQ := Aside0.mk hQ
  have HO := Aside0.mk hown
  have HNE := Aside0.mk hne
  have HB := Aside0.mk hB
  have HN := Aside0.mk hn
  have HM0 := Aside0.mk hm0
  have HM1 := Aside0.mk hm1
  have HGL := Aside0.mk hgl
  obtain ⟨i0, hi, hz0, hz1, hz2⟩ := info_parts infoLv
  have HI := Aside0.mk hi
  have HZ := Aside0.mk hz0
  have HZ1 := Aside0.mk hz1
  have HZ2 := Aside0.mk hz2
  have HML : Aside0 (ma + 1 ≤ maxLen) := ⟨by unfold maxLen; omega⟩
  have HBY : Aside0 ((ma + 1) * 8 ≤ 140737488355328) := ⟨by omega⟩
  clear hQ hown hne hB hi hz0 hz1 hz2 hn hm0 hm1
  refine wp_region_noPanic ?_
  go_region_law (first | (refine step_append_lies _ rfl (.tmp 25) (.tmp 29) 104 rfl B 107 i0 (.pointer none) 1 8 Try.underlying104 HI.out HZ.out HZ1.out HZ2.out rfl (by decide) _ ma xs rfl (HO1.out.alloc _) ⟨w1.heap.size, 0, none⟩ 1 1 [c.ptr] rfl rfl (World.news_of_block (cs := #[c.ptr]) (t := 107) (fr := (0, 0)) (heap_alloc_new w1 _)) (by simp [Value.oneCell']) (by decide) HML.out HBY.out HBB.out (w1.heap.size + 1) (World.size_alloc _ _) ?_; intro g' cap w2 hown hgr hat hlt; have hx1' := (World.cell?_of_block (a := ⟨g, 1, none⟩) (HC.out w2 hgr)).trans kw1; have hx2' := (World.frozen?_of_block (a := ⟨g, 1, none⟩) (HC.out w2 hgr)).trans kf1; have HO2 := Aside0.mk hown; have HG2 := Aside0.mk hgr; have HT2 := Aside0.mk hat; clear hown hgr hat) | (go_simp; go_at_call 83; refine (newLevel_calls HN.out hn' HM0.out HM1.out).mono ?_; rintro e w1 ⟨c, PB, rfl, hlv, hb1, hpb⟩; have kw1 := pyA hb1 h1; have kw2 := pyA (pzB (Below.refl _ w1) (.cells #[c.ptr] 107)) kw1; have kf1 := (hb1.frozen (p := ⟨g, 1, none⟩) HGL.out).trans hf; have HO1 : Aside0 (w1.ownsRow B 107 1 (.slice Aa ma ca) ma xs) := ⟨own_same HO.out (fun b hb => hb1.block b (own_lt HO.out b hb))⟩; have hgw : g < w1.heap.size := (Nat.lt_of_lt_of_le HGL.out hb1.size); have hsz1 : w.heap.size ≤ w1.heap.size := hb1.size; have HBB : Aside0 (B ≤ (w1.alloc (.cells #[c.ptr] 107)).heap.size) := ⟨by rw [World.size_alloc]; exact Nat.le_succ_of_le (Nat.le_trans HB.out hsz1)⟩; have HC : Aside0 (∀ w2 : World, (w1.alloc (.cells #[c.ptr] 107)).grownBy w2 (Value.slice Aa ma ca).ownBlock → w2.heap[g]? = w1.heap[g]?) := ⟨fun w2 hg => (hg.block g (by rw [World.size_alloc]; exact Nat.lt_succ_of_lt hgw) (fun e => HNE.out e.symm)).trans (heap_alloc_old w1 _ hgw)⟩; have HLV := Aside0.mk hlv; have HB1 := Aside0.mk hb1; clear hgw hsz1; have HPB := Aside0.mk hpb; clear hlv hb1 hpb))
  all_goals (refine NoPanic.normal ?_; exact HQ.out w.drew w1 w2 c PB g' cap _ _ _ _ _ _ _ _ _ _ _ _ (below_drew (Below.refl _ w)) rfl HLV.out HB1.out HPB.out HO2.out HG2.out HT2.out)
theorem insert_ok {n : Nat} (hn : 0 < n) (h11 : n ≤ 11) : ∀ f, InsC n f
  | 0 => by
    intro _ _ _ hk _ _ _ hn' hr _ _ hf _ _
    have := pts_le hn' hr
    omega
  | f + 1 => insert_succ hn h11 (insert_ok hn h11 f)
theorem pv_of_C {w : World} {A : Option Addr} {p : List Int} {c : Nat} (h : Kd.C (Kd.int .i64) w A p.length p) (hc : p.length ≤ c) : PV w (fun _ => True) (.slice A p.length c) p := by
  refine ⟨A, c, rfl, hc, fun W' hW => ?_⟩
  have hr := Kd.reads_of_C (enc := Value.int .i64) (d := (0 : Int)) (h1 := fun _ => rfl) h
  refine Kd.C_of_reads (enc := Value.int .i64) (d := (0 : Int)) (h1 := fun _ => rfl) ⟨hr.1, hr.2.1, fun hn => ?_⟩
  obtain ⟨ad, e1, hcl⟩ := hr.2.2 hn
  refine ⟨ad, e1, fun j hj => ?_⟩
  rw [← hcl j hj]
  exact cell_heap (hW _ trivial (World.block_lt_of_cell? w _ (hcl j hj)))
theorem rows_at {w : World} {A : Option Addr} {gens : List (List Int)} (h : Kd.C (Kd.slice 3 (Kd.int .i64)) w A gens.length gens) {j : Nat} {p : List Int} (hj : gens[j]? = some p) :
    ∃ ad A' c, A = some ad ∧ w.cell? (ad.add j) = some (.slice A' p.length c) ∧ PV w (fun _ => True) (.slice A' p.length c) p := by
  have hlt := (List.getElem?_eq_some_iff.1 hj).1
  obtain ⟨ad, e, hc⟩ := h.2.2 (by omega)
  obtain ⟨cs, hcl, ⟨A', c, rfl, hl, hC⟩, hcell⟩ := hc j p hj
  refine ⟨ad, A', c, e, ?_, pv_of_C hC hl⟩
  have := hcell 0 _ rfl
  have e2 : j * (Kd.slice 3 (Kd.int .i64)).sz + 0 = j := by show j * 1 + 0 = j; omega
  rwa [e2] at this
set_option maxHeartbeats 4000000 in
set_option maxRecDepth 100000 in
theorem newGroup_calls {n : Nat} {w : World} {A1 A2 : Option Addr} {c1 c2 : Nat} {gens : List (List Int)} {base : List Int} {lsF : List Lv} (hn : 0 < n) (h11 : n ≤ 11) (h1 : Kd.C (Kd.slice 3 (Kd.int .i64)) w A1 gens.length gens) (h2 : Kd.C (Kd.int .i64) w A2 base.length base)
    (hg : ∀ g ∈ gens, IsP n g) (hb : ∀ x ∈ base, 0 ≤ x ∧ x < n) (hbn : base.Nodup) (hlen : gens.length < 1000000) (hF : groupF n (n + 1) gens base = some lsF) :
    Calls Try.prog 48 #[.int .i64 (n : Int), .slice A1 gens.length c1, .slice A2 base.length c2] w fun e w' => ∃ g av cs PB, e = .returned (.pointer (some ⟨g, 0, none⟩)) ∧ GrAt w' w.heap.size PB g n av cs lsF ∧ PC n [] lsF ∧ Below w.heap.size w w' := by
  have hbl : base.length ≤ n := pts_le hbn hb
  have HN := Aside0.mk hn
  have H1 := Aside0.mk h1
  have H2 := Aside0.mk h2
  have HG := Aside0.mk hg
  have HB := Aside0.mk hb
  have HBN := Aside0.mk hbn
  have HF := Aside0.mk hF
  have HBP := Aside0.mk (base_pc base [] hb hbn (fun x _ h => by simp at h)).1
  obtain ⟨mb, hmb⟩ : ∃ mb, base.length = mb := ⟨_, rfl⟩
  obtain ⟨mg, hmg⟩ : ∃ mg, gens.length = mg := ⟨_, rfl⟩
  rw [hmb, hmg]
  rw [hmb] at hbl
  rw [hmg] at hlen
  have HMB := Aside0.mk hmb
  have HMG := Aside0.mk hmg
  clear hn h1 h2 hg hb hbn hF hmb hmg
  go_enter Try.func48, Try.ntmps48
  go_wp2_with (fail)
  obtain ⟨w0, hw0⟩ : ∃ w0, w0 = w.alloc (.cells #[.int .i64 (n : Int), .slice none 0 0] 106) := ⟨_, rfl⟩
  obtain ⟨g, hgd⟩ : ∃ g, g = w.heap.size := ⟨_, rfl⟩
  rw [← hw0, ← hgd]
  have HBW0 : Aside0 (Below w.heap.size w w0) := ⟨by rw [hw0]; exact pzB (Below.refl _ _) _⟩
  have HG0 : Aside0 (∃ av PB cs, GrAt w0 w.heap.size PB g n av cs ((base.take 0).map (newLv n)) ∧ (∀ b, PB b → b < w0.heap.size)) := ⟨⟨.slice none 0 0, fun _ => False, [], ⟨by rw [hgd, hw0]; exact heap_alloc_new w _, ⟨rfl, .inl ⟨rfl, rfl⟩⟩, rfl, fun j c l h => by simp at h, List.Pairwise.nil, by rw [hgd]; exact Nat.le_refl _, ⟨id, fun _ _ => id⟩⟩, fun _ h => h.elim⟩⟩
  clear hw0 hgd
  go_loopw [17] (fun i wr => ∃ j : Nat, i = .int .i64 j ∧ j ≤ mb ∧ Aside0 (∃ av PB cs, GrAt wr w.heap.size PB g n av cs ((base.take j).map (newLv n)) ∧ (∀ b, PB b → b < wr.heap.size)) ∧ Aside0 (Below w.heap.size w wr)) (fun i _ => mb - (intOf i).toNat)
  case atStart => exact ⟨0, rfl, by omega, HG0, HBW0⟩
  case round =>
    clear HG0 HBW0
    obtain ⟨j, rfl, hj, HGJ, HBW⟩ := hrel
    by_cases hlt : j < mb
    · obtain ⟨x, hx⟩ : ∃ x, base[j]? = some x := ⟨base[j]'(by rw [HMB.out]; exact hlt), List.getElem?_eq_getElem _⟩
      obtain ⟨ad, rfl⟩ := PV.addr H2.out (by rw [HMB.out]; omega)
      have hcx : w.cell? (ad.add j) = some (.int .i64 x) := PV.cells H2.out j _ (by simp [nums, hx])
      have hcr := (HBW.out.cell (World.block_lt_of_cell? w _ hcx)).trans hcx
      have hxr := HB.out x (List.mem_of_getElem? hx)
      obtain ⟨av, PB, cs, hG, hbd⟩ := HGJ.out
      obtain ⟨Aa, ca, rfl⟩ := own_slice hG.arr
      have hc1 : wr.cell? ⟨g, 1, none⟩ = some (.slice Aa cs.length ca) := by simp [World.cell?, hG.cells]
      have hf1 : wr.frozen? ⟨g, 1, none⟩ = false := by simp [World.frozen?, hG.cells]
      have hgl := lt_of_some hG.cells
      have hB2 : w.heap.size ≤ wr.heap.size := HBW.out.size
      have hlt2 : (j : Int) < (mb : Int) := by omega
      have hma : cs.length < 1000000 := by
        have := hG.len
        rw [this, List.length_map, List.length_take]
        omega
      have HX := Aside0.mk hx
      have HXR := Aside0.mk hxr
      have HGG := Aside0.mk hG
      have HBD := Aside0.mk hbd
      clear hx hcx hxr hG hbd HGJ
      go_wp2_with (fail)
      refine newGroup_region5 hc1 hf1 hgl hB2 hma HGG.out.arr HGG.out.av_ne HN.out (by omega) HXR.out.1 HXR.out.2 ?_
      intro w0' w4 w5 c PBc g' cap t21 t22 t23 t24 t25 t26 t27 t28 t29 t30 t31 t32 k1 k2 k3 k4 k5 k6 k7 k8
      obtain ⟨PB2, p1, p2, p3, p4, p5⟩ := HGG.out.push HBD.out hB2 k1 k2 k3 k4 k5 k6 k7 k8
      obtain ⟨wz, hwz⟩ : ∃ wz, wz = w5.setCell ⟨g, 1, none⟩ (.slice (some ⟨g', 0, none⟩) (cs.length + 1) cap) := ⟨_, rfl⟩
      rw [← hwz] at p1 p2 p5 ⊢
      have e1 : (base.take (j + 1)).map (newLv n) = (base.take j).map (newLv n) ++ [newLv n x] := by
        obtain ⟨h3, h4⟩ := List.getElem?_eq_some_iff.1 HX.out
        rw [List.take_succ_eq_append_getElem h3, h4, List.map_append]
        rfl
      have HP1 : Aside0 (∃ av PB cs, GrAt wz w.heap.size PB g n av cs ((base.take (j + 1)).map (newLv n)) ∧ (∀ b, PB b → b < wz.heap.size)) := ⟨⟨_, _, _, by rw [e1]; exact p1, p2⟩⟩
      have HP5 : Aside0 (Below w.heap.size w wz) := ⟨HBW.out.trans p5⟩
      clear k1 k2 k3 k4 k5 k6 k7 k8 p1 p2 p3 p4 p5 e1 hwz hcr hc1 hf1 hgl hB2 hma hlt2
      go_wp2_with (fail)
      go_roundw
      case rel => exact ⟨j + 1, by go_num, by omega, HP1, HP5⟩
      case measure => simp [intOf]; omega
    · obtain rfl : j = mb := by omega
      have HS0 : Aside0 (∃ av PB cs ls, GrAt wr w.heap.size PB g n av cs ls ∧ (∀ b, PB b → b < wr.heap.size) ∧ PC n [] ls ∧ GenB ls ∧ (gens.drop 0).foldlM (fun ls p => insF n (n + 1) ls p) ls = some lsF) := ⟨by
        obtain ⟨av, PB, cs, h1, h2⟩ := HGJ.out
        have e1 : base.take j = base := List.take_of_length_le (by rw [HMB.out]; exact Nat.le_refl _)
        rw [e1] at h1
        exact ⟨av, PB, cs, _, h1, h2, HBP.out, (base_sz base).2, HF.out⟩⟩
      clear HGJ hlt hj
      go_wp2_with (fail)
      go_loopw [36] (fun i wr => ∃ j : Nat, i = .int .i64 j ∧ j ≤ mg ∧ Aside0 (∃ av PB cs ls, GrAt wr w.heap.size PB g n av cs ls ∧ (∀ b, PB b → b < wr.heap.size) ∧ PC n [] ls ∧ GenB ls ∧ (gens.drop j).foldlM (fun ls p => insF n (n + 1) ls p) ls = some lsF) ∧ Aside0 (Below w.heap.size w wr)) (fun i _ => mg - (intOf i).toNat)
      case atStart => exact ⟨0, rfl, by omega, HS0, HBW⟩
      case round =>
        clear HS0 HBW
        obtain ⟨i, rfl, hi, HS, HBW⟩ := hrel
        by_cases hlt : i < mg
        · obtain ⟨p, hp⟩ : ∃ p, gens[i]? = some p := ⟨gens[i]'(by rw [HMG.out]; exact hlt), List.getElem?_eq_getElem _⟩
          obtain ⟨ad, A', c, rfl, hcp, hpv⟩ := rows_at H1.out hp
          have hcr := (HBW.out.cell (World.block_lt_of_cell? w _ hcp)).trans hcp
          have hip := HG.out p (List.mem_of_getElem? hp)
          obtain ⟨av, PB, cs, ls, hG, hbd, hpc, hgb, hfold⟩ := HS.out
          have hdrop : gens.drop i = p :: gens.drop (i + 1) := by
            obtain ⟨h3, h4⟩ := List.getElem?_eq_some_iff.1 hp
            rw [List.drop_eq_getElem_cons h3, h4]
          rw [hdrop, List.foldlM_cons] at hfold
          obtain ⟨ls1, hins, hfold1⟩ := Option.bind_eq_some_iff.1 hfold
          obtain ⟨ls1', e1, q1, _, _, q2⟩ := ins_ok (n + 1) [] List.nodup_nil (fun x hx => by simp at hx) (by simp) ls p hpc hip (fun x hx => by simp at hx) hgb
          have e2 : ls1' = ls1 := Option.some.inj (e1.symm.trans hins)
          rw [e2] at q1 q2
          have hcall : Calls Try.prog 84 #[.pointer (some ⟨g, 0, none⟩), .int .i64 0, .slice A' p.length c] wr (fun e w' => e = .returned (.tuple #[]) ∧ Left wr w' w.heap.size PB g n (cs.take 0) (ls.take 0 ++ ls1)) := insert_ok HN.out h11 (n + 1) hG hbd HBW.out.size (k := 0) (pts := []) rfl (Nat.zero_le _) hpc hgb List.nodup_nil (fun x hx => by simp at hx) hip (fun x hx => by simp at hx) (by omega) (PV.below hpv (Below.mk HBW.out.os HBW.out.tape HBW.out.output HBW.out.size HBW.out.block)) hins
          have hlt2 : (i : Int) < (mg : Int) := by omega
          have HC := Aside0.mk hcall
          have HPC1 := Aside0.mk q1
          have HGB1 := Aside0.mk q2
          have HFO := Aside0.mk hfold1
          clear hp hcp hpv hip hG hbd hpc hgb hfold hdrop hins hfold1 e1 e2 q1 q2 hcall HS
          go_wp2_with (go_at_call 84; (with_reducible refine HC.out.mono ?_); rintro e w1 ⟨rfl, av', PB', csx, r1, r2, r3, r4, r5⟩; have HS1 : Aside0 (∃ av PB cs ls, GrAt w1 w.heap.size PB g n av cs ls ∧ (∀ b, PB b → b < w1.heap.size) ∧ PC n [] ls ∧ GenB ls ∧ (gens.drop (i + 1)).foldlM (fun ls p => insF n (n + 1) ls p) ls = some lsF) := ⟨⟨av', PB', _, _, r1, r2, HPC1.out, HGB1.out, HFO.out⟩⟩; have HBW1 : Aside0 (Below w.heap.size w w1) := ⟨HBW.out.trans r5⟩; clear r1 r2 r3 r4 r5)
          go_roundw
          case rel => exact ⟨i + 1, by go_num, by omega, HS1, HBW1⟩
          case measure => simp [intOf]; omega
        · obtain rfl : i = mg := by omega
          clear hlt hi
          go_wp2_with (fail)
          go_ret
          obtain ⟨av, PB, cs, ls, hG, hbd, hpc, hgb, hfold⟩ := HS.out
          rw [List.drop_eq_nil_of_le (by rw [HMG.out]; exact Nat.le_refl _)] at hfold
          have e1 : ls = lsF := Option.some.inj hfold
          rw [e1] at hG hpc
          exact ⟨g, av, cs, PB, rfl, hG, hpc, HBW.out⟩
end Go.Proofs.Ytpkgckccfanchaa.M

namespace Go.Proofs.Ytpkgckccfanchaa.M
open Go.RowKit YtpkgckccfanchaaW.PrintWords YtpkgckccfanchaaW.PrintLast YtpkgckccfanchaaW.PrintMore
attribute [local go_sem] pzW pzX pzY pzZ pzS pzT pzU pzV
set_option linter.unusedVariables false
set_option linter.unusedSimpArgs false
def qm_Perms_Degree.f (a0_0 : Int) (l0_1 : List (List Int)) (a0_2 : Bool) (a1 : Int) : Option (Int) := if a1 = 0 then (none) else (some (wrap64 (1 + (Int.tmod (wrap64 (a0_0)) a1))))
set_option maxHeartbeats 8000000 in
set_option maxRecDepth 100000 in
theorem qm_Perms_Degree.calls (a0_0 : Int) (A0_1 : Option Addr) (c0_1 : Nat) (l0_1 : List (List Int)) (a0_2 : Bool) (a1 : Int) (r : Int) (w : World) (hr0_1 : Kd.C (Kd.slice 140 (Kd.int .i8)) w A0_1 l0_1.length l0_1) (hc0_1 : l0_1.length ≤ c0_1) (h : qm_Perms_Degree.f a0_0 l0_1 a0_2 a1 = some r) :
    Calls Try.prog 18 #[.agg #[.int .u8 a0_0, .slice A0_1 l0_1.length c0_1, .bool a0_2], .int .i64 a1] w fun e w' => e = .returned (.int .i64 r) ∧ Below w.heap.size w w' := by
  have hu35 := Try.underlying35; have HR0_1 := Aside0.mk hr0_1; have HC0_1 := Aside0.mk hc0_1; clear hr0_1 hc0_1; have HB := Aside0.mk (Below.refl w.heap.size w); have H : (if a1 = 0 then (none) else (some (wrap64 (1 + (Int.tmod (wrap64 (a0_0)) a1))))) = some r := h; clear h
  by_cases c3 : a1 = 0
  · rw [if_pos c3] at H
    exact absurd H (by simp)
  · rw [if_neg c3] at H
    have c3b0 : (a1 == 0) = false := beq_eq_false_iff_ne.mpr c3; have c3b1 : (a1 != 0) = true := bne_iff_ne.mpr c3; obtain rfl := Option.some.inj H
    go_enter Try.func18, Try.ntmps18
    go_wp2_with (first | ((with_reducible refine pzQ (N := 2) rfl ?_); refine pzR ?hg (N := 2) ?hd (cs := #[.int .u8 a0_0, .slice A0_1 l0_1.length c0_1, .bool a0_2]) (t := 35) ?hr ?_; (case hd => rfl); (case hg => rfl); (case hr => first | (go_simp; done) | (go_simp; rfl)); intro gb265 hg w4 hbox hb; have n0_ := Aside0.mk (pzL (by repeat (first | (with_reducible first | exact HB.out | apply pzB | apply pzA | apply pzC) | exact HB.out)) hb); have n1_ := Aside0.mk (hbox); have n2_ := Aside0.mk ((by rw [hg]; exact (pzJ (by repeat (first | (with_reducible first | exact HB.out | apply pzB | apply pzA | apply pzC) | exact HB.out))) : w.heap.size ≤ gb265)); have n3_ := Aside0.mk ((by rw [hg]; exact (pzJ (by repeat (first | (with_reducible first | exact HB.out | apply pzB | apply pzA | apply pzC) | exact HB.out))) : w.heap.size ≤ gb265)); clear HB; have HB := n0_; have BK265 := n1_; have GW265 := n2_; have GE265 := n3_; clear n0_ n1_ n2_ n3_; clear hb hbox hg; have hcz5_0 : w4.cell? ⟨gb265, 0, none⟩ = some (.int .u8 a0_0) := (pzH BK265.out 0).trans rfl; have hcz5_1 : w4.cell? ⟨gb265, 1, none⟩ = some (.slice A0_1 l0_1.length c0_1) := (pzH BK265.out 1).trans rfl; have hcz5_2 : w4.cell? ⟨gb265, 2, none⟩ = some (.bool a0_2) := (pzH BK265.out 2).trans rfl; have hfz5_0 := pzK BK265.out 0; have hfz5_1 := pzK BK265.out 1; have hfz5_2 := pzK BK265.out 2))
    go_ret
    exact ⟨by first | rfl | (simp [pzN, pzM] <;> rfl) | (simp [*, pzN, pzM] <;> rfl), by repeat (first | (with_reducible first | exact HB.out | apply pzB | apply pzA | apply pzC | refine pzD ?_ GE265.out) | exact HB.out)⟩
end Go.Proofs.Ytpkgckccfanchaa.M

namespace Go.Proofs.Ytpkgckccfanchaa.M
open Go.RowKit YtpkgckccfanchaaW.PrintWords YtpkgckccfanchaaW.PrintLast YtpkgckccfanchaaW.PrintMore
attribute [local go_sem] pzW pzX pzY pzZ pzS pzT pzU pzV
set_option linter.unusedVariables false
set_option linter.unusedSimpArgs false
def IsS82 (w0 W : World) (g : Nat) (f0 : List Int) (f1 : Int) : Prop := ∃ A0 c0, W.heap[g]? = some (.cells #[.slice A0 f0.length c0, .int .i64 f1] 82 (0, 0)) ∧ w0.heap.size ≤ g ∧ Kd.C (Kd.int .i8) w0 A0 f0.length f0
theorem IsS82.grown {w0 W : World} {g : Nat} {f0 : List Int} {f1 : Int} {W1 : World} {row : Option Nat} (h : IsS82 w0 W g f0 f1) (hw : W.grownBy W1 row) (hne : some g ≠ row) : IsS82 w0 W1 g f0 f1 := by
  obtain ⟨A0, c0, hb, hg, hr0⟩ := h; exact ⟨A0, c0, blk_grown hb hw hne, hg, hr0⟩
theorem IsS82.kept {w0 W : World} {g : Nat} {f0 : List Int} {f1 : Int} {W1 : World} {S : Nat → Prop} (h : IsS82 w0 W g f0 f1) (hk : Kept W W1 S) (hne : ¬ S g) : IsS82 w0 W1 g f0 f1 := by
  obtain ⟨A0, c0, hb, hg, hr0⟩ := h; exact ⟨A0, c0, blk_kept hb hk hne, hg, hr0⟩
theorem IsS82.below {w0 W : World} {g : Nat} {f0 : List Int} {f1 : Int} {W1 : World} (h : IsS82 w0 W g f0 f1) (hw : Below W.heap.size W W1) : IsS82 w0 W1 g f0 f1 := h.grown (grown_of_below hw none) (by simp)
theorem IsS82.alloc {w0 W : World} {g : Nat} {f0 : List Int} {f1 : Int} (h : IsS82 w0 W g f0 f1) (o : Obj) : IsS82 w0 (W.alloc o) g f0 f1 := h.below (pzB (Below.refl _ _) o)
theorem IsS82.drewN {w0 W : World} {g : Nat} {f0 : List Int} {f1 : Int} (h : IsS82 w0 W g f0 f1) (m : Nat) : IsS82 w0 (W.drewN m) g f0 f1 := h
theorem IsS82.drew {w0 W : World} {g : Nat} {f0 : List Int} {f1 : Int} (h : IsS82 w0 W g f0 f1) : IsS82 w0 W.drew g f0 f1 := h
theorem IsS82.at_ {w0 W : World} {g : Nat} {f0 : List Int} {f1 : Int} {w' : World} {m : Nat} (hq : W.drewN m = w') (h : IsS82 w0 W g f0 f1) : IsS82 w0 w' g f0 f1 := by subst hq; exact IsS82.drewN h m
theorem IsS82.apart {w0 W : World} {g : Nat} {f0 : List Int} {f1 : Int} {α : Type} {d : Kd α} {e : Nat} {base : Nat} {ok : Nat → Prop} {v : Value} {xs : List α} (h : IsS82 w0 W g f0 f1) (ho : d.R e W base ok v xs) (ht : ∀ q, q ∈ e :: d.E → q ≠ 82) : d.R e W base (fun k => ok k ∧ k ≠ g) v xs := by
  obtain ⟨A0, c0, hb, hg, hr0⟩ := h; exact Kd.R_types ho hb ht
theorem IsS82.own_ne {w0 W : World} {g : Nat} {f0 : List Int} {f1 : Int} {α : Type} {d : Kd α} {e : Nat} {base : Nat} {ok : Nat → Prop} {v : Value} {xs : List α} (h : IsS82 w0 W g f0 f1) (ho : d.R e W base ok v xs) (ht : e ≠ 82) : some g ≠ v.ownBlock := by
  obtain ⟨A0, c0, hb, hg, hr0⟩ := h; exact Kd.R_ne ho hb ht
theorem IsS82.lt {w0 W : World} {g : Nat} {f0 : List Int} {f1 : Int} (h : IsS82 w0 W g f0 f1) : g < W.heap.size := by
  obtain ⟨A0, c0, hb, hg, hr0⟩ := h; exact pzO hb
theorem IsS82.ge {w0 W : World} {g : Nat} {f0 : List Int} {f1 : Int} (h : IsS82 w0 W g f0 f1) : w0.heap.size ≤ g := by
  obtain ⟨A0, c0, hb, hg, hr0⟩ := h; exact hg
theorem IsS82.far {w0 W : World} {g : Nat} {f0 : List Int} {f1 : Int} {p : Addr} (h : IsS82 w0 W g f0 f1) (hne : g ≠ p.block) (u : Value) : IsS82 w0 (W.setCell p u) g f0 f1 := by
  obtain ⟨A0, c0, hb, hg, hr0⟩ := h; exact ⟨A0, c0, pyF hb hne u, hg, hr0⟩
theorem cellS82_0 {W : World} {g : Nat} {A0 : Option Addr} {c0 : Nat} {f0 : List Int} {f1 : Int} (h : W.heap[g]? = some (.cells #[.slice A0 f0.length c0, .int .i64 f1] 82 (0, 0))) : W.cell? ⟨g, 0, none⟩ = some (.slice A0 f0.length c0) := (pzH h 0).trans rfl
theorem cellS82_1 {W : World} {g : Nat} {A0 : Option Addr} {c0 : Nat} {f0 : List Int} {f1 : Int} (h : W.heap[g]? = some (.cells #[.slice A0 f0.length c0, .int .i64 f1] 82 (0, 0))) : W.cell? ⟨g, 1, none⟩ = some (.int .i64 f1) := (pzH h 1).trans rfl
theorem IsS82.set_1 {w0 W : World} {g : Nat} {f0 : List Int} {f1 : Int} (h : IsS82 w0 W g f0 f1) (x : Int) : IsS82 w0 (W.setCell ⟨g, 1, none⟩ (.int .i64 x)) g f0 x := by
  obtain ⟨A0, c0, hb, hg, hr0⟩ := h; exact ⟨A0, c0, by simpa using blk_set hb 1 (.int .i64 x), hg, hr0⟩
theorem IsS82.new (w0 W : World) (A0 : Option Addr) (c0 : Nat) (f0 : List Int) (f1 : Int) (hB : Below w0.heap.size w0 W) (hr0 : Kd.C (Kd.int .i8) w0 A0 f0.length f0) : IsS82 w0 (W.alloc (.cells #[.slice A0 f0.length c0, .int .i64 f1] 82)) W.heap.size f0 f1 := ⟨A0, c0, by simpa using heap_alloc_new W _, hB.size, hr0⟩
def qm_Tape_Next.f (s0_0 : List Int) (s0_1 : Int) : Option (Int × Int) := if s0_1 ≥ (s0_0.length : Int) then (some (0, s0_1)) else (if 0 ≤ (wrap64 ((wrap64 (s0_1 + 1)) - 1)) then (if (wrap64 ((wrap64 (s0_1 + 1)) - 1)) < (s0_0.length : Int) then (some (wrap64 (rd s0_0 (wrap64 ((wrap64 (s0_1 + 1)) - 1))), wrap64 (s0_1 + 1))) else (none)) else (none))
set_option maxHeartbeats 8000000 in
set_option maxRecDepth 100000 in
theorem qm_Tape_Next.calls (g : Nat) (s0_0 : List Int) (s0_1 : Int) (r1 : Int) (r2 : Int) (w0 w : World) (hI : IsS82 w0 w g s0_0 s0_1) (hB : Below w0.heap.size w0 w) (h : qm_Tape_Next.f s0_0 s0_1 = some (r1, r2)) :
    Calls Try.prog 85 #[.pointer (some ⟨g, 0, none⟩)] w fun e w' => e = .returned (.int .i64 r1) ∧ IsS82 w0 w' g s0_0 r2 ∧ Below w0.heap.size w0 w' ∧ KeepBut w w' g none := by
  have HI0 := Aside0.mk hI; have HK := Aside0.mk (KeepBut.refl w g none); have HL := Aside0.mk hB.size; clear hI; have HW0 := Aside0.mk hB.size; have HB := Aside0.mk hB; clear hB; have H : (if s0_1 ≥ (s0_0.length : Int) then (some (0, s0_1)) else (if 0 ≤ (wrap64 ((wrap64 (s0_1 + 1)) - 1)) then (if (wrap64 ((wrap64 (s0_1 + 1)) - 1)) < (s0_0.length : Int) then (some (wrap64 (rd s0_0 (wrap64 ((wrap64 (s0_1 + 1)) - 1))), wrap64 (s0_1 + 1))) else (none)) else (none))) = some (r1, r2) := h; clear h
  by_cases c2 : s0_1 ≥ (s0_0.length : Int)
  · rw [if_pos c2] at H
    have c2b0 : decide ((s0_0.length : Int) ≤ s0_1) = true := decide_eq_true c2; clear c2
    simp only [Option.some.injEq, Prod.mk.injEq] at H
    obtain ⟨rfl, rfl⟩ := H; obtain ⟨ASz3_0, cSz3_0, HGz3, hgz3, HSz3_0⟩ := HI0.out; have hcz3_0 := cellS82_0 HGz3; have hcz3_1 := cellS82_1 HGz3; have hfz3_1 := pzK HGz3 1; clear HGz3 hgz3
    go_enter Try.func85, Try.ntmps85
    go_wp2
    repeat (go_quiet (fail); try go_wp2)
    go_ret
    exact ⟨by first | rfl | (simp [pzN, pzM] <;> rfl) | (simp [*, pzN, pzM] <;> rfl), by repeat (first | (with_reducible first | exact HI0.out | apply IsS82.alloc | apply IsS82.drewN | apply IsS82.drew | apply IsS82.set_1) | exact HI0.out), by repeat (first | (with_reducible first | exact HB.out | apply pzB | apply pzA | apply pzC | refine pzD ?_ (IsS82.ge HI0.out)) | exact HB.out), by repeat (first | (with_reducible first | exact HK.out | apply KeepBut.set_ | apply keep_drewN | apply keep_drew | apply keep_alloc) | exact HK.out)⟩
  · rw [if_neg c2] at H
    have c2b0 : decide ((s0_0.length : Int) ≤ s0_1) = false := decide_eq_false c2; clear c2
    obtain ⟨ji4, hji4⟩ : ∃ j_ : Int, (wrap64 ((wrap64 (s0_1 + 1)) - 1)) = j_ := ⟨_, rfl⟩
    replace H : (if 0 ≤ (ji4) then (if (ji4) < (s0_0.length : Int) then (some (wrap64 (rd s0_0 (ji4)), wrap64 (s0_1 + 1))) else (none)) else (none)) = some (r1, r2) := by first | (rw [hji4] at H; exact H) | (simp only [hji4] at H ⊢; exact H)
    have hji4w : (IntKind.i64.wrap ((wrap64 (s0_1 + 1)) - 1)) = ji4 := (i64_w _).trans hji4
    by_cases c5 : 0 ≤ (ji4)
    · rw [if_pos c5] at H
      have c5b0 : decide (0 ≤ (ji4)) = true := decide_eq_true c5; clear c5
      by_cases c6 : (ji4) < (s0_0.length : Int)
      · rw [if_pos c6] at H
        have c6b0 : decide ((ji4) < (s0_0.length : Int)) = true := decide_eq_true c6; clear c6
        simp only [Option.some.injEq, Prod.mk.injEq] at H
        obtain ⟨rfl, rfl⟩ := H; obtain ⟨ASz7_0, cSz7_0, HGz7, hgz7, HSz7_0⟩ := HI0.out; have hcz7_0 := cellS82_0 HGz7; have hcz7_1 := cellS82_1 HGz7; have hfz7_1 := pzK HGz7 1; clear HGz7 hgz7; have p266 : 0 ≤ ((ji4) : Int) := of_decide_eq_true (by first | (with_reducible assumption) | assumption); have q266 : (ji4) < (s0_0.length : Int) := of_decide_eq_true (by first | (with_reducible assumption) | assumption); obtain ⟨ad266, e266, hx266_0⟩ := Kd.at_int HSz7_0 (ji4) p266 q266; cases e266; have hn266_0 : ad266.block ≠ g := Nat.ne_of_lt (Nat.lt_of_lt_of_le (by have := World.block_lt_of_cell? _ _ hx266_0; first | rwa [add_block] at this | exact this) (IsS82.ge HI0.out)); replace hx266_0 := pyA HB.out hx266_0; replace hx266_0 := (pyE (p := ⟨g, 1, none⟩) (by first | (rw [add_block]; exact hn266_0) | (show (Addr.add _ _).block ≠ _; rw [add_block]; exact hn266_0) | exact hn266_0) (.int .i64 (wrap64 (s0_1 + 1)))).trans hx266_0
        (try have hy266_0 := fun (n_ : Nat) => (show (((w.drewN n_).setCell ⟨g, 1, none⟩ (.int .i64 (wrap64 (s0_1 + 1))))).cell? _ = some _ from hx266_0))
        clear hn266_0; replace p266 := eq_true p266; replace q266 := eq_true q266
        go_enter Try.func85, Try.ntmps85
        go_wp2
        repeat (go_quiet (fail); try go_wp2)
        go_ret
        exact ⟨by first | rfl | (simp [pzN, pzM] <;> rfl) | (simp only [← hji4]; first | rfl | (simp [pzN, pzM] <;> rfl)) | (simp [*, pzN, pzM] <;> rfl), by repeat (first | (with_reducible first | exact HI0.out | apply IsS82.alloc | apply IsS82.drewN | apply IsS82.drew | apply IsS82.set_1) | exact HI0.out), by repeat (first | (with_reducible first | exact HB.out | apply pzB | apply pzA | apply pzC | refine pzD ?_ (IsS82.ge HI0.out)) | exact HB.out), by repeat (first | (with_reducible first | exact HK.out | apply KeepBut.set_ | apply keep_drewN | apply keep_drew | apply keep_alloc) | exact HK.out)⟩
      · rw [if_neg c6] at H
        exact absurd H (by simp)
    · rw [if_neg c5] at H
      exact absurd H (by simp)
end Go.Proofs.Ytpkgckccfanchaa.M

namespace Go.Proofs.Ytpkgckccfanchaa.M
open Go.RowKit YtpkgckccfanchaaW.PrintWords YtpkgckccfanchaaW.PrintLast YtpkgckccfanchaaW.PrintMore
attribute [local go_sem] pzW pzX pzY pzZ pzS pzT pzU pzV
set_option linter.unusedVariables false
set_option linter.unusedSimpArgs false
def qm_Tape_Below.f (s0_0 : List Int) (s0_1 : Int) (a1 : Int) : Option (Int × Int) := (qm_Tape_Next.f s0_0 s0_1).bind fun bt267 => (if a1 = 0 then (none) else (some (((bt267.1) % 256) % a1, bt267.2)))
set_option maxHeartbeats 8000000 in
set_option maxRecDepth 100000 in
theorem qm_Tape_Below.calls (g : Nat) (s0_0 : List Int) (s0_1 : Int) (a1 : Int) (r1 : Int) (r2 : Int) (w0 w : World) (hI : IsS82 w0 w g s0_0 s0_1) (hB : Below w0.heap.size w0 w) (h : qm_Tape_Below.f s0_0 s0_1 a1 = some (r1, r2)) :
    Calls Try.prog 52 #[.pointer (some ⟨g, 0, none⟩), .int .i64 a1] w fun e w' => e = .returned (.int .i64 r1) ∧ IsS82 w0 w' g s0_0 r2 ∧ Below w0.heap.size w0 w' ∧ KeepBut w w' g none := by
  have HI0 := Aside0.mk hI; have HK := Aside0.mk (KeepBut.refl w g none); have HL := Aside0.mk hB.size; clear hI; have HW0 := Aside0.mk hB.size; have HB := Aside0.mk hB; clear hB; have H : ((qm_Tape_Next.f s0_0 s0_1).bind fun bt267 => (if a1 = 0 then (none) else (some (((bt267.1) % 256) % a1, bt267.2)))) = some (r1, r2) := h; clear h; replace H := Option.bind_eq_some_iff.mp H; obtain ⟨⟨t267, t268⟩, A30, H⟩ := H; replace H : (if a1 = 0 then (none) else (some (((t267) % 256) % a1, t268))) = some (r1, r2) := H; have A3 := Aside0.mk A30; clear A30
  by_cases c4 : a1 = 0
  · rw [if_pos c4] at H
    exact absurd H (by simp)
  · rw [if_neg c4] at H
    have c4b0 : (a1 == 0) = false := beq_eq_false_iff_ne.mpr c4; have c4b1 : (a1 != 0) = true := bne_iff_ne.mpr c4
    simp only [Option.some.injEq, Prod.mk.injEq] at H
    obtain ⟨rfl, rfl⟩ := H
    go_enter Try.func52, Try.ntmps52
    go_wp2_with (first | ((with_reducible refine pzP (f := 85) rfl ?_); refine pyH (some 6) rfl rfl Try.func85 (by kernel_rfl) rfl #[.pointer (some ⟨g, 0, none⟩)] rfl (by (try simp only [List.map_toArray, List.map_cons, List.map_nil]); first | done | rfl | (simp only [List.length_drop, List.length_take]; rfl)) ?_; (with_reducible refine (qm_Tape_Next.calls g s0_0 s0_1 t267 t268 w0 _ ?side1 ?side2 A3.out).mono ?_); (case side1 => repeat (first | (with_reducible first | exact HI0.out | apply IsS82.alloc | apply IsS82.drewN | apply IsS82.drew | apply IsS82.set_1) | exact HI0.out)); (case side2 => repeat (first | (with_reducible first | exact HB.out | apply pzB | apply pzA | apply pzC | refine pzD ?_ (IsS82.ge HI0.out)) | exact HB.out)); rintro e w5 ⟨rfl, hi, hb, hk⟩; refine ⟨_, rfl, ?_⟩; have n0_ := Aside0.mk (KeepBut.trans (by repeat (first | (with_reducible first | exact HK.out | apply KeepBut.set_ | apply keep_drewN | apply keep_drew | apply keep_alloc) | exact HK.out)) hk (.inl rfl)); have n1_ := Aside0.mk (hb); have n2_ := Aside0.mk (hi); clear HK; clear HB; clear HI0; have HK := n0_; have HB := n1_; have HI0 := n2_; clear n0_ n1_ n2_; (try clear hb); (try clear hb2); (try clear hk); (try clear hi)))
    go_ret
    exact ⟨by first | rfl | (simp [pzN, pzM] <;> rfl) | (simp [*, pzN, pzM] <;> rfl), by repeat (first | (with_reducible first | exact HI0.out | apply IsS82.alloc | apply IsS82.drewN | apply IsS82.drew | apply IsS82.set_1) | exact HI0.out), by repeat (first | (with_reducible first | exact HB.out | apply pzB | apply pzA | apply pzC | refine pzD ?_ (IsS82.ge HI0.out)) | exact HB.out), by repeat (first | (with_reducible first | exact HK.out | apply KeepBut.set_ | apply keep_drewN | apply keep_drew | apply keep_alloc) | exact HK.out)⟩
end Go.Proofs.Ytpkgckccfanchaa.M

namespace Go.Proofs.Ytpkgckccfanchaa.M
open Go.RowKit YtpkgckccfanchaaW.PrintWords YtpkgckccfanchaaW.PrintLast YtpkgckccfanchaaW.PrintMore
attribute [local go_sem] pzW pzX pzY pzZ pzS pzT pzU pzV
set_option linter.unusedVariables false
set_option linter.unusedSimpArgs false
def swapI (l : List Int) (i j : Nat) : List Int := (l.set i (l.getD j 0)).set j (l.getD i 0)
theorem swapI_length (l : List Int) (i j : Nat) : (swapI l i j).length = l.length := by simp [swapI]
def permPick (l : List Int) (at_ i : Nat) : Nat := i - ((l.getD at_ 0 % 256) % ((i : Int) + 1)).toNat
def permLoop (l : List Int) : Nat → Nat → List Int → List Int
  | 0, _, out => out
  | i + 1, at_, out => permLoop l i (at_ + 1) (swapI out (i + 1) (permPick l at_ (i + 1)))
theorem below_at (l : List Int) (a : Nat) (n : Int) (h : 1 ≤ n) (hl : l.length ≤ 9223372036854775807) : qm_Tape_Below.f l (min a l.length : Nat) n = some ((l.getD a 0 % 256) % n, ((min (a + 1) l.length : Nat) : Int)) := by
  unfold qm_Tape_Below.f qm_Tape_Next.f
  have hn : n ≠ 0 := by omega
  by_cases ha : l.length ≤ a
  · rw [if_pos (by omega)]
    have e1 : l.getD a 0 = 0 := by simp [List.getD_eq_getElem?_getD, List.getElem?_eq_none ha]
    have e2 : min a l.length = l.length := by omega
    have e3 : min (a + 1) l.length = l.length := by omega
    simp only [Option.bind_some, hn, if_false, e1, e2, e3]
  · have e2 : min a l.length = a := by omega
    have e3 : min (a + 1) l.length = a + 1 := by omega
    have e4 : wrap64 (wrap64 ((a : Int) + 1) - 1) = a := by unfold wrap64; omega
    have e5 : wrap64 ((a : Int) + 1) = ((a + 1 : Nat) : Int) := by unfold wrap64; omega
    rw [e2, e3, if_neg (by omega), e4, if_pos (by omega), if_pos (by omega), e5]
    have e6 : rd l (a : Int) = l.getD a 0 := by simp [rd]
    have e7 : ∀ x : Int, wrap64 x % 256 = x % 256 := by intro x; unfold wrap64; omega
    simp only [Option.bind_some, hn, if_false, e6, e7]
def qm_Perm.f (l0 : List Int) (a1 : Int) : Option (List Int) := if 0 ≤ a1 ∧ a1 ≤ 250 ∧ l0.length ≤ 9223372036854775807 then some (permLoop l0 (a1.toNat - 1) 0 (rangeI a1.toNat)) else none
set_option maxHeartbeats 1000000 in
set_option maxRecDepth 100000 in
theorem qm_Perm.calls (A0 : Option Addr) (c0 : Nat) (l0 : List Int) (a1 : Int) (r : List Int) (w : World) (hr0 : Kd.C (Kd.int .i8) w A0 l0.length l0) (hc0 : l0.length ≤ c0) (h : qm_Perm.f l0 a1 = some r) :
    Calls Try.prog 22 #[.slice A0 l0.length c0, .int .i64 a1] w fun e w' => ∃ v0_ : Value, e = .returned (v0_) ∧ Kd.R (Kd.int .i64) 3 w' w.heap.size (fun _ => True) v0_ r ∧ Below w.heap.size w w' := by
  unfold qm_Perm.f at h
  split at h
  case isFalse => simp at h
  case isTrue hx =>
  obtain ⟨h0, h1, hll⟩ := hx; have hr := Option.some.inj h; clear h; obtain ⟨n, rfl⟩ := Int.eq_ofNat_of_zero_le h0
  rw [Int.toNat_natCast] at hr
  have hn1 : n ≤ 250 := by omega
  have H := Aside0.mk hr; have HR0 := Aside0.mk hr0; clear hr hr0; have HI := Aside0.mk (IsS82.new w w A0 c0 l0 0 (Below.refl _ _) HR0.out); have HBk := Aside0.mk (pzB (Below.refl w.heap.size w) (.cells #[.slice A0 l0.length c0, .int .i64 0] 82))
  have HE : Aside0 (w.heap.size < (w.alloc (.cells #[.slice A0 l0.length c0, .int .i64 0] 82)).heap.size) := ⟨by simp⟩
  go_enter Try.func22, Try.ntmps22
  go_wp2
  obtain ⟨g, hg0⟩ : ∃ g, g = w.heap.size := ⟨_, rfl⟩
  rw [← hg0] at HI HE ⊢
  have HG := Aside0.mk hg0; clear hg0
  go_loopw [6, 7] (fun v i wr => ∃ k : Nat, k ≤ n ∧ i = .int .i64 k ∧ Aside0 (Kd.R (Kd.int .i64) 3 wr w.heap.size (fun _ => True) v (rangeI k)) ∧ Aside0 (IsS82 w wr g l0 0) ∧ Aside0 (Below w.heap.size w wr)) (fun _ i _ => n - (intOf i).toNat)
  case atStart => exact ⟨0, by omega, rfl, ⟨Kd.R_nil _ _ _ _ _⟩, HI, HBk⟩
  case round =>
    clear HI HBk HE; obtain ⟨k, hk, rfl, HO, HI, HB⟩ := hrel
    by_cases hlt : k < n
    · have hlt2 : (k : Int) < n := by omega
      have hsz : (rangeI k).length = k := rangeI_length k
      go_wp2_with ((with_reducible refine gate_builtin (b := .append) (xs := #[.tmp 18, .tmp 20]) rfl ?_); at_builtin; go_must (refine Kd.R_append (Kd.int .i64) (w0 := w) w.heap.size rfl (.tmp 18) (.tmp 20) 28 3 (.int .i64 0) 8 rfl Try.underlying28 info3 rfl (by decide) (by omega) u6 (rangeI k) (k : Int) [.int .i64 (k : Int)] (fun _ => True) (fun _ => False) rfl rfl ?aP (fun _ hk => hk.elim) ?aF ?aO ?aB ?aS ?aL ?_); (case aP => go_must (exact rfl)); (case aB => go_must (exact HB.out)); (case aF => go_must (exact (fun _ _ => trivial))); (case aO => go_must (exact HO.out)); (case aS => go_must (exact pzJ HB.out)); (case aL => go_must (omega)); intro v1 w1 ho hb hg hat; go_must (rw [← rangeI_succ] at ho); go_must (have hI2 := Aside0.mk (HI.out.grown hg (IsS82.own_ne HI.out HO.out (by decide)))); have ho2 := Aside0.mk ho; have hb2 := Aside0.mk hb; clear ho hb hg hat HO HI HB)
      go_roundw
      case rel => exact ⟨k + 1, by omega, by go_num, ho2, hI2, hb2⟩
      case measure => simp [intOf]; omega
    · obtain rfl : k = n := by omega
      clear hlt hk
      rcases Nat.eq_zero_or_pos k with h00 | hpos
      · subst h00
        have hr0 : r = rangeI 0 := by have := H.out; simpa [permLoop] using this.symm
        subst hr0; clear H HI
        go_wp2
        refine wp_loop_rounds 1 ?_
        rw [rounds_succ]
        go_wp2
        go_ret
        exact ⟨_, rfl, HO.out, HB.out⟩
      obtain ⟨g2, cap, e6, hg2, _, _⟩ := Kd.R_form HO.out (by rw [rangeI_length]; exact hpos)
      rw [rangeI_length] at e6
      subst e6
      have HO2 : Aside0 (∃ (a_ : Nat) (L : List Int), permLoop l0 ((k : Int) - 1).toNat a_ L = r ∧ L.length = k ∧ Kd.R (Kd.int .i64) 3 wr w.heap.size (fun _ => True) (.slice (some ⟨g2, 0, none⟩) k cap) L ∧ IsS82 w wr g l0 ((min a_ l0.length : Nat) : Int)) :=
        ⟨0, rangeI k, by rw [show ((k : Int) - 1).toNat = k - 1 from by omega]; exact H.out, rangeI_length k, HO.out, by simpa using HI.out⟩
      clear HO HI H
      go_wp2
      go_loopw [8, 9] (fun x _ wq => ∃ i : Int, -1 ≤ i ∧ i < k ∧ x = .int .i64 i ∧ Aside0 (∃ (a_ : Nat) (L : List Int), permLoop l0 i.toNat a_ L = r ∧ L.length = k ∧ Kd.R (Kd.int .i64) 3 wq w.heap.size (fun _ => True) (.slice (some ⟨g2, 0, none⟩) k cap) L ∧ IsS82 w wq g l0 ((min a_ l0.length : Nat) : Int)) ∧ Aside0 (Below w.heap.size w wq)) (fun x _ _ => (intOf x).toNat)
      case atStart => exact ⟨(k : Int) - 1, by omega, by omega, rfl, HO2, HB⟩
      case round =>
        clear HO2 HB; obtain ⟨i, hi0, hik, rfl, HO, HB⟩ := hrel; obtain ⟨a_, L, hp, hL, hR, hI⟩ := HO.out; clear HO
        by_cases h2 : 0 < i
        · obtain ⟨q, hq⟩ : ∃ q, i.toNat = q + 1 := ⟨i.toNat - 1, by omega⟩
          have hbl := below_at l0 a_ (i + 1) (by omega) hll
          obtain ⟨y, hy⟩ : ∃ y, y = (l0.getD a_ 0 % 256) % (i + 1) := ⟨_, rfl⟩
          have hy0 : 0 ≤ y := by rw [hy]; exact Int.emod_nonneg _ (by omega)
          have hy1 : y < i + 1 := by rw [hy]; exact Int.emod_lt_of_pos _ (by omega)
          rw [← hy] at hbl
          have hpk : permPick l0 a_ (q + 1) = (i - y).toNat := by
            unfold permPick
            rw [show ((q + 1 : Nat) : Int) + 1 = i + 1 from by omega, ← hy]
            omega
          rw [hq, permLoop, hpk] at hp
          have HP := Aside0.mk hp; have HY := Aside0.mk hy; have HQ := Aside0.mk hq; have HBL := Aside0.mk hbl; have HR := Aside0.mk hR; have HI := Aside0.mk hI; have HL := Aside0.mk hL; clear hp hy hq hbl hR hI hL hpk
          go_wp2_with (go_at_call 52; go_must (refine (qm_Tape_Below.calls g l0 _ (i + 1) y _ w _ HI.out HB.out HBL.out).mono ?_); rintro e w1 ⟨rfl, hi, hb, hk⟩)
          have hR1 : Kd.R (Kd.int .i64) 3 w1 w.heap.size (fun _ => True) (.slice (some ⟨g2, 0, none⟩) L.length cap) L := by
           rw [HL.out]; exact Kd.R_mono (Kd.R_keep (IsS82.apart HI.out HR.out (by decide)) hk (fun _ h => h.2)) (fun _ _ => trivial)
          have hl := HL.out; have hci := Kd.R_cell (enc := Value.int .i64) (h1 := fun _ => rfl) 0 hR1 i (by omega) (by omega); have hcj := Kd.R_cell (enc := Value.int .i64) (h1 := fun _ => rfl) 0 hR1 (i - y) (by omega) (by omega); obtain ⟨hci1, hci2⟩ := hci; obtain ⟨hcj1, hcj2⟩ := hcj
          have hj0 : 0 ≤ i - y := by omega
          have hjk : i - y < k := by omega
          have HI1 := Aside0.mk hi; have HB1 := Aside0.mk hb; have HR1 := Aside0.mk hR1; clear hi hb hk hR1 HI HB HR
          have hyi : y ≤ i := by omega
          obtain ⟨v', hy'⟩ := cell?_setCell_some (w := w1) (p := ⟨g2, i.toNat, none⟩) (x := .int .i64 (rdOf 0 L (i - y))) hcj1; clear hl
          go_region
          go_wp2
          have hne : g ≠ g2 := by
            have h1 := IsS82.own_ne HI1.out HR1.out (by decide); intro e; exact h1 (by rw [e]; rfl)
          have hrp := (Kd.R_put (enc := Value.int .i64) (h1 := fun _ => rfl) HR1.out i (rdOf 0 L (i - y))).1; have hrp2 := (Kd.R_put (enc := Value.int .i64) (h1 := fun _ => rfl) (by rw [List.length_set]; exact hrp) (i - y) (rdOf 0 L i)).1
          rw [show (L.set i.toNat (rdOf 0 L (i - y))).set (i - y).toNat (rdOf 0 L i) = swapI L (q + 1) (i - y).toNat from by rw [← HQ.out]; rfl, List.length_set] at hrp2
          have hsl : (swapI L (q + 1) (i - y).toNat).length = k := by rw [swapI_length]; exact HL.out
          have hrf := Kd.R_drew hrp2
          rw [HL.out] at hrf
          go_roundw
          case rel => exact ⟨i - 1, by omega, by omega, rfl, ⟨a_ + 1, swapI L (q + 1) (i - y).toNat, by rw [show (i - 1).toNat = q from by have := HQ.out; omega]; exact HP.out, hsl, hrf, IsS82.drew (IsS82.far (IsS82.far HI1.out hne _) hne _)⟩, ⟨pzC (pzD (pzD HB1.out hg2) hg2)⟩⟩
          case measure => simp [intOf]; omega
        · have hq : i.toNat = 0 := by omega
          rw [hq, permLoop] at hp
          subst hp; have HR := Aside0.mk hR; clear hR hI hq
          go_wp2
          go_ret
          exact ⟨_, rfl, HR.out, HB.out⟩
end Go.Proofs.Ytpkgckccfanchaa.M

namespace Go.Proofs.Ytpkgckccfanchaa.M
open Go.RowKit YtpkgckccfanchaaW.PrintWords YtpkgckccfanchaaW.PrintLast YtpkgckccfanchaaW.PrintMore
set_option linter.unusedVariables false
set_option linter.unusedSimpArgs false
theorem at_rows8 {w : World} {A : Option Addr} {n : Nat} {xs : List (List Int)} (h : Kd.C (Kd.slice 140 (Kd.int .i8)) w A n xs) (i : Nat) (h1 : i < n) : ∃ ad A0 c0, A = some ad ∧ w.cell? (ad.add i) = some (.slice A0 (xs.getD i []).length c0) ∧ (xs.getD i []).length ≤ c0 ∧ (Kd.int .i8).C w A0 (xs.getD i []).length (xs.getD i []) := by
  obtain ⟨ad, c, e, _, hK, hc0⟩ := Kd.C_get h ([] : List Int) (i : Int) (by omega) (by omega)
  simp only [Int.toNat_natCast] at hK hc0
  have hc : ∀ j u, c[j]? = some u → w.cell? (ad.add (i * 1 + j)) = some u := hc0
  obtain ⟨A0, c0, rfl, l0, g0⟩ := hK
  exact ⟨ad, A0, c0, e, by have hq := hc 0 _ rfl; rwa [Nat.mul_one, Nat.add_zero] at hq, l0, g0⟩
def tapeAt (l : List Int) (at_ : Nat) (n : Int) : Nat := ((l.getD at_ 0 % 256) % n).toNat
def fewI (l : List Int) (n : Nat) : Nat → List Int
  | 0 => rangeI n
  | k + 1 => swapI (fewI l n k) (tapeAt l (2 * k) n) (tapeAt l (2 * k + 1) n)
def genI (few : Bool) (n : Nat) (l : List Int) : List Int := if few then fewI l n 2 else permLoop l (n - 1) 0 (rangeI n)
def qm_Perms_Gens.f (a0_0 : Int) (l0_1 : List (List Int)) (a0_2 : Bool) (a1 : Int) : Option (List (List Int)) :=
  if 0 ≤ a0_0 ∧ a0_0 < 256 ∧ 1 ≤ a1 ∧ a1 ≤ 200 ∧ l0_1.all (fun l => decide (l.length ≤ 9223372036854775807)) = true then some ((l0_1.take 3).map (genI a0_2 (1 + a0_0 % a1).toNat)) else none
theorem swapI_same (l : List Int) (i : Nat) : swapI l i i = l := by
  unfold swapI
  rw [List.set_set]
  by_cases h : i < l.length
  · rw [List.getD_eq_getElem?_getD, List.getElem?_eq_getElem h]
    simp
  · rw [List.set_eq_of_length_le (by omega)]
theorem permLoop_nil (i a : Nat) (out : List Int) : permLoop [] i a out = out := by
  induction i generalizing a out with
  | zero => rfl
  | succ i ih =>
    have : permPick [] a (i + 1) = i + 1 := by simp [permPick]
    rw [permLoop, this, swapI_same, ih]
theorem fewI_length (l : List Int) (n k : Nat) : (fewI l n k).length = n := by
  induction k with
  | zero => exact rangeI_length n
  | succ k ih => rw [fewI, swapI_length, ih]
theorem gens_snoc {α β : Type} (f : α → β) (xs : List α) {j : Nat} {x : α} (h : xs[j]? = some x) : (xs.take (j + 1)).map f = (xs.take j).map f ++ [f x] := by
  obtain ⟨h1, h2⟩ := List.getElem?_eq_some_iff.1 h
  rw [List.take_succ_eq_append_getElem h1, h2, List.map_append]
  rfl
theorem gens_M {e : Nat} {W : World} {b s0 c m : Nat} {A : Option Addr} {p : List Int} (h : Kd.R (Kd.int .i64) e W s0 (fun _ => True) (.slice A m c) p) (hb : b ≤ s0) : (Kd.slice e (Kd.int .i64)).M W b (fun k => s0 ≤ k) p [.slice A m c] :=
  ⟨_, rfl, Kd.R_lower (Kd.R_mono (Kd.R_bound h) (fun k hk => hk.2.1)) hb⟩
theorem Perm_nil {n : Nat} (hn : n ≤ 250) {w : World} : Calls Try.prog 22 #[.slice none 0 0, .int .i64 n] w fun e w' => ∃ v0_ : Value, e = .returned (v0_) ∧ Kd.R (Kd.int .i64) 3 w' w.heap.size (fun _ => True) v0_ (rangeI n) ∧ Below w.heap.size w w' :=
  qm_Perm.calls none 0 [] n (rangeI n) w (Kd.C_nil _ _) (Nat.le_refl _) (by unfold qm_Perm.f; rw [if_pos ⟨by omega, by omega, by simp⟩, Int.toNat_natCast, permLoop_nil])
theorem tape_lt (l : List Int) (a : Nat) {n : Nat} (hn : 0 < n) : 0 ≤ (l.getD a 0 % 256) % (n : Int) ∧ (l.getD a 0 % 256) % (n : Int) < n := ⟨Int.emod_nonneg _ (by omega), Int.emod_lt_of_pos _ (by omega)⟩
set_option maxHeartbeats 4000000 in
set_option maxRecDepth 100000 in
theorem qm_Perms_Gens.calls (a0_0 : Int) (A0_1 : Option Addr) (c0_1 : Nat) (l0_1 : List (List Int)) (a0_2 : Bool) (a1 : Int) (r : List (List Int)) (w : World) (hr0_1 : Kd.C (Kd.slice 140 (Kd.int .i8)) w A0_1 l0_1.length l0_1) (hc0_1 : l0_1.length ≤ c0_1) (h : qm_Perms_Gens.f a0_0 l0_1 a0_2 a1 = some r) :
    Calls Try.prog 19 #[.agg #[.int .u8 a0_0, .slice A0_1 l0_1.length c0_1, .bool a0_2], .int .i64 a1] w fun e w' => ∃ v0_ : Value, e = .returned (v0_) ∧ Kd.S (Kd.slice 3 (Kd.int .i64)) 28 w' w.heap.size (fun _ => True) v0_ r ∧ Below w.heap.size w w' := by
  unfold qm_Perms_Gens.f at h
  split at h
  case isFalse => simp at h
  case isTrue hx =>
  obtain ⟨hp0, hp1, hm0, hm1, hall⟩ := hx
  have hr := Option.some.inj h
  simp only [List.all_eq_true, decide_eq_true_eq] at hall
  have hd : qm_Perms_Degree.f a0_0 l0_1 a0_2 a1 = some (1 + a0_0 % a1) := by
    unfold qm_Perms_Degree.f
    rw [if_neg (by omega)]
    have e1 : wrap64 a0_0 = a0_0 := by unfold wrap64; omega
    have e2 : Int.tmod a0_0 a1 = a0_0 % a1 := Int.tmod_eq_emod_of_nonneg hp0
    have e3 : a0_0 % a1 < a1 := Int.emod_lt_of_pos _ (by omega)
    have e4 : 0 ≤ a0_0 % a1 := Int.emod_nonneg _ (by omega)
    rw [e1, e2]
    congr 1
    unfold wrap64
    omega
  have e3 : a0_0 % a1 < a1 := Int.emod_lt_of_pos _ (by omega)
  have e4 : 0 ≤ a0_0 % a1 := Int.emod_nonneg _ (by omega)
  obtain ⟨n, hn⟩ : ∃ n : Nat, (1 + a0_0 % a1) = n := ⟨(1 + a0_0 % a1).toNat, by omega⟩
  rw [hn] at hd hr
  rw [Int.toNat_natCast] at hr
  have hn1 : 1 ≤ n := by omega
  have hn2 : n ≤ 200 := by omega
  have HD := Aside0.mk hd
  have H := Aside0.mk hr
  have HALL := Aside0.mk hall
  have HR0 := Aside0.mk hr0_1
  have HBX := Aside0.mk (blk_new w (.cells #[.int .u8 a0_0, .slice A0_1 l0_1.length c0_1, .bool a0_2] 35))
  clear h hr hd hn e3 e4 hr0_1 hall
  go_enter Try.func19, Try.ntmps19
  go_wp2_with (go_at_call 18; go_must (refine (qm_Perms_Degree.calls a0_0 A0_1 c0_1 l0_1 a0_2 a1 n _ (Kd.C_below HR0.out (pzB (Below.refl _ _) _)) hc0_1 HD.out).mono ?_); rintro e w1 ⟨rfl, hB⟩; (have hbx := pzI HBX.out hB); have hx0 := pzH hbx 0; have hx1 := pzH hbx 1; have HB1 : Aside0 (Below w.heap.size w w1) := ⟨pzL (w := w) (pzB (Below.refl _ _) _) hB⟩; have HBX1 := Aside0.mk hbx; clear hB hbx)
  clear hx0 hx1 HBX HD
  have HJ0 : Aside0 (Kd.S (Kd.slice 3 (Kd.int .i64)) 28 w1 w.heap.size (fun _ => True) (.slice none 0 0) ((l0_1.take 0).map (genI a0_2 n))) := ⟨Kd.S_nil _ _ _ _ _⟩
  go_loopw [5, 20] (fun v i wr => ∃ j : Nat, i = .int .i64 j ∧ j ≤ l0_1.length ∧ j ≤ 3 ∧ Aside0 (Kd.S (Kd.slice 3 (Kd.int .i64)) 28 wr w.heap.size (fun _ => True) v ((l0_1.take j).map (genI a0_2 n))) ∧ Aside0 (Below w.heap.size w wr) ∧ Aside0 (wr.heap[w.heap.size]? = some (.cells #[.int .u8 a0_0, .slice A0_1 l0_1.length c0_1, .bool a0_2] 35 (0, 0)))) (fun _ i _ => l0_1.length - (intOf i).toNat)
  case atStart => exact ⟨0, rfl, by omega, by omega, HJ0, HB1, HBX1⟩
  case round =>
    clear HJ0 HB1 HBX1
    obtain ⟨j, rfl, hj, hj3, HN, HB, HX⟩ := hrel
    by_cases hlt : j < l0_1.length
    · by_cases h3 : j < 3
      · obtain ⟨ad, A0, c0, rfl, hclw, hc0, hCw⟩ := at_rows8 HR0.out j hlt
        have hcl := pyA HB.out hclw
        have hC := Kd.C_below hCw HB.out
        obtain ⟨l, hjl⟩ : ∃ l, l0_1[j]? = some l := ⟨l0_1[j]'hlt, List.getElem?_eq_getElem _⟩
        have hgl : l0_1.getD j [] = l := by rw [List.getD_eq_getElem?_getD, hjl]; rfl
        rw [hgl] at hcl hc0 hC hCw
        clear hclw
        have HCW := Aside0.mk hCw
        have hll : l.length ≤ 9223372036854775807 := HALL.out l (List.mem_of_getElem? hjl)
        have hlt2 : (j : Int) < (l0_1.length : Int) := by omega
        have h32 : ¬ ((3 : Int) ≤ (j : Int)) := by omega
        have hpf : qm_Perm.f l (n : Int) = some (permLoop l (n - 1) 0 (rangeI n)) := by unfold qm_Perm.f; rw [if_pos ⟨by omega, by omega, hll⟩, Int.toNat_natCast]
        obtain ⟨xs, hxs⟩ : ∃ xs, xs = (l0_1.take j).map (genI a0_2 n) := ⟨_, rfl⟩
        rw [← hxs] at HN
        have HXL : Aside0 (xs.length ≤ 3) := ⟨by rw [hxs]; simp; omega⟩
        have HXS := Aside0.mk hxs
        have HJL := Aside0.mk hjl
        have HPF := Aside0.mk hpf
        have HC := Aside0.mk hC
        have HC0 := Aside0.mk hc0
        clear hxs hjl hpf hC hgl hc0 hCw
        have HNX : Aside0 (some w.heap.size ≠ u5.ownBlock) := ⟨Kd.S_ne HN.out HX.out (by decide)⟩
        by_cases hf : a0_2 = true
        · subst hf
          go_wp2_with (first | (go_at_call 22; (with_reducible refine (qm_Perm.calls A0 c0 l n _ wr HC.out HC0.out HPF.out).mono ?_); rintro e w2 ⟨vp, rfl, hR, hB⟩; have HNE := Aside0.mk (Kd.S_old HN.out hB); have HBX2 := Aside0.mk (pzI HX.out hB); have hx2 := pzH HBX2.out 2; have HVL : Aside0 (∀ k, u5.ownBlock = some k → k < wr.heap.size) := ⟨Kd.S_lt HN.out⟩; have HBE : Aside0 (Below w.heap.size w w2) := ⟨pzL HB.out hB⟩; have HS0 : Aside0 (w.heap.size ≤ wr.heap.size) := ⟨HB.out.size⟩; have HS1 : Aside0 (w.heap.size < wr.heap.size ∧ wr.heap.size ≤ w2.heap.size) := ⟨pzO HX.out, hB.size⟩; clear hR hB HN HB) | (go_at_call 22; (with_reducible refine (Perm_nil (by omega)).mono ?_); rintro e w3 ⟨vp, rfl, hR, hB⟩; obtain ⟨g2, cap, e6, hg2, hg2b, -⟩ := Kd.R_form hR (by rw [rangeI_length]; omega); rw [rangeI_length] at e6; subst e6; have HR3 := Aside0.mk hR; have HG2 := Aside0.mk hg2; have HN3 := Aside0.mk (Kd.S_below HNE.out hB); have HB3 := Aside0.mk (pzL HBE.out hB); have HBX3 := Aside0.mk (pzI HBX2.out hB); have HS3 : Aside0 (w2.heap.size ≤ w3.heap.size) := ⟨hB.size⟩; clear hR hB hg2 hg2b HNE HBE HBX2) | ((with_reducible refine pzQ (N := 36) rfl ?_); refine pzR ?hg (N := 36) ?hd (cs := #[.slice A0 l.length c0, .int .i64 0]) (t := 82) ?hr ?_; (case hd => rfl); (case hg => rfl); (case hr => first | (go_simp; done) | (go_simp; rfl)); intro gt hgt w4 hbox hb; have HT4 : Aside0 (IsS82 w w4 gt l 0) := ⟨⟨A0, c0, hbox, by rw [hgt]; exact HB3.out.size, HCW.out⟩⟩; have HR4 := Aside0.mk (Kd.R_below HR3.out hb); have HN4 := Aside0.mk (Kd.S_below HN3.out hb); have HB4 := Aside0.mk (pzL HB3.out hb); have HBX4 := Aside0.mk (pzI HBX3.out hb); have HGT : Aside0 (w3.heap.size ≤ gt) := ⟨Nat.le_of_eq hgt.symm⟩; clear hgt hbox hb HR3 HN3 HB3 HBX3))
          clear hx2
          obtain ⟨s0, hs0⟩ : ∃ s0, s0 = wr.heap.size := ⟨_, rfl⟩
          rw [← hs0] at HVL HS0 HS1 HN4
          clear hs0
          go_loopw [11] (fun x wq => ∃ k : Nat, x = .int .i64 k ∧ k ≤ 2 ∧ Aside0 (Kd.R (Kd.int .i64) 3 wq w2.heap.size (fun _ => True) (.slice (some ⟨g2, 0, none⟩) n cap) (fewI l n k)) ∧ Aside0 (IsS82 w wq gt l ((min (2 * k) l.length : Nat) : Int)) ∧ Aside0 (Kd.S (Kd.slice 3 (Kd.int .i64)) 28 wq w.heap.size (fun k_ => True ∧ k_ < s0) u5 xs) ∧ Aside0 (Below w.heap.size w wq) ∧ Aside0 (wq.heap[w.heap.size]? = some (.cells #[.int .u8 a0_0, .slice (some ad) l0_1.length c0_1, .bool true] 35 (0, 0)))) (fun x _ => 2 - (intOf x).toNat)
          case atStart => exact ⟨0, rfl, by omega, HR4, ⟨by simpa using HT4.out⟩, HN4, HB4, HBX4⟩
          case round =>
            clear HR4 HT4 HN4 HB4 HBX4
            obtain ⟨k, rfl, hk2, HR, HT, HN, HB, HX⟩ := hrel
            have HSG : Aside0 (w.heap.size < s0 ∧ s0 ≤ gt ∧ s0 ≤ g2 ∧ w2.heap.size ≤ g2) := ⟨by have := HS1.out; have := HS3.out; have := HGT.out; have := HG2.out; omega⟩
            by_cases hkl : k < 2
            · have hk3 : (k : Int) < 2 := by omega
              obtain ⟨L, hL⟩ : ∃ L, L = fewI l n k := ⟨_, rfl⟩
              have hLl : L.length = n := by rw [hL]; exact fewI_length l n k
              rw [← hL] at HR
              have hbl1 := below_at l (2 * k) (n : Int) (by omega) hll
              have hbl2 := below_at l (2 * k + 1) (n : Int) (by omega) hll
              obtain ⟨y1, hy1⟩ : ∃ y, y = (l.getD (2 * k) 0 % 256) % (n : Int) := ⟨_, rfl⟩
              obtain ⟨y2, hy2⟩ : ∃ y, y = (l.getD (2 * k + 1) 0 % 256) % (n : Int) := ⟨_, rfl⟩
              have hy10 := (tape_lt l (2 * k) hn1).1
              have hy11 := (tape_lt l (2 * k) hn1).2
              have hy20 := (tape_lt l (2 * k + 1) hn1).1
              have hy21 := (tape_lt l (2 * k + 1) hn1).2
              rw [← hy1] at hy10 hy11 hbl1
              rw [← hy2] at hy20 hy21 hbl2
              have hsw : fewI l n (k + 1) = swapI L y1.toNat y2.toNat := by rw [fewI, ← hL, hy1, hy2]; rfl
              have HSW := Aside0.mk hsw
              have HBL1 := Aside0.mk hbl1
              have HBL2 := Aside0.mk hbl2
              have HLL := Aside0.mk hLl
              clear hbl1 hbl2 hsw hL hLl hy1 hy2
              go_wp2_with (first | (go_at_call 52; (with_reducible refine (qm_Tape_Below.calls gt l _ n y1 _ w wr HT.out HB.out HBL1.out).mono ?_); rintro e w5 ⟨rfl, hi, hb, hk⟩; have HT5 := Aside0.mk hi; have HB5 := Aside0.mk hb; have HK5 := Aside0.mk hk; clear hi hb hk) | (go_at_call 52; (with_reducible refine (qm_Tape_Below.calls gt l _ n y2 _ w w5 HT5.out HB5.out HBL2.out).mono ?_); rintro e w6 ⟨rfl, hi, hb, hk⟩; have HT6 := Aside0.mk hi; have HB6 := Aside0.mk hb; have HK6 := Aside0.mk hk; clear hi hb hk))
              have hR6 : Kd.R (Kd.int .i64) 3 w6 w2.heap.size (fun _ => True) (.slice (some ⟨g2, 0, none⟩) L.length cap) L := by
                rw [HLL.out]
                have h5 := Kd.R_mono (ok' := fun _ => True) (Kd.R_keep (IsS82.apart HT.out HR.out (by decide)) HK5.out (fun _ h => h.2)) (fun _ _ => trivial)
                exact Kd.R_mono (Kd.R_keep (IsS82.apart HT5.out h5 (by decide)) HK6.out (fun _ h => h.2)) (fun _ _ => trivial)
              have HN6 : Aside0 (Kd.S (Kd.slice 3 (Kd.int .i64)) 28 w6 w.heap.size (fun k_ => True ∧ k_ < s0) u5 xs) := ⟨Kd.S_keep (Kd.S_keep HN.out HK5.out (fun q hq => by have := HSG.out; omega)) HK6.out (fun q hq => by have := HSG.out; omega)⟩
              have HX6 : Aside0 (w6.heap[w.heap.size]? = some (.cells #[.int .u8 a0_0, .slice (some ad) l0_1.length c0_1, .bool true] 35 (0, 0))) := by
                have g0 : w.heap.size ≠ gt := by have := HSG.out; omega
                have h5 := (HK5.out.2 w.heap.size (pzO HX.out) g0 (by simp)).trans HX.out
                exact ⟨(HK6.out.2 w.heap.size (pzO h5) g0 (by simp)).trans h5⟩
              have hl := HLL.out
              obtain ⟨hci1, hci2⟩ := Kd.R_cell (enc := Value.int .i64) (h1 := fun _ => rfl) 0 hR6 y1 (by omega) (by omega)
              obtain ⟨hcj1, hcj2⟩ := Kd.R_cell (enc := Value.int .i64) (h1 := fun _ => rfl) 0 hR6 y2 (by omega) (by omega)
              obtain ⟨v', hy'⟩ := cell?_setCell_some (w := w6) (p := ⟨g2, y1.toNat, none⟩) (x := .int .i64 (rdOf 0 L y2)) hcj1
              have HR6 := Aside0.mk hR6
              clear hl hR6 HR HN HX HB HT HB5 HT5 HK5 HK6
              go_region
              go_wp2
              have hne : gt ≠ g2 := by
                have h1 := IsS82.own_ne HT6.out HR6.out (by decide)
                intro e
                exact h1 (by rw [e]; rfl)
              have hrp := (Kd.R_put (enc := Value.int .i64) (h1 := fun _ => rfl) HR6.out y1 (rdOf 0 L y2)).1
              have hrp2 := (Kd.R_put (enc := Value.int .i64) (h1 := fun _ => rfl) (by rw [List.length_set]; exact hrp) y2 (rdOf 0 L y1)).1
              rw [show (L.set y1.toNat (rdOf 0 L y2)).set y2.toNat (rdOf 0 L y1) = swapI L y1.toNat y2.toNat from rfl, ← HSW.out, List.length_set, HLL.out] at hrp2
              have hrf := Kd.R_drew hrp2
              have hgw : w.heap.size ≤ g2 := by have := HSG.out; omega
              go_roundw
              case rel =>
                refine ⟨k + 1, by go_num, by omega, ⟨hrf⟩, ⟨?_⟩, ⟨?_⟩, ⟨pzC (pzD (pzD HB6.out hgw) hgw)⟩, ⟨?_⟩⟩
                · rw [show 2 * (k + 1) = 2 * k + 1 + 1 from by omega]
                  exact IsS82.drew (IsS82.far (IsS82.far HT6.out hne _) hne _)
                · exact Kd.S_drew (Kd.S_far (Kd.S_far HN6.out (fun q hq e => by have e2 : q = g2 := e; have := HSG.out; omega) _) (fun q hq e => by have e2 : q = g2 := e; have := HSG.out; omega) _)
                · exact pzG ((Below.heap_setCell _ _ _ _ (fun e => by have e2 : w.heap.size = g2 := e; have := HSG.out; omega)).trans ((Below.heap_setCell _ _ _ _ (fun e => by have e2 : w.heap.size = g2 := e; have := HSG.out; omega)).trans HX6.out))
              case measure => simp [intOf]; omega
            · obtain rfl : k = 2 := by omega
              clear hkl hk2
              have HPE := HR
              have HNE := HN
              have HBE := HB
              have HSZ : Aside0 (w.heap.size ≤ wr.heap.size) := ⟨HB.out.size⟩
              have HVL3 : Aside0 (∀ k, u5.ownBlock = some k → k < w2.heap.size) := ⟨fun k hk => by have := HVL.out k hk; have := HS1.out; omega⟩
              have HS3' : Aside0 (w.heap.size ≤ w2.heap.size) := ⟨by have := HS1.out; omega⟩
              clear HR HN HB
              go_wp2_with (((with_reducible refine gate_builtin (b := .append) (xs := #[.tmp 61, .tmp 63]) rfl ?_); at_builtin; go_must (refine Kd.S_append (Kd.slice 3 (Kd.int .i64)) (w0 := w) w.heap.size rfl (.tmp 61) (.tmp 63) 29 28 (.slice none 0 0) 24 rfl Try.underlying29 info28 rfl (by decide) (by omega) u5 xs (fewI l n 2) [.slice (some ⟨g2, 0, none⟩) n cap] (fun _ => True) (fun k_ => w2.heap.size ≤ k_) rfl rfl ?aP (fun k_ hk => ⟨trivial, fun e2 => by have := HVL3.out k_ e2.symm; omega⟩) (fun _ _ => trivial) ?aO HBE.out HSZ.out ?aL ?_); (case aP => go_must (exact gens_M HPE.out HS3'.out)); (case aO => go_must (exact Kd.S_mono HNE.out (fun k_ hk => ⟨trivial, fun h2 => by have := hk.2; have := HS1.out; omega⟩))); (case aL => go_must (have := HXL.out; omega)); intro v1 w1 ho hb hg hat; have ho2 := Aside0.mk ho; have hb2 := Aside0.mk hb; have hg2 := Aside0.mk hg; clear ho hb hg hat HPE HNE HBE))
              go_roundw
              case rel =>
                have hx : (l0_1.take (j + 1)).map (genI true n) = xs ++ [fewI l n 2] := by rw [gens_snoc _ _ HJL.out, ← HXS.out]; rfl
                refine ⟨j + 1, by go_num, by omega, by omega, ⟨?_⟩, hb2, ⟨(hg2.out.block w.heap.size (pzO HX.out) HNX.out).trans HX.out⟩⟩
                rw [hx]
                exact ho2.out
              case measure => simp [intOf]; omega
        · obtain rfl : a0_2 = false := by simpa using hf
          clear hf
          go_wp2_with (first | (go_at_call 22; (with_reducible refine (qm_Perm.calls A0 c0 l n _ wr HC.out HC0.out HPF.out).mono ?_); rintro e w2 ⟨vp, rfl, hR, hB⟩; obtain ⟨Ap, cp, rfl⟩ := Kd.R_slice hR; have HPE := Aside0.mk hR; have HNE := Aside0.mk (Kd.S_old HN.out hB); have HBX2 := Aside0.mk (pzI HX.out hB); have hx2 := pzH HBX2.out 2; have HVL : Aside0 (∀ k, u5.ownBlock = some k → k < wr.heap.size) := ⟨Kd.S_lt HN.out⟩; have HBE : Aside0 (Below w.heap.size w w2) := ⟨pzL HB.out hB⟩; have HS0 : Aside0 (w.heap.size ≤ wr.heap.size) := ⟨HB.out.size⟩; have HSZ : Aside0 (w.heap.size ≤ w2.heap.size) := ⟨HBE.out.size⟩; clear hR hB HN HB) | ((with_reducible refine gate_builtin (b := .append) (xs := #[.tmp 61, .tmp 63]) rfl ?_); at_builtin; go_must (refine Kd.S_append (Kd.slice 3 (Kd.int .i64)) (w0 := w) w.heap.size rfl (.tmp 61) (.tmp 63) 29 28 (.slice none 0 0) 24 rfl Try.underlying29 info28 rfl (by decide) (by omega) u5 xs (permLoop l (n - 1) 0 (rangeI n)) [.slice Ap (permLoop l (n - 1) 0 (rangeI n)).length cp] (fun _ => True) (fun k_ => wr.heap.size ≤ k_) rfl rfl ?aP (fun k_ hk => ⟨trivial, fun e2 => by have := HVL.out k_ e2.symm; omega⟩) (fun _ _ => trivial) ?aO HBE.out HSZ.out ?aL ?_); (case aP => go_must (exact gens_M HPE.out HS0.out)); (case aO => go_must (exact Kd.S_mono HNE.out (fun k_ hk => ⟨trivial, fun h2 => by have := hk.2; have := HS0.out; omega⟩))); (case aL => go_must (have := HXL.out; omega)); intro v1 w1 ho hb hg hat; have ho2 := Aside0.mk ho; have hb2 := Aside0.mk hb; have hg2 := Aside0.mk hg; clear ho hb hg hat HPE HNE HBE))
          go_roundw
          case rel =>
            have hx : (l0_1.take (j + 1)).map (genI false n) = xs ++ [permLoop l (n - 1) 0 (rangeI n)] := by rw [gens_snoc _ _ HJL.out, ← HXS.out]; rfl
            refine ⟨j + 1, by go_num, by omega, by omega, ⟨?_⟩, hb2, ⟨(hg2.out.block w.heap.size (pzO HBX2.out) HNX.out).trans HBX2.out⟩⟩
            rw [hx]
            exact ho2.out
          case measure => simp [intOf]; omega
      · obtain ⟨ad, A0, c0, rfl, hclw, hc0, hCw⟩ := at_rows8 HR0.out j hlt
        have hcl := pyA HB.out hclw
        have hlt2 : (j : Int) < (l0_1.length : Int) := by omega
        have h32 : (3 : Int) ≤ (j : Int) := by omega
        have HJ : Aside0 ((l0_1.take j).map (genI a0_2 n) = r) := ⟨by rw [← H.out, show j = 3 from by omega]⟩
        clear hclw hCw hc0
        go_wp2
        go_ret
        exact ⟨_, rfl, by rw [← HJ.out]; exact HN.out, HB.out⟩
    · have HJ : Aside0 ((l0_1.take j).map (genI a0_2 n) = r) := ⟨by rw [← H.out, List.take_of_length_le (by omega), List.take_of_length_le (by omega)]⟩
      have hlt2 : ¬ ((j : Int) < (l0_1.length : Int)) := by omega
      go_wp2
      go_ret
      exact ⟨_, rfl, by rw [← HJ.out]; exact HN.out, HB.out⟩
end Go.Proofs.Ytpkgckccfanchaa.M

namespace Go.Proofs.Ytpkgckccfanchaa.M
open Go.RowKit YtpkgckccfanchaaW.PrintWords YtpkgckccfanchaaW.PrintLast YtpkgckccfanchaaW.PrintMore
open Go.ChangeShapes Go.WideShapes
set_option linter.unusedVariables false
set_option linter.unusedSimpArgs false
theorem perms_rows {w : World} {a : Addr} {len cap : Nat} {A : Nat → Option Addr} {L C : Nat → Nat} {Z : Nat → List Int} (hl : len ≤ cap) (hm : cap ≤ maxLen)
    (h : ∀ r, r < cap → w.cell? (a.add r) = some (.slice (A r) (L r) (C r)) ∧ L r ≤ C r ∧ C r ≤ maxLen ∧ (Z r).length = C r ∧ (∀ n ∈ Z r, (Lit.int .i8 n).wf = true) ∧ (A r = none → C r = 0) ∧
        ∀ a', A r = some a' → 0 ≤ a'.block ∧ ∀ c, c < C r → w.cell? (a'.add c) = some (.int .i8 ((Z r).getD c 0))) :
    Kd.C (Kd.slice 140 (Kd.int .i8)) w (some a) len ((List.range len).map fun r => (Z r).take (L r)) := by
  have hmx : maxLen = 9223372036854775807 := by decide
  refine ⟨by simp, by omega, fun _ => ⟨a, rfl, fun j p hj => ?_⟩⟩
  obtain ⟨hj1, hj2⟩ := List.getElem?_eq_some_iff.1 hj
  have hjl : j < len := by simpa using hj1
  have hp : p = (Z j).take (L j) := by rw [← hj2]; simp
  obtain ⟨h1, h2, h3, h4, h5, h6, h7⟩ := h j (by omega)
  have hpl : p.length = L j := by rw [hp, List.length_take]; omega
  refine ⟨[.slice (A j) p.length (C j)], rfl, ⟨A j, C j, rfl, by omega, ⟨rfl, by omega, fun hpos => ?_⟩⟩, fun i u hu => ?_⟩
  · obtain ⟨a', ha⟩ : ∃ a', A j = some a' := by
      rcases hA : A j with _ | a'
      · have := h6 hA; omega
      · exact ⟨a', rfl⟩
    refine ⟨a', ha, fun i q hq => ⟨[.int .i8 q], rfl, rfl, fun i2 u hu => ?_⟩⟩
    match i2, hu with
    | 0, hu =>
      cases hu
      obtain ⟨hi1, hi2⟩ := List.getElem?_eq_some_iff.1 hq
      rw [Nat.add_zero, show i * (Kd.int .i8).sz = i from Nat.mul_one i, (h7 a' ha).2 i (by omega)]
      rw [List.getD_eq_getElem?_getD]
      have : (Z j)[i]? = some q := by
        rw [hp, List.getElem?_take] at hq
        split at hq
        · exact hq
        · cases hq
      rw [this]
      rfl
  · match i, hu with
    | 0, hu =>
      cases hu
      rw [Nat.add_zero, show j * (Kd.slice 140 (Kd.int .i8)).sz = j from Nat.mul_one j, h1, hpl]
set_option maxRecDepth 100000 in
theorem ints_open {H : Type} {enc : TypeId × Value → H} {W : World} {v : Value} {d : DataW H} {p : List MemPlace} {r : Reach} {b0 : Nat} {t e : TypeId} {k : IntKind} (ht : Try.prog.underlying t = some (.slice e)) (he : Try.prog.underlying e = some (.int k)) (hce : Try.prog.cellsOf e = 1) (hv : Value.okWide Try.prog W r b0 t v) (h : DataW.Trod enc Try.prog W 0 (fun _ => true) true t v d p) :
    ∃ (A : Option Addr) (c : Nat) (l : List Int), v = .slice A l.length c ∧ Kd.C (Kd.int k) W A l.length l ∧ l.length ≤ c ∧ l.length ≤ 9223372036854775807 ∧ ∀ n ∈ l, (Lit.int k n).wf = true := by
  have hmx : maxLen = 9223372036854775807 := by decide
  obtain ⟨a, len, cap, rfl⟩ := okWide_slice ht hv
  obtain ⟨fuel, hf⟩ := h
  rcases open_ints ht he hce hf with ⟨hcs, _⟩ | ⟨x, l, c, zs, hcs, _, hl, hm, hz, _, hcell, hwz⟩
  · simp [Value.cells] at hcs
    obtain ⟨rfl, rfl, rfl⟩ := hcs
    exact ⟨none, 0, [], rfl, Kd.C_nil _ _, Nat.le_refl _, by simp, by simp⟩
  · simp [Value.cells] at hcs
    obtain ⟨rfl, rfl, rfl⟩ := hcs
    have hz2 : zs.length = cap := by simpa using hz
    have hlen : (zs.take len).length = len := by rw [List.length_take]; omega
    refine ⟨some x, cap, zs.take len, by rw [hlen], ⟨rfl, by rw [hlen]; omega, fun _ => ⟨x, rfl, fun j q hq => ⟨[.int k q], rfl, rfl, fun i u hu => ?_⟩⟩⟩, by rw [hlen]; exact hl, by rw [hlen]; omega, fun n hn => hwz n (List.mem_of_mem_take hn)⟩
    match i, hu with
    | 0, hu =>
      cases hu
      have hq2 : zs[j]? = some q := by
        rw [List.getElem?_take] at hq
        split at hq
        · exact hq
        · cases hq
      obtain ⟨g1, g2⟩ := List.getElem?_eq_some_iff.1 hq2
      rw [Nat.add_zero, show j * (Kd.int k).sz = j from Nat.mul_one j, hcell j g1, List.getD_eq_getElem?_getD, hq2]
      rfl
set_option maxRecDepth 100000 in
theorem perms_open {H : Type} {enc : TypeId × Value → H} {W : World} {v : Value} {d : DataW H} {p : List MemPlace} {r : Reach} {b0 : Nat} (hv : Value.okWide Try.prog W r b0 35 v) (h : DataW.Trod enc Try.prog W 0 (fun _ => true) true 35 v d p) :
    ∃ (a0 : Int) (A : Option Addr) (c : Nat) (l : List (List Int)) (b : Bool), v = .agg #[.int .u8 a0, .slice A l.length c, .bool b] ∧ 0 ≤ a0 ∧ a0 < 256 ∧ Kd.C (Kd.slice 140 (Kd.int .i8)) W A l.length l ∧ l.length ≤ c ∧ ∀ x ∈ l, x.length ≤ 9223372036854775807 := by
  obtain ⟨v0, v1, v2, y0, y1, y2, n, rfl, rfl, rfl, h0, h1, h2⟩ := Go.Joins.open_agg3 Try.underlying35 (by kernel_rfl) (by kernel_rfl) hv h
  obtain ⟨a, e0, -, wa⟩ := DataW.trod_int Try.underlying5 h0
  obtain ⟨b, e2, -⟩ := DataW.trod_bool Try.underlying4 h2
  simp at e0 e2
  subst e0 e2
  have hwa : 0 ≤ a ∧ a < 256 := by
    have h5 : IntKind.u8.min ≤ a ∧ a ≤ IntKind.u8.max := by simpa [Lit.wf] using wa
    have h6 : IntKind.u8.min = 0 := by decide
    have h7 : IntKind.u8.max = 255 := by decide
    omega
  rcases Go.Deep.open_int_rows Try.underlying33 Try.underlying39 Try.underlying140 (by kernel_rfl) (by kernel_rfl) h1 with ⟨hcs, _⟩ | ⟨x, len, cap, A, L, C, Z, hcs, -, hl, hm, -, hr⟩
  · simp at hcs
    subst hcs
    exact ⟨a, none, 0, [], b, rfl, hwa.1, hwa.2, Kd.C_nil _ _, Nat.le_refl _, by simp⟩
  · simp at hcs
    subst hcs
    have hC := perms_rows hl hm hr
    refine ⟨a, some x, cap, (List.range len).map fun r => (Z r).take (L r), b, by simp, hwa.1, hwa.2, by simpa using hC, by simpa using hl, ?_⟩
    intro y hy
    obtain ⟨j, hj, rfl⟩ := List.mem_map.1 hy
    have hjl : j < len := by simpa using hj
    obtain ⟨h1, h2, h3, h4, -⟩ := hr j (by omega)
    have hmx : maxLen = 9223372036854775807 := by decide
    rw [List.length_take]
    omega
end Go.Proofs.Ytpkgckccfanchaa.M

namespace Go.Proofs.Ytpkgckccfanchaa.M
open Go.RowKit YtpkgckccfanchaaW.PrintWords YtpkgckccfanchaaW.PrintLast YtpkgckccfanchaaW.PrintMore
attribute [local go_sem] pzW pzX pzY pzZ pzS pzT pzU pzV
set_option linter.unusedVariables false
set_option linter.unusedSimpArgs false
theorem trim_V {w : World} {P : Nat → Prop} {A0 : Option Addr} {l0 r : List Int} (m : Nat) (hm : m ≤ l0.length) (h : Kd.F (Kd.int .u32) w P A0 l0.length l0) (hr : l0.take m = r) :
    Kd.V (Kd.int .u32) 98 w w.heap.size (fun k_ => (P k_ ∨ w.heap.size ≤ k_)) (.slice A0 m m) r := by
  subst hr
  have hl : (l0.take m).length = m := by rw [List.length_take]; omega
  refine ⟨A0, m, by rw [hl], by rw [hl]; exact Nat.le_refl _, ?_⟩
  refine Kd.F_mono (ok := P) ?_ (fun _ hk => .inl hk)
  refine Kd.F_imp h (fun W' hC => ?_); rw [hl]; exact Kd.C_of_reads (enc := Value.int .u32) (d := (0 : Int)) (ReadsOf.take_ (Kd.reads_of_C hC) m hm)
def integer_trim.f (l0 : List Int) : Option (List Int) := if l0.length < 35184372088832 then some (trimZ l0) else none
theorem integer_trim.calls (P0_ : Nat → Prop) (A0 : Option Addr) (c0 : Nat) (l0 : List Int) (r : List Int) (w : World) (hs0 : Kd.V (Kd.int .u32) 98 w w.heap.size (fun k_ => P0_ k_) (.slice A0 l0.length c0) l0) (h : integer_trim.f l0 = some r) :
    Calls Try.prog 117 #[.slice A0 l0.length c0] w fun e w' => ∃ v0_ : Value, e = .returned (v0_) ∧ Kd.V (Kd.int .u32) 98 w' w.heap.size (fun k_ => (P0_ k_ ∨ w.heap.size ≤ k_)) v0_ r ∧ Below w.heap.size w w' := by
  have hl : l0.length < 35184372088832 := by unfold integer_trim.f at h; split at h <;> simp_all
  have hr : trimZ l0 = r := by unfold integer_trim.f at h; rw [if_pos hl] at h; exact Option.some.inj h
  clear h; obtain ⟨A, c, e0, hc0, hF⟩ := hs0
  simp only [Value.slice.injEq, true_and] at e0
  obtain ⟨rfl, rfl⟩ := e0; have HF := Aside0.mk hF; have HR0 := Aside0.mk (show Kd.C (Kd.int .u32) w A0 l0.length l0 from Kd.F_now hF); clear hF; have H := Aside0.mk hr; clear hr
  go_enter Try.func117, Try.ntmps117
  go_wp2
  go_loop [3] (fun v => ∃ k : Nat, k ≤ l0.length ∧ v = .int .i64 k ∧ Aside0 (trimZ (l0.take k) = r)) (fun v => (intOf v).toNat)
  case atStart => exact ⟨l0.length, Nat.le_refl _, rfl, ⟨by rw [List.take_length]; exact H.out⟩⟩
  case round =>
    obtain ⟨k, hk, rfl, HE⟩ := hrel
    by_cases h0 : 0 < k
    · obtain ⟨k, rfl⟩ : ∃ j, k = j + 1 := ⟨k - 1, by omega⟩
      obtain ⟨ad, e1, hx⟩ := Kd.at_int HR0.out (k : Int) (by omega) (by omega); cases e1
      simp only [Int.toNat_natCast] at hx
      have ht := take_snoc_rd l0 k hk
      by_cases hz : rd l0 (k : Int) = 0
      · have hz0 : (rd l0 (k : Int) == 0) = true := by simp [hz]
        have HE2 : Aside0 (trimZ (l0.take k) = r) := ⟨by have := HE.out; rw [ht, hz, trimZ_snoc0] at this; exact this⟩
        clear HE ht hz
        go_wp2
        exact ⟨⟨k, by omega, rfl, HE2⟩, by simp [intOf]⟩
      · have hz0 : (rd l0 (k : Int) == 0) = false := by simp [hz]
        have HE2 : Aside0 (l0.take (k + 1) = r) := ⟨by have := HE.out; rw [ht, trimZ_snoc _ _ hz, ← ht] at this; exact this⟩
        clear HE ht hz; have HT := Aside0.mk (trim_V (k + 1) hk HF.out HE2.out); clear HE2
        go_wp2
        go_ret
        exact ⟨_, rfl, HT.out, Below.refl _ _⟩
    · obtain rfl : k = 0 := by omega
      have HT := Aside0.mk (trim_V 0 hk HF.out (by have := HE.out; simpa [trimZ_nil] using this)); clear HE
      go_wp2
      go_ret
      exact ⟨_, rfl, HT.out, Below.refl _ _⟩
end Go.Proofs.Ytpkgckccfanchaa.M

namespace Go.Proofs.Ytpkgckccfanchaa.M
open Go.RowKit YtpkgckccfanchaaW.PrintWords YtpkgckccfanchaaW.PrintLast YtpkgckccfanchaaW.PrintMore
attribute [local go_sem] pzW pzX pzY pzZ pzS pzT pzU pzV
set_option linter.unusedVariables false
set_option linter.unusedSimpArgs false
def integer_signed.f (a0 : Bool) (l1 : List Int) : Option (Bool × List Int) := (integer_trim.f l1).bind fun t128 => (if (t128.length : Int) = 0 then (some (false, ([] : List Int))) else (some (a0, t128)))
set_option maxHeartbeats 8000000 in
set_option maxRecDepth 100000 in
theorem integer_signed.calls (a0 : Bool) (P1_ : Nat → Prop) (A1 : Option Addr) (c1 : Nat) (l1 : List Int) (r1 : Bool) (r2 : List Int) (w : World) (hs1 : Kd.V (Kd.int .u32) 98 w w.heap.size (fun k_ => P1_ k_) (.slice A1 l1.length c1) l1) (h : integer_signed.f a0 l1 = some (r1, r2)) :
    Calls Try.prog 102 #[.bool a0, .slice A1 l1.length c1] w fun e w' => ∃ v1_ : Value, e = .returned (.agg #[.bool r1, v1_]) ∧ Kd.V (Kd.int .u32) 98 w' w.heap.size (fun k_ => (P1_ k_ ∨ w.heap.size ≤ k_)) v1_ r2 ∧ Below w.heap.size w w' := by
  have hu24 := Try.underlying24; have HO1 := Aside0.mk (show Kd.V (Kd.int .u32) 98 w w.heap.size (fun k_ => (P1_ k_ ∨ w.heap.size ≤ k_)) (.slice A1 l1.length c1) l1 from Kd.V_mono hs1 (fun k_ hk => .inl hk)); have HB := Aside0.mk (Below.refl w.heap.size w); have H : ((integer_trim.f l1).bind fun t128 => (if (t128.length : Int) = 0 then (some (false, ([] : List Int))) else (some (a0, t128)))) = some (r1, r2) := h; clear h; replace H := Option.bind_eq_some_iff.mp H; obtain ⟨t128, A30, H⟩ := H; replace H : (if (t128.length : Int) = 0 then (some (false, ([] : List Int))) else (some (a0, t128))) = some (r1, r2) := H; have A3 := Aside0.mk A30; clear A30
  by_cases c4 : (t128.length : Int) = 0
  · rw [if_pos c4] at H
    have c4b0 : ((t128.length : Int) == 0) = true := beq_iff_eq.mpr c4; have c4b1 : ((t128.length : Int) != 0) = false := bne_eq_false_iff_eq.mpr c4; clear c4
    simp only [Option.some.injEq, Prod.mk.injEq] at H
    obtain ⟨rfl, rfl⟩ := H
    go_enter Try.func102, Try.ntmps102
    go_wp2_with (first | ((with_reducible refine pzQ (N := 4) rfl ?_); refine pzR ?hg (N := 4) ?hd (cs := #[.bool false, .slice none 0 0]) (t := 24) ?hr ?_; (case hd => rfl); (case hg => rfl); (case hr => first | (go_simp; done) | (go_simp; rfl)); intro gb127 hg w5 hbox hb; have n0_ := Aside0.mk (Kd.V_below (Kd.V_elderB (by (with_reducible repeat (first | apply Kd.V_alloc | apply Kd.V_drewN | apply Kd.V_drew)); exact HO1.out) gb127 (Nat.le_of_eq hg.symm)) hb); have n1_ := Aside0.mk (pzL (by repeat (first | (with_reducible first | exact HB.out | apply pzB | apply pzA | apply pzC) | exact HB.out)) hb); have n2_ := Aside0.mk (hbox); have n3_ := Aside0.mk ((by rw [hg]; exact (pzJ (by repeat (first | (with_reducible first | exact HB.out | apply pzB | apply pzA | apply pzC) | exact HB.out))) : w.heap.size ≤ gb127)); have n4_ := Aside0.mk ((by rw [hg]; exact (pzJ (by repeat (first | (with_reducible first | exact HB.out | apply pzB | apply pzA | apply pzC) | exact HB.out))) : w.heap.size ≤ gb127)); clear HO1; clear HB; have HO1 := n0_; have HB := n1_; have BK127 := n2_; have GW127 := n3_; have GE127 := n4_; clear n0_ n1_ n2_ n3_ n4_; clear hb hbox hg) | ((with_reducible refine pzP (f := 117) rfl ?_); refine pyH (some 6) rfl rfl Try.func117 (by kernel_rfl) rfl #[.slice A1 l1.length c1] rfl (by (try simp only [List.map_toArray, List.map_cons, List.map_nil]); first | done | rfl | (simp only [List.length_drop, List.length_take]; rfl)) ?_; (with_reducible refine (integer_trim.calls (fun k_ => ((P1_ k_ ∨ w.heap.size ≤ k_) ∧ k_ ≠ gb127)) _ _ l1 t128 _ ?side1 A3.out).mono ?_); (case side1 => exact HO1.out); rintro e w6 ⟨v129, rfl, ho0, hb⟩; refine ⟨_, rfl, ?_⟩; have n0_ := Aside0.mk (Kd.V_below (by (with_reducible repeat (first | apply Kd.V_alloc | apply Kd.V_drewN | apply Kd.V_drew)); exact HO1.out) hb); have n1_ := Aside0.mk (Kd.V_lower (Kd.V_mono (ok' := fun k_ => (P1_ k_ ∨ w.heap.size ≤ k_) ∧ k_ ≠ gb127) ho0 (fun k_ hk_ => ⟨Or.elim hk_ (fun hs_ => hs_.1) (fun hn_ => (.inr (Nat.le_trans (pzJ (by repeat (first | (with_reducible first | exact HB.out | apply pzB | apply pzA | apply pzC | refine pzD ?_ GE127.out) | exact HB.out))) hn_))), Or.elim hk_ (fun hs_ => hs_.2) (fun hn_ => (Kd.freshB (g := gb127) (o := .cells #[.bool false, .slice none 0 0] 24 (0, 0)) (by (with_reducible repeat (first | refine pzF ?_ _ | refine pzG ?_ | refine pzE ?_ _)); exact BK127.out) k_ hn_))⟩)) (pzJ (by repeat (first | (with_reducible first | exact HB.out | apply pzB | apply pzA | apply pzC | refine pzD ?_ GE127.out) | exact HB.out)))); have n2_ := Aside0.mk (pzI (g := gb127) (o := .cells #[.bool false, .slice none 0 0] 24 (0, 0)) (by (with_reducible repeat (first | refine pzF ?_ _ | refine pzG ?_ | refine pzE ?_ _)); exact BK127.out) hb); have n3_ := Aside0.mk (pzL (by repeat (first | (with_reducible first | exact HB.out | apply pzB | apply pzA | apply pzC | refine pzD ?_ GE127.out) | exact HB.out)) hb); clear HO1; clear BK127; clear HB; have HO1 := n0_; have HO130 := n1_; have BK127 := n2_; have HB := n3_; clear n0_ n1_ n2_ n3_; (try clear hb); (try clear hb2); (try clear hk); (try clear hi); (try clear ho0); obtain ⟨Ao7, co7, eo7⟩ := Kd.V_slice HO130.out; subst eo7; have hcz8_0 : w6.cell? ⟨gb127, 0, none⟩ = some (.bool false) := (pzH BK127.out 0).trans rfl; have hcz8_1 : w6.cell? ⟨gb127, 1, none⟩ = some (.slice none 0 0) := (pzH BK127.out 1).trans rfl; have hfz8_0 := pzK BK127.out 0; have hfz8_1 := pzK BK127.out 1))
    refine bodyPost_ret (results_cell_row rfl _ _ gb127 24 #[.bool false, .slice none 0 0] (0, 0) _ rfl (by (with_reducible repeat (first | refine pzF ?_ _ | refine pzG ?_ | refine pzE ?_ _)); refine pyC (cs := #[.bool false, .slice none 0 0]) ?_ 1 _ rfl; (with_reducible repeat (first | refine pzF ?_ _ | refine pzG ?_ | refine pzE ?_ _)); refine pyC (cs := #[.bool false, .slice none 0 0]) ?_ 0 _ rfl; (with_reducible repeat (first | refine pzF ?_ _ | refine pzG ?_ | refine pzE ?_ _)); exact BK127.out) Try.underlying24 rfl (by kernel_rfl)) rfl ?_
    exact ⟨_, by first | rfl | (simp [pzN, pzM] <;> rfl) | (simp [*, pzN, pzM] <;> rfl), Kd.V_nil _ _ _ _ _, by repeat (first | (with_reducible first | exact HB.out | apply pzB | apply pzA | apply pzC | refine pzD ?_ GE127.out) | exact HB.out)⟩
  · rw [if_neg c4] at H
    have c4b0 : ((t128.length : Int) == 0) = false := beq_eq_false_iff_ne.mpr c4; have c4b1 : ((t128.length : Int) != 0) = true := bne_iff_ne.mpr c4
    have c4b2 : ¬ (t128 = []) := fun h_ => c4 (by rw [h_]; rfl)
    simp only [Option.some.injEq, Prod.mk.injEq] at H
    obtain ⟨rfl, rfl⟩ := H
    go_enter Try.func102, Try.ntmps102
    go_wp2_with (first | ((with_reducible refine pzQ (N := 4) rfl ?_); refine pzR ?hg (N := 4) ?hd (cs := #[.bool false, .slice none 0 0]) (t := 24) ?hr ?_; (case hd => rfl); (case hg => rfl); (case hr => first | (go_simp; done) | (go_simp; rfl)); intro gb127 hg w9 hbox hb; have n0_ := Aside0.mk (Kd.V_below (Kd.V_elderB (by (with_reducible repeat (first | apply Kd.V_alloc | apply Kd.V_drewN | apply Kd.V_drew)); exact HO1.out) gb127 (Nat.le_of_eq hg.symm)) hb); have n1_ := Aside0.mk (pzL (by repeat (first | (with_reducible first | exact HB.out | apply pzB | apply pzA | apply pzC) | exact HB.out)) hb); have n2_ := Aside0.mk (hbox); have n3_ := Aside0.mk ((by rw [hg]; exact (pzJ (by repeat (first | (with_reducible first | exact HB.out | apply pzB | apply pzA | apply pzC) | exact HB.out))) : w.heap.size ≤ gb127)); have n4_ := Aside0.mk ((by rw [hg]; exact (pzJ (by repeat (first | (with_reducible first | exact HB.out | apply pzB | apply pzA | apply pzC) | exact HB.out))) : w.heap.size ≤ gb127)); clear HO1; clear HB; have HO1 := n0_; have HB := n1_; have BK127 := n2_; have GW127 := n3_; have GE127 := n4_; clear n0_ n1_ n2_ n3_ n4_; clear hb hbox hg) | ((with_reducible refine pzP (f := 117) rfl ?_); refine pyH (some 6) rfl rfl Try.func117 (by kernel_rfl) rfl #[.slice A1 l1.length c1] rfl (by (try simp only [List.map_toArray, List.map_cons, List.map_nil]); first | done | rfl | (simp only [List.length_drop, List.length_take]; rfl)) ?_; (with_reducible refine (integer_trim.calls (fun k_ => ((P1_ k_ ∨ w.heap.size ≤ k_) ∧ k_ ≠ gb127)) _ _ l1 t128 _ ?side1 A3.out).mono ?_); (case side1 => exact HO1.out); rintro e w10 ⟨v129, rfl, ho0, hb⟩; refine ⟨_, rfl, ?_⟩; have n0_ := Aside0.mk (Kd.V_below (by (with_reducible repeat (first | apply Kd.V_alloc | apply Kd.V_drewN | apply Kd.V_drew)); exact HO1.out) hb); have n1_ := Aside0.mk (Kd.V_lower (Kd.V_mono (ok' := fun k_ => (P1_ k_ ∨ w.heap.size ≤ k_) ∧ k_ ≠ gb127) ho0 (fun k_ hk_ => ⟨Or.elim hk_ (fun hs_ => hs_.1) (fun hn_ => (.inr (Nat.le_trans (pzJ (by repeat (first | (with_reducible first | exact HB.out | apply pzB | apply pzA | apply pzC | refine pzD ?_ GE127.out) | exact HB.out))) hn_))), Or.elim hk_ (fun hs_ => hs_.2) (fun hn_ => (Kd.freshB (g := gb127) (o := .cells #[.bool false, .slice none 0 0] 24 (0, 0)) (by (with_reducible repeat (first | refine pzF ?_ _ | refine pzG ?_ | refine pzE ?_ _)); exact BK127.out) k_ hn_))⟩)) (pzJ (by repeat (first | (with_reducible first | exact HB.out | apply pzB | apply pzA | apply pzC | refine pzD ?_ GE127.out) | exact HB.out)))); have n2_ := Aside0.mk (pzI (g := gb127) (o := .cells #[.bool false, .slice none 0 0] 24 (0, 0)) (by (with_reducible repeat (first | refine pzF ?_ _ | refine pzG ?_ | refine pzE ?_ _)); exact BK127.out) hb); have n3_ := Aside0.mk (pzL (by repeat (first | (with_reducible first | exact HB.out | apply pzB | apply pzA | apply pzC | refine pzD ?_ GE127.out) | exact HB.out)) hb); clear HO1; clear BK127; clear HB; have HO1 := n0_; have HO130 := n1_; have BK127 := n2_; have HB := n3_; clear n0_ n1_ n2_ n3_; (try clear hb); (try clear hb2); (try clear hk); (try clear hi); (try clear ho0); obtain ⟨Ao11, co11, eo11⟩ := Kd.V_slice HO130.out; subst eo11; have hcz12_0 : w10.cell? ⟨gb127, 0, none⟩ = some (.bool false) := (pzH BK127.out 0).trans rfl; have hcz12_1 : w10.cell? ⟨gb127, 1, none⟩ = some (.slice none 0 0) := (pzH BK127.out 1).trans rfl; have hfz12_0 := pzK BK127.out 0; have hfz12_1 := pzK BK127.out 1))
    refine bodyPost_ret (results_cell_row rfl _ _ gb127 24 #[.bool a0, .slice Ao11 t128.length co11] (0, 0) _ rfl (by (with_reducible repeat (first | refine pzF ?_ _ | refine pzG ?_ | refine pzE ?_ _)); refine pyC (cs := #[.bool a0, .slice none 0 0]) ?_ 1 _ rfl; (with_reducible repeat (first | refine pzF ?_ _ | refine pzG ?_ | refine pzE ?_ _)); refine pyC (cs := #[.bool false, .slice none 0 0]) ?_ 0 _ rfl; (with_reducible repeat (first | refine pzF ?_ _ | refine pzG ?_ | refine pzE ?_ _)); exact BK127.out) Try.underlying24 rfl (by kernel_rfl)) rfl ?_
    exact ⟨_, by first | rfl | (simp [pzN, pzM] <;> rfl) | (simp [*, pzN, pzM] <;> rfl), by (with_reducible repeat (first | apply Kd.V_alloc | apply Kd.V_drewN | apply Kd.V_drew)); exact Kd.V_mono (Kd.V_far (p := ⟨gb127, 1, none⟩) (Kd.V_far (p := ⟨gb127, 0, none⟩) (Kd.V_mono HO130.out (fun k_ hk => (⟨hk, hk.2⟩ : _ ∧ k_ ≠ gb127))) (fun _ hk => hk.2) (.bool a0)) (fun _ hk => hk.2) (.slice Ao11 t128.length co11)) (fun _ hk => hk.1.1), by repeat (first | (with_reducible first | exact HB.out | apply pzB | apply pzA | apply pzC | refine pzD ?_ GE127.out) | exact HB.out)⟩
end Go.Proofs.Ytpkgckccfanchaa.M

namespace Go.Proofs.Ytpkgckccfanchaa.M
open Go.RowKit YtpkgckccfanchaaW.PrintWords YtpkgckccfanchaaW.PrintLast YtpkgckccfanchaaW.PrintMore
attribute [local go_sem] pzW pzX pzY pzZ pzS pzT pzU pzV
set_option linter.unusedVariables false
set_option linter.unusedSimpArgs false
theorem lit_V {k : IntKind} {e : Nat} {W : World} (x y : Int) (base g : Nat) (hg : g = W.heap.size) (hb : base ≤ W.heap.size) :
    Kd.V (Kd.int k) e (W.alloc (.cells #[.int k x, .int k y] e)) (W.alloc (.cells #[.int k x, .int k y] e)).heap.size (fun k_ => base ≤ k_) (.slice (some ⟨g, 0, none⟩) [x, y].length 2) [x, y] := by
  subst hg
  refine Kd.V_mk (xs := [x, y]) (Nat.le_refl _) ?_
  intro W' hW'; have hblk := hW' W.heap.size hb (by simp)
  rw [heap_alloc_new] at hblk
  refine Kd.C_of_reads (enc := Value.int k) (d := (0 : Int)) ⟨rfl, by simp, fun _ => ⟨_, rfl, fun i hi => ?_⟩⟩
  match i, hi with
  | 0, _ => simpa [Addr.add] using pzH hblk 0
  | 1, _ => simpa [Addr.add] using pzH hblk 1
def integer_Small.f (a0 : Int) : Option (Bool × List Int) := if -9223372036854775808 ≤ a0 ∧ a0 < 9223372036854775808 then integer_signed.f (decide (a0 < 0)) [(a0.natAbs : Int) % 4294967296, (a0.natAbs : Int) / 4294967296 % 4294967296] else none
set_option maxHeartbeats 1000000 in
theorem integer_Small.calls (a0 : Int) (r1 : Bool) (r2 : List Int) (w : World) (h : integer_Small.f a0 = some (r1, r2)) :
    Calls Try.prog 71 #[.int .i64 a0] w fun e w' => ∃ v1_ : Value, e = .returned (.agg #[.bool r1, v1_]) ∧ Kd.V (Kd.int .u32) 98 w' w.heap.size (fun k_ => (w.heap.size ≤ k_)) v1_ r2 ∧ Below w.heap.size w w' := by
  unfold integer_Small.f at h
  split at h
  case isFalse => simp at h
  case isTrue hx =>
  obtain ⟨h1, h2⟩ := hx
  by_cases hn : a0 < 0
  all_goals
    obtain ⟨u, hu⟩ : ∃ u, u = (a0.natAbs : Int) := ⟨_, rfl⟩
    rw [← hu] at h
    simp only [hn, decide_true, decide_false] at h
    have H := Aside0.mk h; have HU := Aside0.mk (show IntKind.u64.wrap (-IntKind.u64.wrap a0) = -a0 ∨ IntKind.u64.wrap a0 = a0 from by simp only [IntKind.wrap_u64]; omega); clear h
  · have hw : Aside0 (IntKind.u64.wrap (-IntKind.u64.wrap a0) = u) := ⟨by simp only [IntKind.wrap_u64]; omega⟩
    clear hu
    go_enter Try.func71, Try.ntmps71
    go_wp2_with fail
    rw [hw.out]
    refine (integer_signed.calls true (fun k_ => w.heap.size + 1 ≤ k_) (some ⟨w.heap.size + 1, 0, none⟩) 2 [u % 4294967296, u / 4294967296 % 4294967296] r1 r2 _ (lit_V _ _ _ _ (by simp) (by simp)) H.out).mono ?_
    rintro e w' ⟨v1, rfl, hV, hB⟩; have hblk := pzI (pzE (blk_new w (.cells #[.bool false, .slice none 0 0] 24)) _) hB; have hc0 := pzH hblk 0; have hc1 := pzH hblk 1; have hf0 := pzK hblk 0; have hf1 := pzK hblk 1; obtain ⟨A1, c1, rfl⟩ := Kd.V_slice hV; have hV2 := Kd.V_mono (Kd.V_far (p := ⟨w.heap.size, 1, none⟩) (Kd.V_far (p := ⟨w.heap.size, 0, none⟩) hV (fun k hk => by have := hk; simp at this; simp; omega) (.bool r1)) (fun k hk => by have := hk; simp at this; simp; omega) (.slice A1 r2.length c1)) (ok' := fun k_ => w.heap.size ≤ k_) (fun k hk => by have := hk; simp at this; omega); have hblk2 := pyC (pyC hblk 0 (.bool r1) rfl) 1 (.slice A1 r2.length c1) rfl; have hB2 := pzD (j := 1) (v := .slice A1 r2.length c1) (pzD (j := 0) (v := .bool r1) (pzL (w := w) (pzB (pzB (Below.refl _ _) _) _) hB) (Nat.le_refl _)) (Nat.le_refl _); have HV := Aside0.mk hV2; have HBL := Aside0.mk hblk2; have HB := Aside0.mk hB2; clear hV2 hblk hblk2 hB2 hB hV
    go_wp2
    refine bodyPost_ret (results_cell_row rfl _ _ w.heap.size 24 #[.bool r1, .slice A1 r2.length c1] (0, 0) _ rfl HBL.out Try.underlying24 rfl (by kernel_rfl)) rfl ?_
    exact ⟨_, rfl, HV.out, HB.out⟩
  · have H2 : Aside0 (integer_signed.f false [a0 % 4294967296, a0 / 4294967296] = some (r1, r2)) := ⟨by have h := H.out; rw [show u = a0 from by omega, show a0 / 4294967296 % 4294967296 = a0 / 4294967296 from by omega] at h; exact h⟩
    clear hu H
    go_enter Try.func71, Try.ntmps71
    go_wp2_with fail
    refine (integer_signed.calls false (fun k_ => w.heap.size + 1 ≤ k_) (some ⟨w.heap.size + 1, 0, none⟩) 2 [a0 % 4294967296, a0 / 4294967296] r1 r2 _ (lit_V _ _ _ _ (by simp) (by simp)) H2.out).mono ?_
    rintro e w' ⟨v1, rfl, hV, hB⟩; have hblk := pzI (pzE (blk_new w (.cells #[.bool false, .slice none 0 0] 24)) _) hB; have hc0 := pzH hblk 0; have hc1 := pzH hblk 1; have hf0 := pzK hblk 0; have hf1 := pzK hblk 1; obtain ⟨A1, c1, rfl⟩ := Kd.V_slice hV; have hV2 := Kd.V_mono (Kd.V_far (p := ⟨w.heap.size, 1, none⟩) (Kd.V_far (p := ⟨w.heap.size, 0, none⟩) hV (fun k hk => by have := hk; simp at this; simp; omega) (.bool r1)) (fun k hk => by have := hk; simp at this; simp; omega) (.slice A1 r2.length c1)) (ok' := fun k_ => w.heap.size ≤ k_) (fun k hk => by have := hk; simp at this; omega); have hblk2 := pyC (pyC hblk 0 (.bool r1) rfl) 1 (.slice A1 r2.length c1) rfl; have hB2 := pzD (j := 1) (v := .slice A1 r2.length c1) (pzD (j := 0) (v := .bool r1) (pzL (w := w) (pzB (pzB (Below.refl _ _) _) _) hB) (Nat.le_refl _)) (Nat.le_refl _); have HV := Aside0.mk hV2; have HBL := Aside0.mk hblk2; have HB := Aside0.mk hB2; clear hV2 hblk hblk2 hB2 hB hV
    go_wp2
    refine bodyPost_ret (results_cell_row rfl _ _ w.heap.size 24 #[.bool r1, .slice A1 r2.length c1] (0, 0) _ rfl HBL.out Try.underlying24 rfl (by kernel_rfl)) rfl ?_
    exact ⟨_, rfl, HV.out, HB.out⟩
end Go.Proofs.Ytpkgckccfanchaa.M

namespace Go.Proofs.Ytpkgckccfanchaa.M
open Go.RowKit YtpkgckccfanchaaW.PrintWords YtpkgckccfanchaaW.PrintLast YtpkgckccfanchaaW.PrintMore
attribute [local go_sem] pzW pzX pzY pzZ pzS pzT pzU pzV
set_option linter.unusedVariables false
set_option linter.unusedSimpArgs false
def w8 (a0 a1 a2 a3 a4 a5 a6 a7 : Int) (i : Nat) : Int := [a0, a1, a2, a3, a4, a5, a6, a7].getD i 0
theorem w8_at (a0 a1 a2 a3 a4 a5 a6 a7 : Int) (i : Nat) (h : i < 8) : [Value.int .u64 a0, .int .u64 a1, .int .u64 a2, .int .u64 a3, .int .u64 a4, .int .u64 a5, .int .u64 a6, .int .u64 a7][i]? = some (.int .u64 (w8 a0 a1 a2 a3 a4 a5 a6 a7 i)) := by
  match i, h with
  | 0, _ | 1, _ | 2, _ | 3, _ | 4, _ | 5, _ | 6, _ | 7, _ => rfl
def bit8 (v x : Int) : Bool := bits BinOp.and .u64 (v / 2 ^ (x % 64).toNat) 1 == 1
def pm_set_has.f (a0_0 a0_1 a0_2 a0_3 a0_4 a0_5 a0_6 a0_7 a1 : Int) : Option Bool := if 0 ≤ a1 ∧ a1 < 512 then some (bit8 (w8 a0_0 a0_1 a0_2 a0_3 a0_4 a0_5 a0_6 a0_7 (a1 / 64).toNat) a1) else none
theorem pm_set_has.calls (a0_0 : Int) (a0_1 : Int) (a0_2 : Int) (a0_3 : Int) (a0_4 : Int) (a0_5 : Int) (a0_6 : Int) (a0_7 : Int) (a1 : Int) (r : Bool) (w : World) (h : pm_set_has.f a0_0 a0_1 a0_2 a0_3 a0_4 a0_5 a0_6 a0_7 a1 = some r) :
    Calls Try.prog 109 #[.agg #[.int .u64 a0_0, .int .u64 a0_1, .int .u64 a0_2, .int .u64 a0_3, .int .u64 a0_4, .int .u64 a0_5, .int .u64 a0_6, .int .u64 a0_7], .int .i64 a1] w fun e w' => e = .returned (.bool r) ∧ Below w.heap.size w w' := by
  unfold pm_set_has.f at h
  split at h
  case isFalse => simp at h
  case isTrue hx =>
  obtain ⟨h0, h1⟩ := hx; have hr := Option.some.inj h; clear h; subst hr
  unfold bit8
  have hw := w8_at a0_0 a0_1 a0_2 a0_3 a0_4 a0_5 a0_6 a0_7 (a1 / 64).toNat (by omega)
  generalize w8 a0_0 a0_1 a0_2 a0_3 a0_4 a0_5 a0_6 a0_7 (a1 / 64).toNat = v at hw
  have hs0 : 0 ≤ a1 % 64 := by omega
  have hs1 : a1 % 64 < 64 := by omega
  go_enter Try.func109, Try.ntmps109
  go_wp2
  go_ret
  exact ⟨rfl, pzB (Below.refl _ _) _⟩
end Go.Proofs.Ytpkgckccfanchaa.M

namespace Go.Proofs.Ytpkgckccfanchaa.M
open Go.RowKit YtpkgckccfanchaaW.PrintWords YtpkgckccfanchaaW.PrintLast YtpkgckccfanchaaW.PrintMore
attribute [local go_sem] pzW pzX pzY pzZ pzS pzT pzU pzV
set_option linter.unusedVariables false
set_option linter.unusedSimpArgs false
def integer_magnitude.f (a0_0 : Bool) (l0_1 : List Int) : Option (List Int) := (integer_trim.f l0_1).bind fun t132 => (some t132)
set_option maxHeartbeats 8000000 in
set_option maxRecDepth 100000 in
theorem integer_magnitude.calls (a0_0 : Bool) (P0_1_ : Nat → Prop) (A0_1 : Option Addr) (c0_1 : Nat) (l0_1 : List Int) (r : List Int) (w : World) (hs0_1 : Kd.V (Kd.int .u32) 98 w w.heap.size (fun k_ => P0_1_ k_) (.slice A0_1 l0_1.length c0_1) l0_1) (h : integer_magnitude.f a0_0 l0_1 = some r) :
    Calls Try.prog 101 #[.agg #[.bool a0_0, .slice A0_1 l0_1.length c0_1]] w fun e w' => ∃ v0_ : Value, e = .returned (v0_) ∧ Kd.V (Kd.int .u32) 98 w' w.heap.size (fun k_ => (P0_1_ k_ ∨ w.heap.size ≤ k_)) v0_ r ∧ Below w.heap.size w w' := by
  have hu24 := Try.underlying24; have HO0_1 := Aside0.mk (show Kd.V (Kd.int .u32) 98 w w.heap.size (fun k_ => (P0_1_ k_ ∨ w.heap.size ≤ k_)) (.slice A0_1 l0_1.length c0_1) l0_1 from Kd.V_mono hs0_1 (fun k_ hk => .inl hk)); have HB := Aside0.mk (Below.refl w.heap.size w); have H : ((integer_trim.f l0_1).bind fun t132 => (some t132)) = some r := h; clear h; replace H := Option.bind_eq_some_iff.mp H; obtain ⟨t132, A20, H⟩ := H; replace H : (some t132) = some r := H; have A2 := Aside0.mk A20; clear A20; obtain rfl := Option.some.inj H
  go_enter Try.func101, Try.ntmps101
  go_wp2_with (first | ((with_reducible refine pzQ (N := 1) rfl ?_); refine pzR ?hg (N := 1) ?hd (cs := #[.bool a0_0, .slice A0_1 l0_1.length c0_1]) (t := 24) ?hr ?_; (case hd => rfl); (case hg => rfl); (case hr => first | (go_simp; done) | (go_simp; rfl)); intro gb131 hg w3 hbox hb; have n0_ := Aside0.mk (Kd.V_below (Kd.V_elderB (by (with_reducible repeat (first | apply Kd.V_alloc | apply Kd.V_drewN | apply Kd.V_drew)); exact HO0_1.out) gb131 (Nat.le_of_eq hg.symm)) hb); have n1_ := Aside0.mk (pzL (by repeat (first | (with_reducible first | exact HB.out | apply pzB | apply pzA | apply pzC) | exact HB.out)) hb); have n2_ := Aside0.mk (hbox); have n3_ := Aside0.mk ((by rw [hg]; exact (pzJ (by repeat (first | (with_reducible first | exact HB.out | apply pzB | apply pzA | apply pzC) | exact HB.out))) : w.heap.size ≤ gb131)); have n4_ := Aside0.mk ((by rw [hg]; exact (pzJ (by repeat (first | (with_reducible first | exact HB.out | apply pzB | apply pzA | apply pzC) | exact HB.out))) : w.heap.size ≤ gb131)); clear HO0_1; clear HB; have HO0_1 := n0_; have HB := n1_; have BK131 := n2_; have GW131 := n3_; have GE131 := n4_; clear n0_ n1_ n2_ n3_ n4_; clear hb hbox hg; have hcz4_0 : w3.cell? ⟨gb131, 0, none⟩ = some (.bool a0_0) := (pzH BK131.out 0).trans rfl; have hcz4_1 : w3.cell? ⟨gb131, 1, none⟩ = some (.slice A0_1 l0_1.length c0_1) := (pzH BK131.out 1).trans rfl; have hfz4_0 := pzK BK131.out 0; have hfz4_1 := pzK BK131.out 1) | ((with_reducible refine pzP (f := 117) rfl ?_); refine pyH (some 5) rfl rfl Try.func117 (by kernel_rfl) rfl #[.slice A0_1 l0_1.length c0_1] rfl (by (try simp only [List.map_toArray, List.map_cons, List.map_nil]); first | done | rfl | (simp only [List.length_drop, List.length_take]; rfl)) ?_; (with_reducible refine (integer_trim.calls (fun k_ => ((P0_1_ k_ ∨ w.heap.size ≤ k_) ∧ k_ ≠ gb131)) _ _ l0_1 t132 _ ?side1 A2.out).mono ?_); (case side1 => exact HO0_1.out); rintro e w5 ⟨v133, rfl, ho0, hb⟩; refine ⟨_, rfl, ?_⟩; have n0_ := Aside0.mk (Kd.V_below (by (with_reducible repeat (first | apply Kd.V_alloc | apply Kd.V_drewN | apply Kd.V_drew)); exact HO0_1.out) hb); have n1_ := Aside0.mk (Kd.V_lower (Kd.V_mono (ok' := fun k_ => (P0_1_ k_ ∨ w.heap.size ≤ k_) ∧ k_ ≠ gb131) ho0 (fun k_ hk_ => ⟨Or.elim hk_ (fun hs_ => hs_.1) (fun hn_ => (.inr (Nat.le_trans (pzJ (by repeat (first | (with_reducible first | exact HB.out | apply pzB | apply pzA | apply pzC | refine pzD ?_ GE131.out) | exact HB.out))) hn_))), Or.elim hk_ (fun hs_ => hs_.2) (fun hn_ => (Kd.freshB (g := gb131) (o := .cells #[.bool a0_0, .slice A0_1 l0_1.length c0_1] 24 (0, 0)) (by (with_reducible repeat (first | refine pzF ?_ _ | refine pzG ?_ | refine pzE ?_ _)); exact BK131.out) k_ hn_))⟩)) (pzJ (by repeat (first | (with_reducible first | exact HB.out | apply pzB | apply pzA | apply pzC | refine pzD ?_ GE131.out) | exact HB.out)))); have n2_ := Aside0.mk (pzI (g := gb131) (o := .cells #[.bool a0_0, .slice A0_1 l0_1.length c0_1] 24 (0, 0)) (by (with_reducible repeat (first | refine pzF ?_ _ | refine pzG ?_ | refine pzE ?_ _)); exact BK131.out) hb); have n3_ := Aside0.mk (pzL (by repeat (first | (with_reducible first | exact HB.out | apply pzB | apply pzA | apply pzC | refine pzD ?_ GE131.out) | exact HB.out)) hb); clear HO0_1; clear BK131; clear HB; have HO0_1 := n0_; have HO134 := n1_; have BK131 := n2_; have HB := n3_; clear n0_ n1_ n2_ n3_; (try clear hb); (try clear hb2); (try clear hk); (try clear hi); (try clear ho0)))
  go_ret
  exact ⟨_, by first | rfl | (simp [pzN, pzM] <;> rfl) | (simp [*, pzN, pzM] <;> rfl), by (with_reducible repeat (first | apply Kd.V_alloc | apply Kd.V_drewN | apply Kd.V_drew)); exact Kd.V_mono HO134.out (fun _ hk => hk.1), by repeat (first | (with_reducible first | exact HB.out | apply pzB | apply pzA | apply pzC | refine pzD ?_ GE131.out) | exact HB.out)⟩
end Go.Proofs.Ytpkgckccfanchaa.M

namespace Go.Proofs.Ytpkgckccfanchaa.M
open Go.RowKit YtpkgckccfanchaaW.PrintWords YtpkgckccfanchaaW.PrintLast YtpkgckccfanchaaW.PrintMore
attribute [local go_sem] pzW pzX pzY pzZ pzS pzT pzU pzV
set_option linter.unusedVariables false
set_option linter.unusedSimpArgs false
mutual
def integer_times.l0 : Nat → List Int → List Int → List Int → Int → Int → Option (List Int)
  | 0, _, _, _, _, _ => none
  | k + 1, x0, x1, x5, x16, x17 => if x17 < x16 then (integer_times.l1 k x0 x1 x5 x17 0 x16 x17 (x1.length : Int) 0) else ((integer_trim.f x5).bind fun t138 => (some t138))
def integer_times.l1 : Nat → List Int → List Int → List Int → Int → Int → Int → Int → Int → Int → Option (List Int)
  | 0, _, _, _, _, _, _, _, _, _ => none
  | k + 1, x0, x1, x5, x6, x7, x16, x17, x21, x22 => if x22 < x21 then (if 0 ≤ x6 then (if x6 < (x0.length : Int) then (if 0 ≤ x22 then (if x22 < (x1.length : Int) then (if 0 ≤ (wrap64 (x6 + x22)) then (if (wrap64 (x6 + x22)) < (x5.length : Int) then (integer_times.l1 k x0 x1 (x5.set ((wrap64 (x6 + x22)) : Int).toNat ((IntKind.u64.wrap (x7 + (IntKind.u64.wrap ((IntKind.u64.wrap ((IntKind.u64.wrap (rd x0 x6)) * (IntKind.u64.wrap (rd x1 x22)))) + (IntKind.u64.wrap (rd x5 (wrap64 (x6 + x22)))))))) % 4294967296)) x6 ((IntKind.u64.wrap (x7 + (IntKind.u64.wrap ((IntKind.u64.wrap ((IntKind.u64.wrap (rd x0 x6)) * (IntKind.u64.wrap (rd x1 x22)))) + (IntKind.u64.wrap (rd x5 (wrap64 (x6 + x22)))))))) / 4294967296) x16 x17 x21 (wrap64 (x22 + 1))) else (none)) else (none)) else (none)) else (none)) else (none)) else (none)) else (if 0 ≤ (wrap64 (x6 + (x1.length : Int))) then (if (wrap64 (x6 + (x1.length : Int))) < (x5.length : Int) then (integer_times.l0 k x0 x1 (x5.set ((wrap64 (x6 + (x1.length : Int))) : Int).toNat ((x7) % 4294967296)) x16 (wrap64 (x17 + 1))) else (none)) else (none))
end
def integer_times.f (k : Nat) (l0 : List Int) (l1 : List Int) : Option (List Int) := if 0 ≤ (wrap64 ((l0.length : Int) + (l1.length : Int))) then (if (wrap64 ((l0.length : Int) + (l1.length : Int)) : Int).toNat ≤ 70368744177664 then (integer_times.l0 k l0 l1 (List.replicate (wrap64 ((l0.length : Int) + (l1.length : Int)) : Int).toNat 0) (l0.length : Int) 0) else (none)) else (none)
theorem integer_times.mono_l : ∀ k, (∀ y0 y1 y2 y3 y4, LeO (integer_times.l0 k y0 y1 y2 y3 y4) (integer_times.l0 (k + 1) y0 y1 y2 y3 y4)) ∧ (∀ y0 y1 y2 y3 y4 y5 y6 y7 y8, LeO (integer_times.l1 k y0 y1 y2 y3 y4 y5 y6 y7 y8) (integer_times.l1 (k + 1) y0 y1 y2 y3 y4 y5 y6 y7 y8))
  | 0 => ⟨fun _ _ _ _ _ r h => by simp [integer_times.l0] at h, fun _ _ _ _ _ _ _ _ _ r h => by simp [integer_times.l1] at h⟩
  | k + 1 => by
    obtain ⟨ih0, ih1⟩ := integer_times.mono_l k; refine ⟨?_, ?_⟩
    · intro y0 y1 y2 y3 y4
      unfold integer_times.l0
      repeat' first
      | (with_reducible exact ih0 _ _ _ _ _)
      | (with_reducible exact ih1 _ _ _ _ _ _ _ _ _)
      | (with_reducible exact LeO.refl _)
      | (with_reducible exact LeO.none _)
      | (with_reducible refine LeO.ite ?_ ?_)
      | (with_reducible refine LeO.bind ?_ (fun _ => ?_))
      | exact ih0 _ _ _ _ _
      | exact ih1 _ _ _ _ _ _ _ _ _
      | exact LeO.none _
      | refine LeO.ite ?_ ?_
      | refine LeO.bind ?_ (fun _ => ?_)
    · intro y0 y1 y2 y3 y4 y5 y6 y7 y8
      unfold integer_times.l1
      repeat' first
      | (with_reducible exact ih0 _ _ _ _ _)
      | (with_reducible exact ih1 _ _ _ _ _ _ _ _ _)
      | (with_reducible exact LeO.refl _)
      | (with_reducible exact LeO.none _)
      | (with_reducible refine LeO.ite ?_ ?_)
      | (with_reducible refine LeO.bind ?_ (fun _ => ?_))
      | exact ih0 _ _ _ _ _
      | exact ih1 _ _ _ _ _ _ _ _ _
      | exact LeO.none _
      | refine LeO.ite ?_ ?_
      | refine LeO.bind ?_ (fun _ => ?_)
theorem integer_times.mono : ∀ a0 a1 k, LeO (integer_times.f k a0 a1) (integer_times.f (k + 1) a0 a1) := by
  intro a0 a1 k; obtain ⟨ih0, ih1⟩ := integer_times.mono_l k
  unfold integer_times.f
  repeat' first
      | (with_reducible exact ih0 _ _ _ _ _)
      | (with_reducible exact ih1 _ _ _ _ _ _ _ _ _)
      | (with_reducible exact LeO.refl _)
      | (with_reducible exact LeO.none _)
      | (with_reducible refine LeO.ite ?_ ?_)
      | (with_reducible refine LeO.bind ?_ (fun _ => ?_))
      | exact ih0 _ _ _ _ _
      | exact ih1 _ _ _ _ _ _ _ _ _
      | exact LeO.none _
      | refine LeO.ite ?_ ?_
      | refine LeO.bind ?_ (fun _ => ?_)
set_option maxHeartbeats 8000000 in
set_option maxRecDepth 100000 in
theorem integer_times.calls (k : Nat) (A0 : Option Addr) (c0 : Nat) (l0 : List Int) (A1 : Option Addr) (c1 : Nat) (l1 : List Int) (r : List Int) (w : World) (hr0 : Kd.C (Kd.int .u32) w A0 l0.length l0) (hc0 : l0.length ≤ c0) (hr1 : Kd.C (Kd.int .u32) w A1 l1.length l1) (hc1 : l1.length ≤ c1) (h : integer_times.f k l0 l1 = some r) :
    Calls Try.prog 115 #[.slice A0 l0.length c0, .slice A1 l1.length c1] w fun e w' => ∃ v0_ : Value, e = .returned (v0_) ∧ Kd.V (Kd.int .u32) 98 w' w.heap.size (fun k_ => (w.heap.size ≤ k_)) v0_ r ∧ Below w.heap.size w w' := by
  have HR0 := Aside0.mk hr0; have HC0 := Aside0.mk hc0; clear hr0 hc0; have HR1 := Aside0.mk hr1; have HC1 := Aside0.mk hc1; clear hr1 hc1; have HB := Aside0.mk (Below.refl w.heap.size w); have H : (if 0 ≤ (wrap64 ((l0.length : Int) + (l1.length : Int))) then (if (wrap64 ((l0.length : Int) + (l1.length : Int)) : Int).toNat ≤ 70368744177664 then (integer_times.l0 k l0 l1 (List.replicate (wrap64 ((l0.length : Int) + (l1.length : Int)) : Int).toNat 0) (l0.length : Int) 0) else (none)) else (none)) = some r := h; clear h
  obtain ⟨ji3, hji3⟩ : ∃ j_ : Int, (wrap64 ((l0.length : Int) + (l1.length : Int))) = j_ := ⟨_, rfl⟩
  replace H : (if 0 ≤ (ji3) then (if (ji3 : Int).toNat ≤ 70368744177664 then (integer_times.l0 k l0 l1 (List.replicate (ji3 : Int).toNat 0) (l0.length : Int) 0) else (none)) else (none)) = some r := by first | (rw [hji3] at H; exact H) | (simp only [hji3] at H ⊢; exact H)
  have hji3w : (IntKind.i64.wrap ((l0.length : Int) + (l1.length : Int))) = ji3 := (i64_w _).trans hji3
  by_cases c4 : 0 ≤ (ji3)
  · rw [if_pos c4] at H
    have c4b0 := eq_true c4; have c4b1 : decide (0 ≤ (ji3)) = true := decide_eq_true c4; clear c4
    by_cases c5 : (ji3 : Int).toNat ≤ 70368744177664
    · rw [if_pos c5] at H
      have c5b0 := eq_true c5; have c5b1 : decide ((ji3 : Int).toNat ≤ 70368744177664) = true := decide_eq_true c5; clear c5
      obtain ⟨y135, hy135⟩ : ∃ y_ : List Int, y_ = (List.replicate (ji3 : Int).toNat 0) := ⟨_, rfl⟩
      replace H : (integer_times.l0 k l0 l1 y135 (l0.length : Int) 0) = some r := by first | (rw [hy135]; with_reducible exact H) | (have H2_ := (Option.bind_some _ _).symm.trans H; rw [hy135]; with_reducible exact H2_) | (have H2_ := (Option.bind_some _ _).symm.trans H; with_reducible exact H2_) | with_reducible exact H | (rw [hy135]; exact H) | exact H
      have Ny135 := Aside0.mk hy135; clear hy135; have H' := Aside0.mk H; clear H
      go_enter Try.func115, Try.ntmps115
      go_wp2_with (first | ((with_reducible refine pzQ (N := 14) rfl ?_); refine Kd.R_make (Kd.int .u32) _ 98 rfl (N := 14) rfl 22 _ _ rfl ji3 rfl rfl Try.underlying22 (.int .u32 0) 4 info98 rfl (by decide) (by omega) 0 (ok := fun _ => True) (okp := fun _ => True) rfl (fun _ hk => hk) trivial (of_decide_eq_true (by first | (with_reducible assumption) | assumption)) (Nat.le_trans (Nat.mul_le_mul_right _ (of_decide_eq_true (by first | (with_reducible assumption) | assumption) : ji3.toNat ≤ 70368744177664)) (by omega)) (Below.refl _ _) (Nat.le_refl _) ?_; intro v136 w6 ho7 hb hg_ hnew_; clear hg_ hnew_; (first | rw [← Ny135.out] at ho7 | (simp only [Int.reduceToNat] at ho7; rw [← Ny135.out] at ho7)); have n0_ := Aside0.mk (Kd.R_lower (Kd.R_newM (M := fun k_ => (w.heap.size ≤ k_)) ho7 (pzJ (by repeat (first | (with_reducible first | exact HB.out | apply pzB | apply pzA | apply pzC) | exact HB.out))) (fun k_ h_ => h_)) (pzJ (by repeat (first | (with_reducible first | exact HB.out | apply pzB | apply pzA | apply pzC) | exact HB.out)))); have n1_ := Aside0.mk (pzL (by repeat (first | (with_reducible first | exact HB.out | apply pzB | apply pzA | apply pzC) | exact HB.out)) hb); clear HB; have HO137 := n0_; have HB := n1_; clear n0_ n1_; clear hb ho7))
      repeat (go_quiet (first | ((with_reducible refine pzQ (N := 14) rfl ?_); refine Kd.R_make (Kd.int .u32) _ 98 rfl (N := 14) rfl 22 _ _ rfl ji3 rfl rfl Try.underlying22 (.int .u32 0) 4 info98 rfl (by decide) (by omega) 0 (ok := fun _ => True) (okp := fun _ => True) rfl (fun _ hk => hk) trivial (of_decide_eq_true (by first | (with_reducible assumption) | assumption)) (Nat.le_trans (Nat.mul_le_mul_right _ (of_decide_eq_true (by first | (with_reducible assumption) | assumption) : ji3.toNat ≤ 70368744177664)) (by omega)) (Below.refl _ _) (Nat.le_refl _) ?_; intro v136 w6 ho7 hb hg_ hnew_; clear hg_ hnew_; (first | rw [← Ny135.out] at ho7 | (simp only [Int.reduceToNat] at ho7; rw [← Ny135.out] at ho7)); have n0_ := Aside0.mk (Kd.R_lower (Kd.R_newM (M := fun k_ => (w.heap.size ≤ k_)) ho7 (pzJ (by repeat (first | (with_reducible first | exact HB.out | apply pzB | apply pzA | apply pzC) | exact HB.out))) (fun k_ h_ => h_)) (pzJ (by repeat (first | (with_reducible first | exact HB.out | apply pzB | apply pzA | apply pzC) | exact HB.out)))); have n1_ := Aside0.mk (pzL (by repeat (first | (with_reducible first | exact HB.out | apply pzB | apply pzA | apply pzC) | exact HB.out)) hb); clear HB; have HO137 := n0_; have HB := n1_; clear n0_ n1_; clear hb ho7)); try go_wp2_with (first | ((with_reducible refine pzQ (N := 14) rfl ?_); refine Kd.R_make (Kd.int .u32) _ 98 rfl (N := 14) rfl 22 _ _ rfl ji3 rfl rfl Try.underlying22 (.int .u32 0) 4 info98 rfl (by decide) (by omega) 0 (ok := fun _ => True) (okp := fun _ => True) rfl (fun _ hk => hk) trivial (of_decide_eq_true (by first | (with_reducible assumption) | assumption)) (Nat.le_trans (Nat.mul_le_mul_right _ (of_decide_eq_true (by first | (with_reducible assumption) | assumption) : ji3.toNat ≤ 70368744177664)) (by omega)) (Below.refl _ _) (Nat.le_refl _) ?_; intro v136 w6 ho7 hb hg_ hnew_; clear hg_ hnew_; (first | rw [← Ny135.out] at ho7 | (simp only [Int.reduceToNat] at ho7; rw [← Ny135.out] at ho7)); have n0_ := Aside0.mk (Kd.R_lower (Kd.R_newM (M := fun k_ => (w.heap.size ≤ k_)) ho7 (pzJ (by repeat (first | (with_reducible first | exact HB.out | apply pzB | apply pzA | apply pzC) | exact HB.out))) (fun k_ h_ => h_)) (pzJ (by repeat (first | (with_reducible first | exact HB.out | apply pzB | apply pzA | apply pzC) | exact HB.out)))); have n1_ := Aside0.mk (pzL (by repeat (first | (with_reducible first | exact HB.out | apply pzB | apply pzA | apply pzC) | exact HB.out)) hb); clear HB; have HO137 := n0_; have HB := n1_; clear n0_ n1_; clear hb ho7)))
      go_loopg [17] k (fun kq v17 w' => ∃ (x5_1 : List Int) (x17_1 : Int), v17 = .int .i64 x17_1 ∧ Aside0 (integer_times.l0 kq l0 l1 x5_1 (l0.length : Int) x17_1 = some r) ∧ Aside0 (kq ≤ k) ∧ Aside0 (Kd.R (Kd.int .u32) 98 w' w.heap.size (fun k_ => (w.heap.size ≤ k_)) v136 x5_1) ∧ Aside0 (Below w.heap.size w w'))
      case atStart => exact ⟨(y135), (0), (by first | rfl | (simp; done) | (simp [*]; done)), H', ⟨Nat.le_refl _⟩, ⟨by (with_reducible repeat (first | apply Kd.R_alloc | apply Kd.R_drewN | apply Kd.R_drew)); exact Kd.R_mono HO137.out (fun _ hk => hk.1)⟩, ⟨by repeat (first | (with_reducible first | exact HB.out | apply pzB | apply pzA | apply pzC) | exact HB.out)⟩⟩
      case round =>
        clear H'
        try clear c1
        try clear p2
        try clear c4
        try clear c4b0
        try clear c4b1
        try clear c5
        try clear c5b0
        try clear c5b1
        try clear p6
        obtain ⟨x5_1, x17_1, rfl, HA, HK1, HO_5, HB⟩ := hrel; cases gk with
        | zero => exact absurd HA.out (by simp [integer_times.l0])
        | succ k1 =>
          have H := HA.out; clear HA
          simp only [integer_times.l0] at H
          by_cases c8 : x17_1 < (l0.length : Int)
          · rw [if_pos c8] at H
            have c8b0 : decide (x17_1 < (l0.length : Int)) = true := decide_eq_true c8; clear c8; have H' := Aside0.mk H; clear H
            go_wp2
            repeat (go_quiet (fail); try go_wp2)
            go_loopg [7, 22] k1 (fun kq v7 v22 w' => ∃ (x5_2 : List Int) (x7_2 : Int) (x22_2 : Int), v7 = .int .u64 x7_2 ∧ v22 = .int .i64 x22_2 ∧ Aside0 (integer_times.l1 kq l0 l1 x5_2 x17_1 x7_2 (l0.length : Int) x17_1 (l1.length : Int) x22_2 = some r) ∧ Aside0 (kq ≤ k1) ∧ Aside0 (Kd.R (Kd.int .u32) 98 w' w.heap.size (fun k_ => (w.heap.size ≤ k_)) v136 x5_2) ∧ Aside0 (Below w.heap.size w w'))
            case atStart => exact ⟨(x5_1), (0), (0), (by first | rfl | (simp; done) | (simp [*]; done)), (by first | rfl | (simp; done) | (simp [*]; done)), H', ⟨Nat.le_refl _⟩, ⟨by (with_reducible repeat (first | apply Kd.R_alloc | apply Kd.R_drewN | apply Kd.R_drew)); exact HO_5.out⟩, ⟨by repeat (first | (with_reducible first | exact HB.out | apply pzB | apply pzA | apply pzC) | exact HB.out)⟩⟩
            case round =>
              clear H'
              try clear c1
              try clear p2
              try clear c4
              try clear c4b0
              try clear c4b1
              try clear c5
              try clear c5b0
              try clear c5b1
              try clear p6
              try clear c8
              try clear c8b0
              try clear p2
              try clear p6
              obtain ⟨x5_2, x7_2, x22_2, rfl, rfl, HA, HK2, HO_5, HB⟩ := hrel; cases gk with
              | zero => exact absurd HA.out (by simp [integer_times.l1])
              | succ k2 =>
                have H := HA.out; clear HA
                simp only [integer_times.l1] at H
                by_cases c9 : x22_2 < (l1.length : Int)
                · rw [if_pos c9] at H
                  have c9b0 : decide (x22_2 < (l1.length : Int)) = true := decide_eq_true c9; clear c9
                  by_cases c10 : 0 ≤ x17_1
                  · rw [if_pos c10] at H
                    have c10b0 : decide (0 ≤ x17_1) = true := decide_eq_true c10; clear c10
                    by_cases c11 : x17_1 < (l0.length : Int)
                    · rw [if_pos c11] at H
                      have c11b0 : decide (x17_1 < (l0.length : Int)) = true := decide_eq_true c11; clear c11
                      by_cases c12 : 0 ≤ x22_2
                      · rw [if_pos c12] at H
                        have c12b0 : decide (0 ≤ x22_2) = true := decide_eq_true c12; clear c12
                        by_cases c13 : x22_2 < (l1.length : Int)
                        · rw [if_pos c13] at H
                          have c13b0 : decide (x22_2 < (l1.length : Int)) = true := decide_eq_true c13; clear c13
                          obtain ⟨ji14, hji14⟩ : ∃ j_ : Int, (wrap64 (x17_1 + x22_2)) = j_ := ⟨_, rfl⟩
                          replace H : (if 0 ≤ (ji14) then (if (ji14) < (x5_2.length : Int) then (integer_times.l1 k2 l0 l1 (x5_2.set ((ji14) : Int).toNat ((IntKind.u64.wrap (x7_2 + (IntKind.u64.wrap ((IntKind.u64.wrap ((IntKind.u64.wrap (rd l0 x17_1)) * (IntKind.u64.wrap (rd l1 x22_2)))) + (IntKind.u64.wrap (rd x5_2 (ji14))))))) % 4294967296)) x17_1 ((IntKind.u64.wrap (x7_2 + (IntKind.u64.wrap ((IntKind.u64.wrap ((IntKind.u64.wrap (rd l0 x17_1)) * (IntKind.u64.wrap (rd l1 x22_2)))) + (IntKind.u64.wrap (rd x5_2 (ji14))))))) / 4294967296) (l0.length : Int) x17_1 (l1.length : Int) (wrap64 (x22_2 + 1))) else (none)) else (none)) = some r := by first | (rw [hji14] at H; exact H) | (simp only [hji14] at H ⊢; exact H)
                          have hji14w : (IntKind.i64.wrap (x17_1 + x22_2)) = ji14 := (i64_w _).trans hji14
                          by_cases c15 : 0 ≤ (ji14)
                          · rw [if_pos c15] at H
                            have c15b0 : decide (0 ≤ (ji14)) = true := decide_eq_true c15; clear c15
                            by_cases c16 : (ji14) < (x5_2.length : Int)
                            · rw [if_pos c16] at H
                              have c16b0 : decide ((ji14) < (x5_2.length : Int)) = true := decide_eq_true c16; clear c16
                              obtain ⟨y144, hy144⟩ : ∃ y_ : List Int, y_ = (x5_2.set ((ji14) : Int).toNat ((IntKind.u64.wrap (x7_2 + (IntKind.u64.wrap ((IntKind.u64.wrap ((IntKind.u64.wrap (rd l0 x17_1)) * (IntKind.u64.wrap (rd l1 x22_2)))) + (IntKind.u64.wrap (rd x5_2 (ji14))))))) % 4294967296)) := ⟨_, rfl⟩
                              replace H : (integer_times.l1 k2 l0 l1 y144 x17_1 ((IntKind.u64.wrap (x7_2 + (IntKind.u64.wrap ((IntKind.u64.wrap ((IntKind.u64.wrap (rd l0 x17_1)) * (IntKind.u64.wrap (rd l1 x22_2)))) + (IntKind.u64.wrap (rd x5_2 (ji14))))))) / 4294967296) (l0.length : Int) x17_1 (l1.length : Int) (wrap64 (x22_2 + 1))) = some r := by first | (rw [hy144]; with_reducible exact H) | (have H2_ := (Option.bind_some _ _).symm.trans H; rw [hy144]; with_reducible exact H2_) | (have H2_ := (Option.bind_some _ _).symm.trans H; with_reducible exact H2_) | with_reducible exact H | (rw [hy144]; exact H) | exact H
                              have Ny144 := Aside0.mk hy144; clear hy144; have H' := Aside0.mk H; clear H; have p141 : 0 ≤ (x17_1 : Int) := of_decide_eq_true (by first | (with_reducible assumption) | assumption); have q141 : x17_1 < (l0.length : Int) := of_decide_eq_true (by first | (with_reducible assumption) | assumption); obtain ⟨ad141, e141, hx141_0⟩ := Kd.at_int HR0.out x17_1 p141 q141; cases e141; replace hx141_0 := (HB.out.cell (World.block_lt_of_cell? w _ hx141_0)).trans hx141_0; replace p141 := eq_true p141; replace q141 := eq_true q141; have p142 : 0 ≤ (x22_2 : Int) := of_decide_eq_true (by first | (with_reducible assumption) | assumption); have q142 : x22_2 < (l1.length : Int) := of_decide_eq_true (by first | (with_reducible assumption) | assumption); obtain ⟨ad142, e142, hx142_0⟩ := Kd.at_int HR1.out x22_2 p142 q142; cases e142; replace hx142_0 := (HB.out.cell (World.block_lt_of_cell? w _ hx142_0)).trans hx142_0; replace p142 := eq_true p142; replace q142 := eq_true q142; obtain ⟨Ao18, co18, eo18⟩ := Kd.R_slice HO_5.out; subst eo18; have p143 : 0 ≤ ((ji14) : Int) := of_decide_eq_true (by first | (with_reducible assumption) | assumption); have q143 : (ji14) < (x5_2.length : Int) := of_decide_eq_true (by first | (with_reducible assumption) | assumption); obtain ⟨ad143, e143, hx143_0⟩ := Kd.at_int (Kd.R_reads' HO_5.out).2.2 (ji14) p143 q143; cases e143; replace p143 := eq_true p143; replace q143 := eq_true q143; have p17 : 0 ≤ ((ji14) : Int) := of_decide_eq_true (by first | (with_reducible assumption) | assumption); have q17 : ((ji14) : Int) < ((x5_2.length : Int) : Int) := of_decide_eq_true (by first | (with_reducible assumption) | assumption); obtain ⟨go17, co17, eo17, gb17, gl17, cl17, HG17⟩ := Kd.R_form HO_5.out (by omega)
                              (first | cases eo17 | (injection eo17 with ea_ en_ ec_; (first | subst ea_ | (injection ea_ with ea_; subst ea_)); subst ec_; clear en_))
                              have GB17 := Aside0.mk gb17; have GG17 := Aside0.mk HG17; clear gb17 gl17 HG17
                              (first | simp only [add_plain] at hx143_0 | skip)
                              obtain ⟨hx17_0, hf17_0⟩ := Kd.R_celln 0 HO_5.out ((ji14) : Int) p17 q17; replace p17 := eq_true p17; replace q17 := eq_true q17; have HP19 := Kd.R_putg HO_5.out ((ji14) : Int) ((IntKind.u64.wrap (x7_2 + (IntKind.u64.wrap ((IntKind.u64.wrap ((IntKind.u64.wrap (rd l0 x17_1)) * (IntKind.u64.wrap (rd l1 x22_2)))) + (IntKind.u64.wrap (rd x5_2 (ji14))))))) % 4294967296)
                              go_wp2_with (first | ((with_reducible refine gate_store (t := 98) (p := 52) rfl ?_); (try (rw [drewN_self wr]; generalize hq_ : World.drewN wr _ = wr; have n0_ := Aside0.mk (Kd.R_at hq_ HO_5.out); have n1_ := Aside0.mk (below_at hq_ HB.out); clear hq_ HO_5 HB; have HO_5 := n0_; have HB := n1_; clear n0_ n1_; (try (have HP19 := Kd.R_putg HO_5.out ((ji14) : Int) ((IntKind.u64.wrap (x7_2 + (IntKind.u64.wrap ((IntKind.u64.wrap ((IntKind.u64.wrap (rd l0 x17_1)) * (IntKind.u64.wrap (rd l1 x22_2)))) + (IntKind.u64.wrap (rd x5_2 (ji14))))))) % 4294967296))))); refine store_event (t := 98) (p := 52) (v := ?vo_w20) (w1 := (wr.setCell ⟨go17, ((ji14) : Int).toNat, none⟩ (.int .u32 ((IntKind.u64.wrap (x7_2 + (IntKind.u64.wrap ((IntKind.u64.wrap ((IntKind.u64.wrap (rd l0 x17_1)) * (IntKind.u64.wrap (rd l1 x22_2)))) + (IntKind.u64.wrap (rd x5_2 (ji14))))))) % 4294967296)))) ?hg ?ho ?hn ?hr ?_; (case ho => rfl); (case hg => rfl); (case hn => rfl); (case hr => first | (go_simp; done) | (go_simp; rfl)); intro w20 hw; have hg : wr.grownBy w20 (some go17) := (by rw [hw]; exact HP19.2); have hp_ : Kd.R (Kd.int .u32) 98 w20 w.heap.size (fun k_ => (w.heap.size ≤ k_)) (.slice (some ⟨go17, 0, none⟩) x5_2.length co18) y144 := (by rw [hw, Ny144.out]; exact HP19.1); clear HP19; have n0_ := Aside0.mk (hp_); have n1_ := Aside0.mk ((by rw [hw]; exact pzD (HB.out) GB17.out : Below w.heap.size w w20)); clear HO_5; clear HB; have HO_5 := n0_; have HB := n1_; clear n0_ n1_; clear hg hw hp_))
                              repeat (go_quiet (first | ((with_reducible refine gate_store (t := 98) (p := 52) rfl ?_); (try (rw [drewN_self wr]; generalize hq_ : World.drewN wr _ = wr; have n0_ := Aside0.mk (Kd.R_at hq_ HO_5.out); have n1_ := Aside0.mk (below_at hq_ HB.out); clear hq_ HO_5 HB; have HO_5 := n0_; have HB := n1_; clear n0_ n1_; (try (have HP19 := Kd.R_putg HO_5.out ((ji14) : Int) ((IntKind.u64.wrap (x7_2 + (IntKind.u64.wrap ((IntKind.u64.wrap ((IntKind.u64.wrap (rd l0 x17_1)) * (IntKind.u64.wrap (rd l1 x22_2)))) + (IntKind.u64.wrap (rd x5_2 (ji14))))))) % 4294967296))))); refine store_event (t := 98) (p := 52) (v := ?vo_w20) (w1 := (wr.setCell ⟨go17, ((ji14) : Int).toNat, none⟩ (.int .u32 ((IntKind.u64.wrap (x7_2 + (IntKind.u64.wrap ((IntKind.u64.wrap ((IntKind.u64.wrap (rd l0 x17_1)) * (IntKind.u64.wrap (rd l1 x22_2)))) + (IntKind.u64.wrap (rd x5_2 (ji14))))))) % 4294967296)))) ?hg ?ho ?hn ?hr ?_; (case ho => rfl); (case hg => rfl); (case hn => rfl); (case hr => first | (go_simp; done) | (go_simp; rfl)); intro w20 hw; have hg : wr.grownBy w20 (some go17) := (by rw [hw]; exact HP19.2); have hp_ : Kd.R (Kd.int .u32) 98 w20 w.heap.size (fun k_ => (w.heap.size ≤ k_)) (.slice (some ⟨go17, 0, none⟩) x5_2.length co18) y144 := (by rw [hw, Ny144.out]; exact HP19.1); clear HP19; have n0_ := Aside0.mk (hp_); have n1_ := Aside0.mk ((by rw [hw]; exact pzD (HB.out) GB17.out : Below w.heap.size w w20)); clear HO_5; clear HB; have HO_5 := n0_; have HB := n1_; clear n0_ n1_; clear hg hw hp_)); try go_wp2_with (first | ((with_reducible refine gate_store (t := 98) (p := 52) rfl ?_); (try (rw [drewN_self wr]; generalize hq_ : World.drewN wr _ = wr; have n0_ := Aside0.mk (Kd.R_at hq_ HO_5.out); have n1_ := Aside0.mk (below_at hq_ HB.out); clear hq_ HO_5 HB; have HO_5 := n0_; have HB := n1_; clear n0_ n1_; (try (have HP19 := Kd.R_putg HO_5.out ((ji14) : Int) ((IntKind.u64.wrap (x7_2 + (IntKind.u64.wrap ((IntKind.u64.wrap ((IntKind.u64.wrap (rd l0 x17_1)) * (IntKind.u64.wrap (rd l1 x22_2)))) + (IntKind.u64.wrap (rd x5_2 (ji14))))))) % 4294967296))))); refine store_event (t := 98) (p := 52) (v := ?vo_w20) (w1 := (wr.setCell ⟨go17, ((ji14) : Int).toNat, none⟩ (.int .u32 ((IntKind.u64.wrap (x7_2 + (IntKind.u64.wrap ((IntKind.u64.wrap ((IntKind.u64.wrap (rd l0 x17_1)) * (IntKind.u64.wrap (rd l1 x22_2)))) + (IntKind.u64.wrap (rd x5_2 (ji14))))))) % 4294967296)))) ?hg ?ho ?hn ?hr ?_; (case ho => rfl); (case hg => rfl); (case hn => rfl); (case hr => first | (go_simp; done) | (go_simp; rfl)); intro w20 hw; have hg : wr.grownBy w20 (some go17) := (by rw [hw]; exact HP19.2); have hp_ : Kd.R (Kd.int .u32) 98 w20 w.heap.size (fun k_ => (w.heap.size ≤ k_)) (.slice (some ⟨go17, 0, none⟩) x5_2.length co18) y144 := (by rw [hw, Ny144.out]; exact HP19.1); clear HP19; have n0_ := Aside0.mk (hp_); have n1_ := Aside0.mk ((by rw [hw]; exact pzD (HB.out) GB17.out : Below w.heap.size w w20)); clear HO_5; clear HB; have HO_5 := n0_; have HB := n1_; clear n0_ n1_; clear hg hw hp_)))
                              go_roundg k2
                              case measure => have := HK1.out; have := HK2.out; omega
                              case rel => exact ⟨(y144), ((IntKind.u64.wrap (x7_2 + (IntKind.u64.wrap ((IntKind.u64.wrap ((IntKind.u64.wrap (rd l0 x17_1)) * (IntKind.u64.wrap (rd l1 x22_2)))) + (IntKind.u64.wrap (rd x5_2 (ji14))))))) / 4294967296), (wrap64 (x22_2 + 1)), (by first | rfl | (simp; done) | (simp only [← hji14] <;> (first | rfl | simp)) | (simp [*]; done)), (by first | rfl | (simp; done) | (simp [*]; done)), H', ⟨by have := HK1.out; have := HK2.out; omega⟩, ⟨by first | ((with_reducible repeat (first | apply Kd.R_alloc | apply Kd.R_drewN | apply Kd.R_drew)); exact HO_5.out) | (rw [Ny144.out]; exact (Kd.R_putg (Kd.R_drewN HO_5.out _) ((ji14) : Int) _).1)⟩, ⟨by first | exact pzD (pzA HB.out _) GB17.out | (repeat (first | (with_reducible first | exact HB.out | apply pzB | apply pzA | apply pzC) | exact HB.out))⟩⟩
                            · rw [if_neg c16] at H
                              exact absurd H (by simp)
                          · rw [if_neg c15] at H
                            exact absurd H (by simp)
                        · rw [if_neg c13] at H
                          exact absurd H (by simp)
                      · rw [if_neg c12] at H
                        exact absurd H (by simp)
                    · rw [if_neg c11] at H
                      exact absurd H (by simp)
                  · rw [if_neg c10] at H
                    exact absurd H (by simp)
                · rw [if_neg c9] at H
                  have c9b0 : decide (x22_2 < (l1.length : Int)) = false := decide_eq_false c9; clear c9
                  obtain ⟨ji21, hji21⟩ : ∃ j_ : Int, (wrap64 (x17_1 + (l1.length : Int))) = j_ := ⟨_, rfl⟩
                  replace H : (if 0 ≤ (ji21) then (if (ji21) < (x5_2.length : Int) then (integer_times.l0 k2 l0 l1 (x5_2.set ((ji21) : Int).toNat ((x7_2) % 4294967296)) (l0.length : Int) (wrap64 (x17_1 + 1))) else (none)) else (none)) = some r := by first | (rw [hji21] at H; exact H) | (simp only [hji21] at H ⊢; exact H)
                  have hji21w : (IntKind.i64.wrap (x17_1 + (l1.length : Int))) = ji21 := (i64_w _).trans hji21
                  by_cases c22 : 0 ≤ (ji21)
                  · rw [if_pos c22] at H
                    have c22b0 : decide (0 ≤ (ji21)) = true := decide_eq_true c22; clear c22
                    by_cases c23 : (ji21) < (x5_2.length : Int)
                    · rw [if_pos c23] at H
                      have c23b0 : decide ((ji21) < (x5_2.length : Int)) = true := decide_eq_true c23; clear c23
                      obtain ⟨y145, hy145⟩ : ∃ y_ : List Int, y_ = (x5_2.set ((ji21) : Int).toNat ((x7_2) % 4294967296)) := ⟨_, rfl⟩
                      replace H : (integer_times.l0 k2 l0 l1 y145 (l0.length : Int) (wrap64 (x17_1 + 1))) = some r := by first | (rw [hy145]; with_reducible exact H) | (have H2_ := (Option.bind_some _ _).symm.trans H; rw [hy145]; with_reducible exact H2_) | (have H2_ := (Option.bind_some _ _).symm.trans H; with_reducible exact H2_) | with_reducible exact H | (rw [hy145]; exact H) | exact H
                      have Ny145 := Aside0.mk hy145; clear hy145; have H' := Aside0.mk H; clear H; have p24 : 0 ≤ ((ji21) : Int) := of_decide_eq_true (by first | (with_reducible assumption) | assumption); have q24 : ((ji21) : Int) < ((x5_2.length : Int) : Int) := of_decide_eq_true (by first | (with_reducible assumption) | assumption); obtain ⟨go24, co24, eo24, gb24, gl24, cl24, HG24⟩ := Kd.R_form HO_5.out (by omega)
                      (first | cases eo24 | (injection eo24 with ea_ en_ ec_; (first | subst ea_ | (injection ea_ with ea_; subst ea_)); subst ec_; clear en_))
                      have GB24 := Aside0.mk gb24; have GG24 := Aside0.mk HG24; clear gb24 gl24 HG24; obtain ⟨hx24_0, hf24_0⟩ := Kd.R_celln 0 HO_5.out ((ji21) : Int) p24 q24; replace p24 := eq_true p24; replace q24 := eq_true q24; have HP25 := Kd.R_putg HO_5.out ((ji21) : Int) ((x7_2) % 4294967296)
                      go_wp2_with (first | ((with_reducible refine gate_store (t := 98) (p := 63) rfl ?_); (try (rw [drewN_self wr]; generalize hq_ : World.drewN wr _ = wr; have n0_ := Aside0.mk (Kd.R_at hq_ HO_5.out); have n1_ := Aside0.mk (below_at hq_ HB.out); clear hq_ HO_5 HB; have HO_5 := n0_; have HB := n1_; clear n0_ n1_; (try (have HP25 := Kd.R_putg HO_5.out ((ji21) : Int) ((x7_2) % 4294967296))))); refine store_event (t := 98) (p := 63) (v := ?vo_w26) (w1 := (wr.setCell ⟨go24, ((ji21) : Int).toNat, none⟩ (.int .u32 ((x7_2) % 4294967296)))) ?hg ?ho ?hn ?hr ?_; (case ho => rfl); (case hg => rfl); (case hn => rfl); (case hr => first | (go_simp; done) | (go_simp; rfl)); intro w26 hw; have hg : wr.grownBy w26 (some go24) := (by rw [hw]; exact HP25.2); have hp_ : Kd.R (Kd.int .u32) 98 w26 w.heap.size (fun k_ => (w.heap.size ≤ k_)) (.slice (some ⟨go24, 0, none⟩) x5_2.length co24) y145 := (by rw [hw, Ny145.out]; exact HP25.1); clear HP25; have n0_ := Aside0.mk (hp_); have n1_ := Aside0.mk ((by rw [hw]; exact pzD (HB.out) GB24.out : Below w.heap.size w w26)); clear HO_5; clear HB; have HO_5 := n0_; have HB := n1_; clear n0_ n1_; clear hg hw hp_))
                      repeat (go_quiet (first | ((with_reducible refine gate_store (t := 98) (p := 63) rfl ?_); (try (rw [drewN_self wr]; generalize hq_ : World.drewN wr _ = wr; have n0_ := Aside0.mk (Kd.R_at hq_ HO_5.out); have n1_ := Aside0.mk (below_at hq_ HB.out); clear hq_ HO_5 HB; have HO_5 := n0_; have HB := n1_; clear n0_ n1_; (try (have HP25 := Kd.R_putg HO_5.out ((ji21) : Int) ((x7_2) % 4294967296))))); refine store_event (t := 98) (p := 63) (v := ?vo_w26) (w1 := (wr.setCell ⟨go24, ((ji21) : Int).toNat, none⟩ (.int .u32 ((x7_2) % 4294967296)))) ?hg ?ho ?hn ?hr ?_; (case ho => rfl); (case hg => rfl); (case hn => rfl); (case hr => first | (go_simp; done) | (go_simp; rfl)); intro w26 hw; have hg : wr.grownBy w26 (some go24) := (by rw [hw]; exact HP25.2); have hp_ : Kd.R (Kd.int .u32) 98 w26 w.heap.size (fun k_ => (w.heap.size ≤ k_)) (.slice (some ⟨go24, 0, none⟩) x5_2.length co24) y145 := (by rw [hw, Ny145.out]; exact HP25.1); clear HP25; have n0_ := Aside0.mk (hp_); have n1_ := Aside0.mk ((by rw [hw]; exact pzD (HB.out) GB24.out : Below w.heap.size w w26)); clear HO_5; clear HB; have HO_5 := n0_; have HB := n1_; clear n0_ n1_; clear hg hw hp_)); try go_wp2_with (first | ((with_reducible refine gate_store (t := 98) (p := 63) rfl ?_); (try (rw [drewN_self wr]; generalize hq_ : World.drewN wr _ = wr; have n0_ := Aside0.mk (Kd.R_at hq_ HO_5.out); have n1_ := Aside0.mk (below_at hq_ HB.out); clear hq_ HO_5 HB; have HO_5 := n0_; have HB := n1_; clear n0_ n1_; (try (have HP25 := Kd.R_putg HO_5.out ((ji21) : Int) ((x7_2) % 4294967296))))); refine store_event (t := 98) (p := 63) (v := ?vo_w26) (w1 := (wr.setCell ⟨go24, ((ji21) : Int).toNat, none⟩ (.int .u32 ((x7_2) % 4294967296)))) ?hg ?ho ?hn ?hr ?_; (case ho => rfl); (case hg => rfl); (case hn => rfl); (case hr => first | (go_simp; done) | (go_simp; rfl)); intro w26 hw; have hg : wr.grownBy w26 (some go24) := (by rw [hw]; exact HP25.2); have hp_ : Kd.R (Kd.int .u32) 98 w26 w.heap.size (fun k_ => (w.heap.size ≤ k_)) (.slice (some ⟨go24, 0, none⟩) x5_2.length co24) y145 := (by rw [hw, Ny145.out]; exact HP25.1); clear HP25; have n0_ := Aside0.mk (hp_); have n1_ := Aside0.mk ((by rw [hw]; exact pzD (HB.out) GB24.out : Below w.heap.size w w26)); clear HO_5; clear HB; have HO_5 := n0_; have HB := n1_; clear n0_ n1_; clear hg hw hp_)))
                      go_roundg k2
                      case measure => have := HK1.out; have := HK2.out; omega
                      case rel => exact ⟨(y145), (wrap64 (x17_1 + 1)), (by first | rfl | (simp; done) | (simp [*]; done)), H', ⟨by have := HK1.out; have := HK2.out; omega⟩, ⟨by first | ((with_reducible repeat (first | apply Kd.R_alloc | apply Kd.R_drewN | apply Kd.R_drew)); exact HO_5.out) | (rw [Ny145.out]; exact (Kd.R_putg (Kd.R_drewN HO_5.out _) ((ji21) : Int) _).1)⟩, ⟨by first | exact pzD (pzA HB.out _) GB24.out | (repeat (first | (with_reducible first | exact HB.out | apply pzB | apply pzA | apply pzC) | exact HB.out))⟩⟩
                    · rw [if_neg c23] at H
                      exact absurd H (by simp)
                  · rw [if_neg c22] at H
                    exact absurd H (by simp)
          · rw [if_neg c8] at H
            have c8b0 : decide (x17_1 < (l0.length : Int)) = false := decide_eq_false c8; clear c8; replace H := Option.bind_eq_some_iff.mp H; obtain ⟨t138, A270, H⟩ := H; replace H : (some t138) = some r := H; have A27 := Aside0.mk A270; clear A270; obtain rfl := Option.some.inj H; obtain ⟨Ao28, co28, eo28⟩ := Kd.R_slice HO_5.out; subst eo28
            go_wp2_with (first | (go_at_call 117; (with_reducible refine (integer_trim.calls (fun k_ => some k_ = (.slice Ao28 x5_1.length co28 : Value).ownBlock) _ _ x5_1 t138 _ ?side1 A27.out).mono ?_); (case side1 => exact Kd.R_V (Kd.R_tight rfl (HO_5.out))); rintro e w29 ⟨v139, rfl, ho0, hb⟩; have n0_ := Aside0.mk (Kd.R_below (by (with_reducible repeat (first | apply Kd.R_alloc | apply Kd.R_drewN | apply Kd.R_drew)); exact HO_5.out) hb); have n1_ := Aside0.mk (Kd.V_lower (Kd.V_mono (ok' := fun k_ => (w.heap.size ≤ k_)) ho0 (fun k_ hk_ => Or.elim hk_ (fun hs_ => ((HO_5.out).1 k_ hs_.symm)) (fun hn_ => (Nat.le_trans (pzJ (by repeat (first | (with_reducible first | exact HB.out | apply pzB | apply pzA | apply pzC) | exact HB.out))) hn_)))) (pzJ (by repeat (first | (with_reducible first | exact HB.out | apply pzB | apply pzA | apply pzC) | exact HB.out)))); have n2_ := Aside0.mk (pzL (by repeat (first | (with_reducible first | exact HB.out | apply pzB | apply pzA | apply pzC) | exact HB.out)) hb); clear HO_5; clear HB; have HO_5 := n0_; have HO140 := n1_; have HB := n2_; clear n0_ n1_ n2_; (try clear hb); (try clear hb2); (try clear hk); (try clear hi); (try clear ho0)))
            repeat (go_quiet (first | (go_at_call 117; (with_reducible refine (integer_trim.calls (fun k_ => some k_ = (.slice Ao28 x5_1.length co28 : Value).ownBlock) _ _ x5_1 t138 _ ?side1 A27.out).mono ?_); (case side1 => exact Kd.R_V (Kd.R_tight rfl (HO_5.out))); rintro e w29 ⟨v139, rfl, ho0, hb⟩; have n0_ := Aside0.mk (Kd.R_below (by (with_reducible repeat (first | apply Kd.R_alloc | apply Kd.R_drewN | apply Kd.R_drew)); exact HO_5.out) hb); have n1_ := Aside0.mk (Kd.V_lower (Kd.V_mono (ok' := fun k_ => (w.heap.size ≤ k_)) ho0 (fun k_ hk_ => Or.elim hk_ (fun hs_ => ((HO_5.out).1 k_ hs_.symm)) (fun hn_ => (Nat.le_trans (pzJ (by repeat (first | (with_reducible first | exact HB.out | apply pzB | apply pzA | apply pzC) | exact HB.out))) hn_)))) (pzJ (by repeat (first | (with_reducible first | exact HB.out | apply pzB | apply pzA | apply pzC) | exact HB.out)))); have n2_ := Aside0.mk (pzL (by repeat (first | (with_reducible first | exact HB.out | apply pzB | apply pzA | apply pzC) | exact HB.out)) hb); clear HO_5; clear HB; have HO_5 := n0_; have HO140 := n1_; have HB := n2_; clear n0_ n1_ n2_; (try clear hb); (try clear hb2); (try clear hk); (try clear hi); (try clear ho0))); try go_wp2_with (first | (go_at_call 117; (with_reducible refine (integer_trim.calls (fun k_ => some k_ = (.slice Ao28 x5_1.length co28 : Value).ownBlock) _ _ x5_1 t138 _ ?side1 A27.out).mono ?_); (case side1 => exact Kd.R_V (Kd.R_tight rfl (HO_5.out))); rintro e w29 ⟨v139, rfl, ho0, hb⟩; have n0_ := Aside0.mk (Kd.R_below (by (with_reducible repeat (first | apply Kd.R_alloc | apply Kd.R_drewN | apply Kd.R_drew)); exact HO_5.out) hb); have n1_ := Aside0.mk (Kd.V_lower (Kd.V_mono (ok' := fun k_ => (w.heap.size ≤ k_)) ho0 (fun k_ hk_ => Or.elim hk_ (fun hs_ => ((HO_5.out).1 k_ hs_.symm)) (fun hn_ => (Nat.le_trans (pzJ (by repeat (first | (with_reducible first | exact HB.out | apply pzB | apply pzA | apply pzC) | exact HB.out))) hn_)))) (pzJ (by repeat (first | (with_reducible first | exact HB.out | apply pzB | apply pzA | apply pzC) | exact HB.out)))); have n2_ := Aside0.mk (pzL (by repeat (first | (with_reducible first | exact HB.out | apply pzB | apply pzA | apply pzC) | exact HB.out)) hb); clear HO_5; clear HB; have HO_5 := n0_; have HO140 := n1_; have HB := n2_; clear n0_ n1_ n2_; (try clear hb); (try clear hb2); (try clear hk); (try clear hi); (try clear ho0))))
            go_ret
            exact ⟨_, by first | rfl | (simp [pzN, pzM] <;> rfl) | (simp only [← hji3]; first | rfl | (simp [pzN, pzM] <;> rfl)) | (simp [*, pzN, pzM] <;> rfl), by (with_reducible repeat (first | apply Kd.V_alloc | apply Kd.V_drewN | apply Kd.V_drew)); exact HO140.out, by repeat (first | (with_reducible first | exact HB.out | apply pzB | apply pzA | apply pzC) | exact HB.out)⟩
    · rw [if_neg c5] at H
      exact absurd H (by simp)
  · rw [if_neg c4] at H
    exact absurd H (by simp)
end Go.Proofs.Ytpkgckccfanchaa.M
