/- Part of the proof of StabchainLengths: texts of this claim, merged and pruned by wip/tools/merge2.py. -/
import Derived.Test.YtpkgckccfanchaaBStabchainLengths6
import Derived.Test.YtpkgckccfanchaaBStabchainLengths1
import Derived.Test.YtpkgckccfanchaaBStabchainLengths7
import Derived.Test.YtpkgckccfanchaaBStabchainLengths3
import Derived.Test.YtpkgckccfanchaaBStabchainLengths2
import Derived.Deep.LoopGhost
import Derived.Deep.DeepCutAuto
import Derived.Laws.AppendOwnNone

namespace Go.Proofs.Ytpkgckccfanchaa.M
open Go.RowKit Go.Proofs.YtpkgckccfanchaaW.PrintWords Go.Proofs.YtpkgckccfanchaaW.PrintLast Go.Proofs.YtpkgckccfanchaaW.PrintMore
open Sims
set_option linter.unusedVariables false
theorem thenL_take {p q : List Int} {i : Nat} (hi : i < p.length) : thenL (p.take (i + 1)) q = thenL (p.take i) q ++ [rdl q (rdl p (i : Int))] := by
  unfold thenL
  rw [List.take_succ_eq_append_getElem hi, List.map_append, rdl_eq (p := p) (by omega) (by omega)]
  simp
theorem rprod_loop {p q : List Int} (hp : p.length ≤ 1000000) (hq : ∀ x ∈ p, 0 ≤ x ∧ x < q.length) : ∀ (d k i : Nat), i + d = p.length → d < k →
    quadformref16_product.l0 k q (thenL (p.take i) q) p (p.length : Int) (i : Int) = some (thenL p q)
  | d, 0, _, _, hk => by omega
  | 0, k + 1, i, hd, hk => by
    simp only [quadformref16_product.l0]
    rw [if_neg (by omega), List.take_of_length_le (by omega)]
  | d + 1, k + 1, i, hd, hk => by
    have hlt : i < p.length := by omega
    have hm := hq _ (rdl_mem (p := p) (x := (i : Int)) (by omega) (by omega))
    simp only [quadformref16_product.l0]
    have hw : wrap64 ((i : Int) + 1) = ((i + 1 : Nat) : Int) := by unfold wrap64; omega
    rw [if_pos (by omega), if_pos (by omega), if_pos (by omega), if_pos (show 0 ≤ rd p i from hm.1), if_pos (show rd p i < (q.length : Int) from hm.2), if_pos (by rw [thenL_length, List.length_take]; omega), hw]
    have e : thenL (p.take i) q ++ [rd q (rd p i)] = thenL (p.take (i + 1)) q := (thenL_take hlt).symm
    rw [e]
    exact rprod_loop hp hq d k (i + 1) (by omega) (by omega)
theorem rprod_f {p q : List Int} (hp : p.length ≤ 1000000) (hq : ∀ x ∈ p, 0 ≤ x ∧ x < q.length) {k : Nat} (hk : p.length < k) : quadformref16_product.f k p q = some (thenL p q) := by
  unfold quadformref16_product.f
  exact rprod_loop hp hq p.length k 0 (by omega) hk
theorem rinv_loop {n : Nat} {p : List Int} (hn : n ≤ 1000000) (hp : IsP n p) : ∀ (d k : Nat) (out : List Int) (i : Int), 0 ≤ i → i ≤ n → (n : Int) - i = d → d < k → out.length = n → (∀ x : Int, 0 ≤ x → x < i → rdl out (rdl p x) = x) →
    quadformref16_inverse.l0 k out p (p.length : Int) i = some (backL p)
  | d, 0, _, _, _, _, _, hk, _, _ => by omega
  | 0, k + 1, out, i, h0, h1, hd, _, hl, ho => by
    have hpl := hp.len
    simp only [quadformref16_inverse.l0]
    rw [if_neg (by omega)]
    rw [list_ext hl (by rw [backL_length, hpl]) (fun x k0 k1 => ?_)]
    have hi := idx_lt hp k0 k1
    have := ho (p.idxOf x : Int) (by omega) (by omega)
    rw [rdl_idx hp k0 k1] at this
    rw [this, rdl_back hp k0 k1]
  | d + 1, k + 1, out, i, h0, h1, hd, hk, hl, ho => by
    have hpl := hp.len
    have hlt : i < (n : Int) := by omega
    have hm := hp.rd h0 hlt
    simp only [quadformref16_inverse.l0]
    rw [if_pos (by omega), if_pos h0, if_pos (by omega), if_pos (show 0 ≤ rd p i from hm.1), if_pos (by rw [hl]; exact hm.2), wrap_small h0 (by omega)]
    refine rinv_loop hn hp d k _ (i + 1) (by omega) (by omega) (by omega) (by omega) (by rw [List.length_set, hl]) (fun x k0 k1 => ?_)
    have hx := hp.rd k0 (show x < n by omega)
    rw [rd_rdl, rdl_set hm.1 (by rw [hl]; exact hm.2) hx.1 (by rw [hl]; exact hx.2)]
    by_cases e : rdl p x = rdl p i
    · rw [if_pos e]
      exact (hp.inj k0 (by omega) h0 hlt e).symm
    · rw [if_neg e]
      refine ho x k0 ?_
      have : x ≠ i := fun e' => e (by rw [e'])
      omega
theorem rinv_f {n : Nat} {p : List Int} (hn : n ≤ 1000000) (hp : IsP n p) {k : Nat} (hk : n < k) : quadformref16_inverse.f k p = some (backL p) := by
  have hpl := hp.len
  unfold quadformref16_inverse.f
  rw [if_pos (by omega), if_pos (by omega)]
  exact rinv_loop hn hp n k _ 0 (by omega) (by omega) (by omega) hk (by simp [hpl]) (fun x k0 k1 => by omega)
theorem rmoved_loop {p : List Int} (hp : p.length ≤ 1000000) : ∀ (d k : Nat) (i : Int), 0 ≤ i → i ≤ p.length → (p.length : Int) - i = d → d < k → quadformref16_moved.l0 k p (p.length : Int) i = some (movedFrom i (p.drop i.toNat))
  | d, 0, _, _, _, _, hk => by omega
  | 0, k + 1, i, h0, h1, hd, _ => by
    simp only [quadformref16_moved.l0]
    rw [if_neg (by omega), List.drop_eq_nil_of_le (by omega)]
    rfl
  | d + 1, k + 1, i, h0, h1, hd, hk => by
    have hlt : i < (p.length : Int) := by omega
    have e1 : p.drop i.toNat = rdl p i :: p.drop (i + 1).toNat := by
      rw [List.drop_eq_getElem_cons (show i.toNat < p.length by omega), rdl_eq h0 hlt, show (i + 1).toNat = i.toNat + 1 from by omega]
    simp only [quadformref16_moved.l0]
    rw [if_pos hlt, if_pos h0, if_pos hlt, e1, wrap_small h0 (by omega)]
    unfold movedFrom
    by_cases e : rdl p i = i
    · rw [if_pos (show i = rd p i from e.symm), if_pos e]
      exact rmoved_loop hp d k (i + 1) (by omega) (by omega) (by omega) (by omega)
    · rw [if_neg (show ¬ i = rd p i from fun e' => e e'.symm), if_neg e]
theorem rmoved_f {p : List Int} (hp : p.length ≤ 1000000) : quadformref16_moved.f (p.length + 1) p = some (movedL p) := by
  unfold quadformref16_moved.f
  exact rmoved_loop hp p.length _ 0 (by omega) (by omega) (by omega) (by omega)
theorem rid_loop {n : Nat} (hn : n ≤ 512) : ∀ (d k i : Nat), i + d = n → d < k → quadformref16_Identity.l0 k (n : Int) (oneL i) (i : Int) = some (oneL n, true)
  | d, 0, _, _, hk => by omega
  | 0, k + 1, i, hi, hk => by
    obtain rfl : i = n := by omega
    unfold quadformref16_Identity.l0
    rw [if_neg (by omega)]
  | d + 1, k + 1, i, hi, hk => by
    have hw : wrap64 ((i : Int) + 1) = ((i + 1 : Nat) : Int) := by unfold wrap64; omega
    unfold quadformref16_Identity.l0
    rw [if_pos (by omega), if_pos (by rw [oneL_length]; omega), hw]
    have e : oneL i ++ [(i : Int)] = oneL (i + 1) := by simp [oneL, List.range_succ]
    rw [e]
    exact rid_loop hn d k (i + 1) (by omega) (by omega)
theorem rid_f {n : Nat} (h0 : 0 < n) (hn : n ≤ 512) {k : Nat} (hk : n + 2 ≤ k) : quadformref16_Identity.f k (n : Int) = some (oneL n, true) := by
  obtain ⟨k, rfl⟩ : ∃ j, k = j + 1 := ⟨k - 1, by omega⟩
  unfold quadformref16_Identity.f
  rw [if_neg (by omega), quadformref16_Identity.j0, if_neg (by simp; omega)]
  exact rid_loop hn n k 0 (by omega) (by omega)
variable {n : Nat} {ok ok' : Nat → Prop} {w : World} {v u : Value} {p q : List Int}
theorem rprod_pv (hn : 0 < n) (hn' : n ≤ 512) (hv : PV w ok v p) (hu : PV w ok' u q) (hp : IsP n p) (hq : IsP n q) : Calls Try.prog 60 #[v, u] w fun e w' => ∃ r, e = .returned r ∧ PN w.heap.size w' r (thenL p q) ∧ Below w.heap.size w w' := by
  obtain ⟨A, c, rfl, hc, hC⟩ := PV.read hv
  obtain ⟨A', c', rfl, hc', hC'⟩ := PV.read hu
  refine (quadformref16_product.calls _ A c p A' c' q _ w hC hc hC' hc' (rprod_f (k := p.length + 1) (by rw [hp.len]; omega) (fun x hx => by rw [hq.len]; exact hp.rng x hx) (by omega))).mono ?_
  rintro e w' ⟨r, rfl, hR, hb⟩
  exact ⟨r, rfl, PN.of_R hR (by rw [thenL_length, hp.len]; exact hn), hb⟩
theorem rinv_pv (hn : 0 < n) (hn' : n ≤ 512) (hv : PV w ok v p) (hp : IsP n p) : Calls Try.prog 59 #[v] w fun e w' => ∃ r, e = .returned r ∧ PN w.heap.size w' r (backL p) ∧ Below w.heap.size w w' := by
  obtain ⟨A, c, rfl, hc, hC⟩ := PV.read hv
  refine (quadformref16_inverse.calls _ A c p _ w hC hc (rinv_f (k := n + 1) (by omega) hp (by omega))).mono ?_
  rintro e w' ⟨r, rfl, hR, hb⟩
  exact ⟨r, rfl, PN.of_R hR (by rw [backL_length, hp.len]; exact hn), hb⟩
theorem rmoved_pv (hn' : p.length ≤ 512) (hv : PV w ok v p) : Calls Try.prog 88 #[v] w fun e w' => e = .returned (.int .i64 (movedL p)) ∧ Drawn0 w w' := by
  obtain ⟨A, c, rfl, hc, hC⟩ := PV.read hv
  exact quadformref16_moved.calls _ A c p _ w hC hc (rmoved_f (by omega))
theorem rid_pv (hn : 0 < n) (hn' : n ≤ 512) : Calls Try.prog 25 #[.int .i64 (n : Int)] w fun e w' => ∃ r, e = .returned (.tuple #[r, .bool true]) ∧ PN w.heap.size w' r (oneL n) ∧ Below w.heap.size w w' := by
  refine (quadformref16_Identity.calls (n + 2) (n : Int) (oneL n) true w (rid_f hn hn' (Nat.le_refl _))).mono ?_
  rintro e w' ⟨r, rfl, hR, hb⟩
  exact ⟨r, rfl, PN.of_R hR (by rw [oneL_length]; exact hn), hb⟩
theorem rvalid_loop {n : Nat} (hn' : n ≤ 512) {p : List Int} (hp : IsP n p) : ∀ (d k i : Nat) (seen : List Bool), i + d = n → d < k → seen.length = n → (∀ y : Nat, y < n → seen.getD y false = decide ((y : Int) ∈ p.take i)) →
    quadformref16_Valid.l0 k p seen p (p.length : Int) (i : Int) = some true
  | d, 0, _, _, _, hk, _, _ => by omega
  | 0, k + 1, i, seen, hi, hk, hl, hs => by
    unfold quadformref16_Valid.l0
    rw [if_neg (by rw [hp.len]; omega)]
  | d + 1, k + 1, i, seen, hi, hk, hl, hs => by
    have hpl := hp.len
    obtain ⟨h0, h1⟩ := hp.rd (x := (i : Int)) (by omega) (by omega)
    obtain ⟨y, hy⟩ : ∃ y : Nat, rdl p (i : Int) = y := ⟨(rdl p i).toNat, by omega⟩
    have hpi : p[i]? = some (y : Int) := by
      rw [← hy, rdl_eq (by omega) (by omega)]
      simp only [Int.toNat_natCast]
      exact List.getElem?_eq_getElem _
    have hnot : ¬ ((y : Int) ∈ p.take i) := by
      intro hm2
      obtain ⟨j, hj, e⟩ := List.getElem_of_mem hm2
      have hj2 : j < i := by simp at hj; omega
      rw [List.getElem_take] at e
      obtain ⟨q1, q2⟩ := List.getElem?_eq_some_iff.1 hpi
      have := nodup_inj hp.nd (by omega) q1 (e.trans q2.symm)
      omega
    have hw : wrap64 ((i : Int) + 1) = ((i + 1 : Nat) : Int) := by unfold wrap64; omega
    have hsy : rdOf false seen (y : Int) = false := by
      have := hs y (by omega)
      rw [decide_eq_false hnot] at this
      simpa [rdOf] using this
    unfold quadformref16_Valid.l0
    rw [if_pos (by omega), if_pos (by omega), if_pos (by omega), rd_rdl, hy, if_neg (by omega), if_neg (by omega), if_pos (by omega), if_pos (by omega), hsy, if_neg (by simp), hw]
    refine rvalid_loop hn' hp d k (i + 1) _ (by omega) (by omega) (by rw [List.length_set, hl]) (fun z hz => ?_)
    obtain ⟨q1, q2⟩ := List.getElem?_eq_some_iff.1 hpi
    rw [List.take_succ_eq_append_getElem q1, q2, Int.toNat_natCast, List.getD_eq_getElem?_getD, List.getElem?_set]
    by_cases h4 : y = z
    · subst h4
      simp [hl, show y < n by omega]
    · rw [if_neg h4, ← List.getD_eq_getElem?_getD, hs z hz]
      have : (z : Int) ≠ (y : Int) := by omega
      simp [this]
theorem rvalid_ok {n : Nat} (hn : 0 < n) (hn' : n ≤ 512) {p : List Int} (hp : IsP n p) {k : Nat} (hk : n + 2 ≤ k) : quadformref16_Valid.f k p = some true := by
  obtain ⟨k, rfl⟩ : ∃ j, k = j + 1 := ⟨k - 1, by omega⟩
  have hpl := hp.len
  unfold quadformref16_Valid.f
  rw [if_neg (by omega), quadformref16_Valid.j0, if_neg (by simp; omega)]
  rw [if_pos (by omega), if_pos (by omega)]
  exact rvalid_loop hn' hp n k 0 _ (by omega) (by omega) (by simp [hpl]) (fun y hy => by
    rw [List.getD_eq_getElem?_getD, List.getElem?_replicate]
    by_cases h : y < p.length <;> simp [h])
end Go.Proofs.Ytpkgckccfanchaa.M

namespace Go.Proofs.Ytpkgckccfanchaa.M
open Go.RowKit Go.Proofs.YtpkgckccfanchaaW.PrintWords Go.Proofs.YtpkgckccfanchaaW.PrintLast Go.Proofs.YtpkgckccfanchaaW.PrintMore
open Sims
set_option linter.unusedVariables false
set_option linter.unusedSimpArgs false
def MapsAt (w : World) (PB : Nat → Prop) (n mb : Nat) (reps : List (Int × List Int)) : Prop :=
  ∃ ms : List Value, w.ownsRow 0 28 1 (.slice (some ⟨mb, 0, none⟩) n n) n ms ∧ ∀ j : Nat, j < n → ∃ u, ms[j]? = some u ∧ (((j : Int) ∈ reps.map (·.1) ∧ PV w PB u (repL reps (j : Int))) ∨ ((j : Int) ∉ reps.map (·.1) ∧ u = .slice none 0 0))
section
variable {w w1 : World} {PB PB' : Nat → Prop} {n mb : Nat} {reps : List (Int × List Int)}
theorem MapsAt.keep (h : MapsAt w PB n mb reps) (hb : w1.heap[mb]? = w.heap[mb]?) (hp : Agree PB w w1) : MapsAt w1 PB n mb reps := by
  obtain ⟨ms, h1, h2⟩ := h
  refine ⟨ms, own_same h1 (fun g hg => ?_), fun j hj => ?_⟩
  · have e : mb = g := by simpa [Value.ownBlock] using hg
    rw [← e]
    exact hb
  · obtain ⟨u, hu, hc⟩ := h2 j hj
    exact ⟨u, hu, hc.imp (fun ⟨a, b⟩ => ⟨a, PV.agree b hp⟩) id⟩
theorem MapsAt.mono (h : MapsAt w PB n mb reps) (hp : ∀ b, PB b → PB' b) : MapsAt w PB' n mb reps := by
  obtain ⟨ms, h1, h2⟩ := h
  refine ⟨ms, h1, fun j hj => ?_⟩
  obtain ⟨u, hu, hc⟩ := h2 j hj
  exact ⟨u, hu, hc.imp (fun ⟨a, b⟩ => ⟨a, PV.mono b hp⟩) id⟩
theorem MapsAt.blk (h : MapsAt w PB n mb reps) : ∃ cs, w.heap[mb]? = some (.cells cs 28 (0, 0)) := by
  obtain ⟨ms, h1, h2⟩ := h
  exact (own_kind h1 rfl).2
theorem MapsAt.lt (h : MapsAt w PB n mb reps) : mb < w.heap.size := by
  obtain ⟨cs, h1⟩ := h.blk
  exact lt_of_some h1
theorem MapsAt.below (h : MapsAt w PB n mb reps) (hb : Below w.heap.size w w1) : MapsAt w1 PB n mb reps := h.keep (hb.block mb h.lt) (fun b _ hlt => hb.block b hlt)
theorem MapsAt.get (h : MapsAt w PB n mb reps) {y : Int} (h0 : 0 ≤ y) (h1 : y < n) : ∃ u, w.cell? ⟨mb, y.toNat, none⟩ = some u ∧ w.frozen? ⟨mb, y.toNat, none⟩ = false ∧ ((∃ r, lookA y reps = some r ∧ PV w PB u r) ∨ (lookA y reps = none ∧ u = .slice none 0 0)) := by
  obtain ⟨ms, ho, h2⟩ := h
  obtain ⟨u, hu, hc⟩ := h2 y.toNat (by omega)
  have hy : ((y.toNat : Nat) : Int) = y := by omega
  rw [hy] at hc
  refine ⟨u, (ho.cellAt y.toNat (by omega)).trans hu, ho.frozenAt _, ?_⟩
  rcases hc with ⟨a, b⟩ | ⟨a, b⟩
  · obtain ⟨r, hr⟩ := lookA_some a
    refine .inl ⟨r, hr, ?_⟩
    unfold repL at b
    rwa [hr] at b
  · exact .inr ⟨lookA_none.2 a, b⟩
theorem MapsAt.put (h : MapsAt w PB n mb reps) (hmb : ¬ PB mb) {y : Int} (h0 : 0 ≤ y) (h1 : y < n) (hno : y ∉ reps.map (·.1)) {u : Value} {r : List Int} (hv : PV w PB u r) : MapsAt (w.setCell ⟨mb, y.toNat, none⟩ u) PB n mb (reps ++ [(y, r)]) := by
  obtain ⟨ms, ho, h2⟩ := h
  have hag : Agree PB w (w.setCell ⟨mb, y.toNat, none⟩ u) := fun b hb _ => Below.heap_setCell w _ _ b (fun e => hmb (by have e2 : b = mb := e; rw [← e2]; exact hb))
  have hml : ms.length = n := by have := ho.1; omega
  refine ⟨ms.set y.toNat u, (ho.stored y.toNat u).1, fun j hj => ?_⟩
  rw [List.map_append]
  by_cases e : j = y.toNat
  · subst e
    have hy : ((y.toNat : Nat) : Int) = y := by omega
    rw [hy]
    refine ⟨u, List.getElem?_set_self (by omega), .inl ⟨by simp, ?_⟩⟩
    rw [repL_snoc hno]
    exact PV.agree hv hag
  · obtain ⟨x, hx, hc⟩ := h2 j hj
    refine ⟨x, by rw [List.getElem?_set_ne (fun e' => e e'.symm)]; exact hx, ?_⟩
    have hne : (j : Int) ≠ y := by omega
    rcases hc with ⟨a, b⟩ | ⟨a, b⟩
    · exact .inl ⟨List.mem_append.2 (.inl a), by rw [repL_append _ a]; exact PV.agree b hag⟩
    · exact .inr ⟨by simp only [List.mem_append, not_or]; exact ⟨a, by simpa using hne⟩, b⟩
theorem MapsAt.made (W : World) {n : Nat} (hn : n ≤ 512) : MapsAt (W.alloc (.cells (madeCells #[.slice none 0 0] n) 28)) PB n W.heap.size [] := by
  have h := World.ownsRow_lit (base := 0) (e := 28) (size := 1) W (madeCells #[.slice none 0 0] n) n (Nat.zero_le _) (by unfold maxLen; omega) (by simp [size_madeCells])
  refine ⟨_, h, fun j hj => ⟨.slice none 0 0, ?_, .inr ⟨by simp, rfl⟩⟩⟩
  simp [madeCells, Nat.mod_one, hj]
end
structure BS (w0 wr : World) (n mb : Nat) (PB : Nat → Prop) (qv : Value) (orb : List Int) (reps : List (Int × List Int)) : Prop where
  maps : MapsAt wr PB n mb reps
  q : wr.ownsRow w0.heap.size 3 1 qv orb.length (nums .i64 orb)
  pb : ∀ b, PB b → w0.heap.size ≤ b ∧ b < wr.heap.size ∧ b ≠ mb ∧ qv.ownBlock ≠ some b
  base : w0.heap.size ≤ mb
  below : Below w0.heap.size w0 wr
section
variable {w0 wr w1 w2 : World} {PB : Nat → Prop} {n mb : Nat} {qv : Value} {orb : List Int} {reps : List (Int × List Int)}
theorem BS.qne (h : BS w0 wr n mb PB qv orb reps) : qv.ownBlock ≠ some mb := by
  intro e
  obtain ⟨cs, h1⟩ := h.maps.blk
  obtain ⟨_, cs', h2⟩ := own_kind h.q e
  rw [h1] at h2
  simp at h2
theorem BS.newRep (h : BS w0 wr n mb PB qv orb reps) (hb : Below wr.heap.size wr w1) {r : Value} {rp : List Int} (hv : PN wr.heap.size w1 r rp) {y : Int} (h0 : 0 ≤ y) (h1 : y < n) (hno : y ∉ reps.map (·.1)) :
    ∃ PB', BS w0 (w1.setCell ⟨mb, y.toNat, none⟩ r) n mb PB' qv orb (reps ++ [(y, rp)]) := by
  have hlt := h.maps.lt
  have hnew : ∀ b, PB b ∨ (wr.heap.size ≤ b ∧ b < w1.heap.size) → w0.heap.size ≤ b ∧ b < w1.heap.size ∧ b ≠ mb ∧ qv.ownBlock ≠ some b := fun b hb' => by
    rcases hb' with hb' | hb'
    · obtain ⟨a1, a2, a3, a4⟩ := h.pb b hb'
      exact ⟨a1, Nat.lt_of_lt_of_le a2 hb.size, a3, a4⟩
    · refine ⟨Nat.le_trans h.below.size hb'.1, hb'.2, by omega, fun e => ?_⟩
      obtain ⟨_, cs, h3⟩ := own_kind h.q e
      have := lt_of_some h3
      omega
  refine ⟨fun b => PB b ∨ (wr.heap.size ≤ b ∧ b < w1.heap.size), ?_, ?_, fun b hb' => ?_, h.base, ?_⟩
  · exact ((h.maps.below hb).mono (fun b hb' => .inl hb')).put (fun hp => (hnew mb hp).2.2.1 rfl) h0 h1 hno (hv.pv (fun b k1 k2 => .inr ⟨k1, k2⟩))
  · refine own_same (own_same h.q (fun g hg => ?_)) (fun g hg => Below.heap_setCell w1 _ _ g (fun e => h.qne (by rw [hg]; exact congrArg some e)))
    obtain ⟨_, cs, h3⟩ := own_kind h.q hg
    exact hb.block g (lt_of_some h3)
  · obtain ⟨a1, a2, a3, a4⟩ := hnew b hb'
    exact ⟨a1, by simpa [World.setCell] using a2, a3, a4⟩
  · exact below_set (below_then h.below h.below.size hb) h.base
theorem BS.push (h : BS w0 wr n mb PB qv orb reps) {x : Int} {v' : Value} (ho : w1.ownsRow w0.heap.size 3 1 v' (orb.length + 1) (nums .i64 orb ++ [.int .i64 x])) (hg : wr.grownBy w1 qv.ownBlock) (hat : v'.ownBlock = qv.ownBlock ∨ ∃ b, v'.ownBlock = some b ∧ wr.heap.size ≤ b) :
    BS w0 w1 n mb PB v' (orb ++ [x]) reps := by
  have hkeep : ∀ b, b < wr.heap.size → qv.ownBlock ≠ some b → w1.heap[b]? = wr.heap[b]? := fun b hb hne => hg.block b hb (fun e => hne e.symm)
  have hsz : wr.heap.size ≤ w1.heap.size := hg.size
  refine ⟨h.maps.keep (hkeep mb h.maps.lt h.qne) (fun b hp hlt => hkeep b hlt (h.pb b hp).2.2.2), ?_, fun b hb => ?_, h.base, ?_⟩
  · rw [List.length_append, List.length_singleton, nums_append]
    exact ho
  · obtain ⟨a1, a2, a3, a4⟩ := h.pb b hb
    refine ⟨a1, by omega, a3, ?_⟩
    rcases hat with e | ⟨b', e, hb'⟩
    · rw [e]; exact a4
    · rw [e]; intro e'; have := Option.some.inj e'; omega
  · exact pw_below_grown h.below _ h.below.size hg (fun k hk => (own_kind h.q hk).1)
theorem BS.at_ (h : BS w0 wr n mb PB qv orb reps) {A : Option Addr} {m cap : Nat} (hv : qv = .slice A m cap) {k : Nat} {x : Int} (hx : orb[k]? = some x) : ∃ ad, A = some ad ∧ wr.cell? (ad.add k) = some (.int .i64 x) := by
  obtain ⟨A', c', e, hr⟩ := own_reads h.q
  rw [hv] at e
  obtain ⟨e1, -, -⟩ : A = A' ∧ m = orb.length ∧ cap = c' := by injection e with a b c; exact ⟨a, b, c⟩
  subst e1
  obtain ⟨hk, e2⟩ := List.getElem?_eq_some_iff.1 hx
  obtain ⟨ad, e3, hc⟩ := hr.at_ (k : Int) (by omega) (by omega)
  refine ⟨ad, e3, ?_⟩
  rw [Int.toNat_natCast] at hc
  rw [hc]
  simp [rd, List.getD_eq_getElem?_getD, hx]
end
abbrev GC (w : World) (A : Option Addr) (gens : List (List Int)) : Prop := Kd.C (Kd.slice 3 (Kd.int .i64)) w A gens.length gens
end Go.Proofs.Ytpkgckccfanchaa.M

namespace Go.Proofs.Ytpkgckccfanchaa.M
open Go.RowKit Go.Proofs.YtpkgckccfanchaaW.PrintWords Go.Proofs.YtpkgckccfanchaaW.PrintLast Go.Proofs.YtpkgckccfanchaaW.PrintMore
open Sims
set_option linter.unusedVariables false
set_option linter.unusedSimpArgs false
theorem gc_at {w : World} {A : Option Addr} {gens : List (List Int)} (h : GC w A gens) {k : Nat} {g : List Int} (hg : gens[k]? = some g) : ∃ ad A' c', A = some ad ∧ w.cell? (ad.add k) = some (.slice A' g.length c') ∧ g.length ≤ c' ∧ Kd.C (Kd.int .i64) w A' g.length g := by
  obtain ⟨hk, e⟩ := List.getElem?_eq_some_iff.1 hg
  obtain ⟨ad, e1, h1⟩ := h.2.2 (by omega)
  obtain ⟨vs, h2, h3, h4⟩ := h1 k g hg
  obtain ⟨A', c', e2, hc, hC⟩ := h3
  refine ⟨ad, A', c', e1, ?_, hc, hC⟩
  have := h4 0 (.slice A' g.length c') (by rw [e2]; rfl)
  rw [Nat.add_zero, show k * (Kd.slice 3 (Kd.int .i64)).sz = k from Nat.mul_one k] at this
  exact this
set_option maxHeartbeats 4000000 in
set_option maxRecDepth 100000 in
theorem level_calls {w : World} {n : Nat} {pt : Int} {A : Option Addr} {c : Nat} {gens : List (List Int)} (hn : 0 < n) (hn' : n ≤ 512) (h0 : 0 ≤ pt) (h1 : pt < n) (hr : GC w A gens) (hg : ∀ g ∈ gens, IsP n g) (hlen : gens.length ≤ 1000000) :
    Calls Try.prog 86 #[.int .i64 (n : Int), .int .i64 pt, .slice A gens.length c] w fun e w' => ∃ mb PB, e = .returned (.agg #[.int .i64 pt, .slice A gens.length c, .slice (some ⟨mb, 0, none⟩) n n]) ∧ MapsAt w' PB n mb (levF n pt gens).reps ∧ w.heap.size ≤ mb ∧ (∀ b, PB b → w.heap.size ≤ b ∧ b < w'.heap.size) ∧ Below w.heap.size w w' := by
  obtain ⟨p0, rfl⟩ := Int.eq_ofNat_of_zero_le h0
  have hp0 : p0 < n := by omega
  have hmk : ∀ W : World, (Instr.makeSlice 29 (.int .i64 (n : Int)) (.int .i64 (n : Int))).run Try.prog W = .ok (.slice (some ⟨W.heap.size, 0, none⟩) n n) (W.alloc (.cells (madeCells #[.slice none 0 0] n) 28)) := fun W => run_make_row' 29 28 (.slice none 0 0) 24 Try.underlying29 infoSl rfl .i64 .i64 n (by omega) (by omega) W
  have HR := Aside0.mk hr
  have HG := Aside0.mk hg
  have HN := Aside0.mk hn
  obtain ⟨m, hm⟩ : ∃ m, gens.length = m := ⟨_, rfl⟩
  have HM := Aside0.mk hm
  have hml : m ≤ 1000000 := by omega
  clear hr hg hn h0 h1
  rw [hm]
  clear hm hlen
  go_enter Try.func86, Try.ntmps86
  go_wp2_with (first | ((with_reducible refine gate_dst (N := 6) rfl ?_); refine box_event ?hg (N := 6) ?hd (cs := #[.int .i64 0, .slice none 0 0, .slice none 0 0]) (t := 96) ?hr ?_; (case hd => rfl); (case hg => rfl); (case hr => first | (go_simp; done) | (go_simp; rfl)); intro gb hg w5 hbox hb; have GB := Aside0.mk hbox; have HB0 := Aside0.mk hb; have HGB : Aside0 (w.heap.size ≤ gb) := ⟨by rw [hg]; exact Nat.le_refl _⟩; clear hg hbox hb) | (go_at_call 25; obtain ⟨mb, hmb⟩ : ∃ mb, w5.heap.size = mb := ⟨_, rfl⟩; obtain ⟨wa, hwa⟩ : ∃ wa, wa = w5.alloc (.cells (madeCells #[.slice none 0 0] n) 28) := ⟨_, rfl⟩; simp only [hmb, ← hwa]; have HMA : Aside0 (MapsAt wa (fun _ => False) n mb []) := ⟨by rw [hwa, ← hmb]; exact MapsAt.made w5 hn'⟩; have HBA : Aside0 (Below w5.heap.size w5 wa ∧ w5.heap.size ≤ mb ∧ gb < w5.heap.size ∧ mb < wa.heap.size) := ⟨by rw [hwa, ← hmb, World.size_alloc]; exact ⟨below_alloc (Below.refl _ _) _, Nat.le_refl _, blk_lt GB.out, Nat.lt_succ_self _⟩⟩; have HR5 : Aside0 (GC w5 A gens) := ⟨Kd.C_below HR.out HB0.out⟩; have GBA : Aside0 (wa.heap[gb]? = some (.cells #[.int .i64 0, .slice none 0 0, .slice none 0 0] 96 (0, 0))) := ⟨by rw [hwa]; exact blk_alloc GB.out _⟩; clear hmb hwa GB HR; (with_reducible refine (rid_pv HN.out hn').mono ?_); rintro e w6 ⟨r, rfl, hR, hb⟩; obtain ⟨Ar, cr, rfl, -, -⟩ := PV.read hR.any; obtain ⟨uu, hu1, hu2, -⟩ := (HMA.out.below hb).get (y := (p0 : Int)) (by omega) (by omega); rw [Int.toNat_natCast] at hu1 hu2; have HRI := Aside0.mk hR; have HB6 := Aside0.mk hb; clear hR hb))
  obtain ⟨w8, hw8⟩ : ∃ w8, w8 = (w6.setCell ⟨mb, p0, none⟩ (.slice Ar (oneL n).length cr)).alloc (.cells #[.int .i64 (p0 : Int)] 3) := ⟨_, rfl⟩
  obtain ⟨qb, hqb⟩ : ∃ qb, qb = w6.heap.size := ⟨_, rfl⟩
  have HS0 : Aside0 (∃ PB, BS w5 w8 n mb PB (.slice (some ⟨qb, 0, none⟩) 1 1) [(p0 : Int)] [((p0 : Int), oneL n)]) := ⟨by
    have hm1 := ((HMA.out.below HB6.out).mono (PB' := fun b => wa.heap.size ≤ b ∧ b < w6.heap.size) (fun b h => h.elim)).put (y := (p0 : Int)) (fun h => by have := HBA.out.2.2.2; omega) (by omega) (by omega) (by simp) (HRI.out.pv (fun b k1 k2 => ⟨k1, k2⟩))
    rw [Int.toNat_natCast] at hm1
    have hsz : (w6.setCell ⟨mb, p0, none⟩ (.slice Ar (oneL n).length cr)).heap.size = w6.heap.size := by simp [World.setCell]
    have hws := HBA.out.1.size
    have hs6 := HB6.out.size
    refine ⟨fun b => wa.heap.size ≤ b ∧ b < w6.heap.size, ?_, ?_, fun b hb => ⟨Nat.le_trans hws hb.1, ?_, ?_, ?_⟩, HBA.out.2.1, ?_⟩
    · rw [hw8]
      exact hm1.below (below_alloc (Below.refl _ _) _)
    · rw [hw8, hqb, ← hsz]
      exact own_lit (w6.setCell ⟨mb, p0, none⟩ (.slice Ar (oneL n).length cr)) w5.heap.size 3 .i64 [(p0 : Int)] (by rw [hsz]; omega) (by simp)
    · rw [hw8, World.size_alloc, hsz]; omega
    · have := HBA.out.2.2.2; omega
    · intro e
      have e2 : qb = b := by simpa [Value.ownBlock] using e
      omega
    · rw [hw8]
      exact (below_set (below_then HBA.out.1 hws HB6.out) HBA.out.2.1).alloc (by rw [hsz]; omega) _⟩
  have HGB8 : Aside0 (w8.heap[gb]? = some (.cells #[.int .i64 0, .slice none 0 0, .slice none 0 0] 96 (0, 0))) := ⟨by
    rw [hw8]
    exact blk_alloc (blk_far (blk_below GBA.out HB6.out) (fun e => by have := HBA.out.2.2.1; have := HBA.out.2.1; have e2 : gb = mb := e; omega) _) _⟩
  have HGM : Aside0 (gb < mb ∧ w5.heap.size ≤ mb ∧ gb < w5.heap.size) := ⟨Nat.lt_of_lt_of_le HBA.out.2.2.1 HBA.out.2.1, HBA.out.2.1, HBA.out.2.2.1⟩
  have hpt : Aside0 (0 ≤ (p0 : Int) ∧ (p0 : Int) < (n : Int)) := ⟨by omega, by omega⟩
  have HGR : Aside0 (GR n (p0 : Int) gens [((p0 : Int), oneL n)]) := ⟨by
    have h0 : repL [((p0 : Int), oneL n)] (p0 : Int) = oneL n := by simp [repL, lookA]
    refine ⟨by simp, fun x hx => ?_, fun x hx => ?_⟩
    · have : x = (p0 : Int) := by simpa using hx
      subst this
      exact hpt.out
    · have : x = (p0 : Int) := by simpa using hx
      subst this
      rw [h0]
      exact ⟨oneL_isP n, rdl_oneL hpt.out.1 hpt.out.2, by rw [show toP n (oneL n) = Gp.one from Pm.eq (toP_val (oneL_isP n))]; exact Gen.one⟩⟩
  rw [← hqb, ← hw8]
  clear hw8 hqb HMA HBA GBA hu1 hu2 HRI HB6 hmk
  obtain ⟨F, hF⟩ : ∃ F, grow gens (n + 1) 0 ([((p0 : Int), oneL n)], []) = F := ⟨_, rfl⟩
  have HF := Aside0.mk hF
  have HFF := Aside0.mk hF
  clear hF
  go_loopw [8, 9] (fun q i wr => ∃ (k f : Nat) (s : List (Int × List Int) × List (Int × Int)), i = .int .i64 k ∧ k ≤ n ∧ Aside0 (n + 1 ≤ f + k) ∧ Aside0 (∃ PB, BS w5 wr n mb PB q (s.1.map (·.1)) s.1) ∧ Aside0 (GR n (p0 : Int) gens s.1) ∧ Aside0 (grow gens f k s = F) ∧ Aside0 (wr.heap[gb]? = some (.cells #[.int .i64 0, .slice none 0 0, .slice none 0 0] 96 (0, 0)))) (fun _ i _ => n + 1 - (intOf i).toNat)
  case atStart => exact ⟨0, n + 1, ([((p0 : Int), oneL n)], []), rfl, by omega, ⟨by omega⟩, HS0, HGR, HF, HGB8⟩
  case round =>
    clear HS0 HGR HF HGB8
    obtain ⟨k, f, s, rfl, hkn, HFK, HS, HGR, HF, HGB8⟩ := hrel
    obtain ⟨PB, hS⟩ := HS.out
    obtain ⟨Aq, cq, rfl⟩ := own_slice hS.q
    rw [List.length_map]
    obtain ⟨ms, hms⟩ : ∃ ms, s.1.length = ms := ⟨_, rfl⟩
    rw [hms]
    have HMS := Aside0.mk hms
    have hmsn : ms ≤ n := by have := HGR.out.length; omega
    have HS1 : Aside0 (∃ PB, BS w5 wr n mb PB (.slice Aq ms cq) (s.1.map (·.1)) s.1) := ⟨PB, by have h := hS; rw [List.length_map, hms] at h; exact h⟩
    clear hS HS hms
    by_cases hlt : k < ms
    · obtain ⟨f, rfl⟩ : ∃ f', f = f' + 1 := ⟨f - 1, by have := HFK.out; omega⟩
      obtain ⟨q, hq⟩ : ∃ q, s.1[k]? = some q := ⟨s.1[k]'(by have := HMS.out; omega), List.getElem?_eq_getElem _⟩
      have HF2 : Aside0 (grow gens f (k + 1) (growIn gens q.1 gens s) = F) := ⟨by
        have hf := HF.out
        rw [grow, hq] at hf
        exact hf⟩
      have hqm : q.1 ∈ s.1.map (·.1) := List.mem_map.2 ⟨q, List.mem_of_getElem? hq, rfl⟩
      obtain ⟨x, hx⟩ : ∃ x, q.1 = x := ⟨_, rfl⟩
      have HQK : Aside0 ((s.1.map (·.1))[k]? = some x) := ⟨by rw [List.getElem?_map, hq, ← hx]; rfl⟩
      rw [hx] at hqm HF2
      have hlt2 : (k : Int) < ms := by omega
      have HQM := Aside0.mk hqm
      have HXR := Aside0.mk (HGR.out.rng x hqm)
      have HFK2 : Aside0 (n + 1 ≤ f + (k + 1)) := ⟨by have := HFK.out; omega⟩
      clear hq hx hqm HF HFK HMS
      go_wp2_with (fail)
      go_loopw [8, 33] (fun qv i wr => ∃ (b : Nat) (s' : List (Int × List Int) × List (Int × Int)), i = .int .i64 b ∧ b ≤ m ∧ Aside0 (∃ PB, BS w5 wr n mb PB qv (s'.1.map (·.1)) s'.1) ∧ Aside0 (GR n (p0 : Int) gens s'.1) ∧ Aside0 ((s'.1.map (·.1))[k]? = some x) ∧ Aside0 (growIn gens x (gens.drop b) s' = growIn gens x gens s) ∧ Aside0 (wr.heap[gb]? = some (.cells #[.int .i64 0, .slice none 0 0, .slice none 0 0] 96 (0, 0)))) (fun _ i _ => m - (intOf i).toNat)
      case atStart => exact ⟨0, s, rfl, by omega, HS1, HGR, HQK, ⟨rfl⟩, HGB8⟩
      case round =>
        clear HS1 HGR HQK HGB8 HQM
        obtain ⟨b, s', rfl, hb, HS, HGR, HQK, HGI, HGB8⟩ := hrel
        obtain ⟨PB, hS⟩ := HS.out
        obtain ⟨Aq, cq, rfl⟩ := own_slice hS.q
        rw [List.length_map]
        obtain ⟨ms', hms⟩ : ∃ ms', s'.1.length = ms' := ⟨_, rfl⟩
        rw [hms]
        have hmsn' : ms' ≤ n := by have := HGR.out.length; omega
        have hS2 : BS w5 wr n mb PB (.slice Aq ms' cq) (s'.1.map (·.1)) s'.1 := by have h := hS; rw [List.length_map, hms] at h; exact h
        have hkm : k < ms' := by have h := (List.getElem?_eq_some_iff.1 HQK.out).1; rw [List.length_map] at h; omega
        have HMS := Aside0.mk hms
        clear hS HS hms
        by_cases hltb : b < m
        · obtain ⟨g, hgb⟩ : ∃ g, gens[b]? = some g := ⟨gens[b]'(by have := HM.out; omega), List.getElem?_eq_getElem _⟩
          have hgm : g ∈ gens := List.mem_of_getElem? hgb
          have hgp := HG.out g hgm
          obtain ⟨adg, Ag, cg, rfl, hcg, hcgc, hCg⟩ := gc_at (Kd.C_below HR5.out hS2.below) hgb
          obtain ⟨adx, rfl⟩ := PV.addr hCg (by rw [hgp.len]; exact HN.out)
          obtain ⟨adq, rfl, hcq⟩ := hS2.at_ rfl HQK.out
          have hx0 := HXR.out.1
          have hx1 : x < (g.length : Int) := by rw [hgp.len]; exact HXR.out.2
          have hcy := PV.at_ hCg hx0 hx1
          have hyr := hgp.rd hx0 HXR.out.2
          obtain ⟨y, hy⟩ : ∃ y, rdl g x = y := ⟨_, rfl⟩
          rw [hy] at hcy hyr
          obtain ⟨hy0, hy1⟩ := hyr
          obtain ⟨u, hu1, hu2, hcase⟩ := hS2.maps.get hy0 hy1
          obtain ⟨xn, rfl⟩ := Int.eq_ofNat_of_zero_le hx0
          obtain ⟨yn, rfl⟩ := Int.eq_ofNat_of_zero_le hy0
          rw [Int.toNat_natCast] at hcy hu1 hu2
          have hltb2 : (b : Int) < m := by omega
          have HS3 := Aside0.mk hS2
          have HGBB := Aside0.mk hgb
          have HGP := Aside0.mk hgp
          have HGM2 := Aside0.mk hgm
          have HY := Aside0.mk hy
          have HCG := Aside0.mk hCg
          have hgl : (g.length : Int) = (n : Int) := by rw [hgp.len]
          clear hS2 hgp hgm hy hgb hCg hx0 hy0
          rcases hcase with ⟨r, hlk, hu⟩ | ⟨hlk, rfl⟩
          · have HGI2 : Aside0 (growIn gens (xn : Int) (gens.drop (b + 1)) s' = growIn gens (xn : Int) gens s) := ⟨(growIn_some HGBB.out HY.out hlk).symm.trans HGI.out⟩
            have hrp : IsP n r := by
              have := (HGR.out.rep (yn : Int) (List.mem_map.2 ⟨_, lookA_mem hlk, rfl⟩)).1
              unfold repL at this
              rwa [hlk] at this
            obtain ⟨Au, cu, rfl, -, hCu⟩ := PV.read hu
            obtain ⟨adu, rfl⟩ := PV.addr hCu (by rw [hrp.len]; exact HN.out)
            have heq : ∀ W : World, (binOp BinOp.eql 28 (.slice (some adu) r.length cu) (.slice none 0 0)).run Try.prog W = .ok (.bool false) W := fun W => by kernel_rfl
            clear hlk hu HGBB HY hCu HCG HGM2 hrp HGI
            go_wp2_with (fail)
            go_roundw
            case rel => exact ⟨b + 1, s', by go_num, by omega, ⟨⟨PB, by have h := HS3.out; exact h⟩⟩, HGR, HQK, HGI2, HGB8⟩
            case measure => simp [intOf]; omega
          · have hqm : (xn : Int) ∈ s'.1.map (·.1) := List.mem_of_getElem? HQK.out
            have HGI2 := Aside0.mk ((growIn_none HGBB.out HY.out hlk).symm.trans HGI.out)
            have hno : (yn : Int) ∉ s'.1.map (·.1) := lookA_none.1 hlk
            obtain ⟨u2, hx1', hx2', hcase2⟩ := HS3.out.maps.get HXR.out.1 HXR.out.2
            rw [Int.toNat_natCast] at hx1' hx2'
            have hxr : lookA (xn : Int) s'.1 = some (repL s'.1 (xn : Int)) := by
              obtain ⟨r, hr⟩ := lookA_some hqm
              rw [hr]; unfold repL; rw [hr]; rfl
            have hpx : PV wr PB u2 (repL s'.1 (xn : Int)) := by
              rcases hcase2 with ⟨r, h1, h2⟩ | ⟨h1, _⟩
              · rw [hxr] at h1; cases h1; exact h2
              · rw [hxr] at h1; cases h1
            have hipx := (HGR.out.rep _ hqm).1
            have heq : ∀ W : World, (binOp BinOp.eql 28 (.slice none 0 0) (.slice none 0 0)).run Try.prog W = .ok (.bool true) W := fun W => by kernel_rfl
            have HPX := Aside0.mk hpx
            have HIPX := Aside0.mk hipx
            have HNO := Aside0.mk hno
            have HQM := Aside0.mk hqm
            have HPG : Aside0 (PV wr (fun _ => True) (.slice (some adx) g.length cg) g) := ⟨pv_of_C HCG.out hcgc⟩
            clear hlk hcase2 hxr hpx hipx hno hqm HGBB HGI HCG
            go_upto_region 13 with (go_at_call 60; (with_reducible refine (rprod_pv HN.out hn' HPX.out HPG.out HIPX.out HGP.out).mono ?_); rintro e w1 ⟨rt, rfl, hR, hb⟩; obtain ⟨Art, crt, rfl, -, -⟩ := PV.read hR.any; have hk1 := pw_cell_below hb hu1; have hk2 : w1.frozen? ⟨mb, yn, none⟩ = false := (World.frozen?_of_block (a := ⟨mb, yn, none⟩) (hb.block mb HS3.out.maps.lt)).trans hu2; have HRT := Aside0.mk hR; have HB1 := Aside0.mk hb; clear hR hb)
            obtain ⟨w2, hw2⟩ : ∃ w2, w2 = w1.setCell ⟨mb, yn, none⟩ (.slice Art (thenL (repL s'.1 (xn : Int)) g).length crt) := ⟨_, rfl⟩
            rw [← hw2]
            have HS4 : Aside0 (∃ PB', BS w5 w2 n mb PB' (.slice (some adq) ms' cq) (s'.1.map (·.1)) (s'.1 ++ [((yn : Int), thenL (repL s'.1 (xn : Int)) g)])) := ⟨by
              have h := HS3.out.newRep HB1.out HRT.out (y := (yn : Int)) (by omega) hy1 HNO.out
              rw [Int.toNat_natCast, ← hw2] at h
              exact h⟩
            have HGB9 : Aside0 (w2.heap[gb]? = some (.cells #[.int .i64 0, .slice none 0 0, .slice none 0 0] 96 (0, 0))) := ⟨by
              rw [hw2]
              exact blk_far (blk_below HGB8.out HB1.out) (fun e => by have := HGM.out.1; have e2 : gb = mb := e; omega) _⟩
            have HGR2 : Aside0 (GR n (p0 : Int) gens (s'.1 ++ [((yn : Int), thenL (repL s'.1 (xn : Int)) g)])) := ⟨by
              have h := HGR.out.snoc hpt.out HQM.out HGM2.out HGP.out (by rw [HY.out]; exact HNO.out)
              rwa [HY.out] at h⟩
            clear hw2 hk1 hk2 hu1 hu2 hx1' hx2' hcy HRT HB1 HPX HPG HIPX HNO HGB8 HGR HS3 hcg hcq heq
            obtain ⟨PB2, hS4⟩ := HS4.out
            have hq4 := hS4.q
            rw [List.length_map, HMS.out] at hq4
            have HQ4 := Aside0.mk hq4
            have hsz : w5.heap.size ≤ w2.heap.size := hS4.below.size
            have HBL := Aside0.mk hS4.below
            clear hS4 hq4
            go_wp2_with (first | (at_builtin; go_must (refine print_append w5.heap.size rfl (.tmp 61) (.tmp 63) 28 3 (.int .i64 0) 8 rfl Try.underlying28 info3 rfl (by decide) (.slice (some adq) ms' cq) (nums .i64 (s'.1.map (·.1))) (.int .i64 (yn : Int)) rfl rfl rfl ?aO (Below.refl _ _) ?aS ?aL ?_); (case aO => (rw [nums_length, List.length_map, HMS.out]; exact HQ4.out)); (case aS => exact hsz); (case aL => (rw [nums_length, List.length_map, HMS.out]; omega)); intro v1 w3 ho hb3 hg3 hat3))
            go_roundw
            case rel =>
              refine ⟨b + 1, (s'.1 ++ [((yn : Int), thenL (repL s'.1 (xn : Int)) g)], todoCol (s'.1.length : Int) gens.length s'.2), by go_num, by omega, ⟨?_⟩, HGR2, ⟨?_⟩, HGI2, ⟨?_⟩⟩
              · obtain ⟨PB3, hS5⟩ := HS4.out
                refine ⟨PB3, ?_⟩
                have h := hS5.push (x := (yn : Int)) (v' := v1) (by rw [List.length_append, nums_length] at ho; exact ho) hg3 hat3
                rw [List.map_append]
                exact h
              · show ((s'.1 ++ [((yn : Int), thenL (repL s'.1 (xn : Int)) g)]).map (·.1))[k]? = some (xn : Int)
                rw [List.map_append, List.getElem?_append_left (by rw [List.length_map]; have := HMS.out; omega)]
                exact HQK.out
              · exact blk_grown HGB9.out hg3 (fun e => by
                  obtain ⟨_, cs, h3⟩ := own_kind HQ4.out e.symm
                  rw [HGB9.out] at h3
                  simp at h3)
            case measure => simp [intOf]; omega
        · obtain rfl : b = m := by omega
          have HE : Aside0 (s' = growIn gens x gens s) := ⟨by
            have := HGI.out
            rwa [List.drop_eq_nil_of_le (by have := HM.out; omega)] at this⟩
          have HA := Aside0.mk hS2
          have HRG : Aside0 (∀ y : Int, y ∈ s'.1.map (·.1) → 0 ≤ y ∧ y < n) := ⟨HGR.out.rng⟩
          clear hS2 HGI hltb hb
          go_wp2_with (fail)
          go_roundw
          case rel =>
            refine ⟨k + 1, f, s', by go_num, by omega, HFK2, ⟨⟨PB, HA.out⟩⟩, HGR, ?_, HGB8⟩
            rw [HE.out]
            exact HF2
          case measure => simp [intOf]; omega
    · have HRR : Aside0 (s = F) := ⟨by
        have hf := HF.out
        cases f with
        | zero => rwa [grow] at hf
        | succ f =>
          rw [grow] at hf
          have hn0 : s.1[k]? = none := List.getElem?_eq_none (by have := HMS.out; omega)
          rw [hn0] at hf
          exact hf⟩
      have hgb8 := HGB8.out
      clear HF HFK HMS HGR
      have hg0 := blk_cell HGB8.out 0
      have hg1 := blk_cell HGB8.out 1
      have hg2 := blk_cell HGB8.out 2
      have hf0 := blk_frozen HGB8.out 0
      have hf1 := blk_frozen HGB8.out 1
      have hf2 := blk_frozen HGB8.out 2
      clear hgb8
      go_wp2_with (fail)
      obtain ⟨PBF, hSF⟩ := HS1.out
      have hbl := HB0.out
      refine bodyPost_ret (results_cell_row rfl _ _ gb 96 #[.int .i64 (p0 : Int), .slice A m c, .slice (some ⟨mb, 0, none⟩) n n] (0, 0) _ rfl (by refine blk_put (cs := #[.int .i64 (p0 : Int), .slice A m c, .slice none 0 0]) ?_ 2 _ rfl; refine blk_put (cs := #[.int .i64 (p0 : Int), .slice none 0 0, .slice none 0 0]) ?_ 1 _ rfl; refine blk_put (cs := #[.int .i64 0, .slice none 0 0, .slice none 0 0]) ?_ 0 _ rfl; exact HGB8.out) Try.underlying96 rfl (by kernel_rfl)) rfl ?_
      have hk : ∀ b, b ≠ gb → (((wr.setCell ⟨gb, 0, none⟩ (.int .i64 (p0 : Int))).setCell ⟨gb, 1, none⟩ (.slice A m c)).setCell ⟨gb, 2, none⟩ (.slice (some ⟨mb, 0, none⟩) n n)).heap[b]? = wr.heap[b]? := fun b hb => ((Below.heap_setCell _ _ _ b hb).trans (Below.heap_setCell _ _ _ b hb)).trans (Below.heap_setCell _ _ _ b hb)
      refine ⟨mb, PBF, rfl, ?_, Nat.le_trans hbl.size HGM.out.2.1, fun b hb => ?_, ?_⟩
      · have e : (levF n (p0 : Int) gens).reps = s.1 := by
          have h := HRR.out
          rw [← HFF.out] at h
          rw [h]
          rfl
        rw [e]
        exact hSF.maps.keep (hk mb (by have := HGM.out.1; omega)) (fun b hb _ => hk b (by have h1 := (hSF.pb b hb).1; have h2 := HGM.out.2.2; omega))
      · obtain ⟨h1, h2, _, _⟩ := hSF.pb b hb
        exact ⟨Nat.le_trans hbl.size h1, by simpa [World.setCell] using h2⟩
      · exact below_set (below_set (below_set (below_then hbl hbl.size hSF.below) HGB.out) HGB.out) HGB.out
end Go.Proofs.Ytpkgckccfanchaa.M

namespace Go.Proofs.Ytpkgckccfanchaa.M
open Go.RowKit Go.Proofs.YtpkgckccfanchaaW.PrintWords Go.Proofs.YtpkgckccfanchaaW.PrintLast Go.Proofs.YtpkgckccfanchaaW.PrintMore
open Sims
set_option linter.unusedVariables false
set_option linter.unusedSimpArgs false
structure RLv (w : World) (PB : Nat → Prop) (n : Nat) (gv : Value) (mb : Nat) (l : Lv) : Prop where
  gens : GensAt w 0 PB gv l.gens
  gown : ∀ b, gv.ownBlock = some b → PB b
  maps : MapsAt w PB n mb l.reps
  mown : PB mb
theorem RLv.step {w w1 : World} {PB PB' : Nat → Prop} {n mb : Nat} {gv : Value} {l : Lv} (h : RLv w PB n gv mb l) (hk : ∀ b, PB b → b < w.heap.size → w1.heap[b]? = w.heap[b]?) (hp : ∀ b, PB b → b < w.heap.size → PB' b) : RLv w1 PB' n gv mb l := by
  obtain ⟨gs, hg, hgs⟩ := h.gens
  have hgl : ∀ b, gv.ownBlock = some b → b < w.heap.size := fun b hb => by
    obtain ⟨_, cs, h3⟩ := own_kind hg hb
    exact lt_of_some h3
  obtain ⟨ms, hm, hms⟩ := h.maps
  refine ⟨⟨gs, own_same hg (fun b hb => hk b (h.gown b hb) (hgl b hb)), fun j p hj => ?_⟩, fun b hb => hp b (h.gown b hb) (hgl b hb), ⟨ms, own_same hm (fun b hb => ?_), fun j hj => ?_⟩, hp mb h.mown h.maps.lt⟩
  · obtain ⟨u, hu, hv⟩ := hgs j p hj
    exact ⟨u, hu, PV.mono (Kd.V_step (Kd.V_bound hv) (fun b hb hlt => hk b hb.1 hlt)) (fun b hb => hp b hb.1 hb.2)⟩
  · have e : mb = b := by simpa [Value.ownBlock] using hb
    rw [← e]
    exact hk mb h.mown h.maps.lt
  · obtain ⟨u, hu, hc⟩ := hms j hj
    exact ⟨u, hu, hc.imp (fun ⟨a, hv⟩ => ⟨a, PV.mono (Kd.V_step (Kd.V_bound hv) (fun b hb hlt => hk b hb.1 hlt)) (fun b hb => hp b hb.1 hb.2)⟩) id⟩
def RCh (w : World) (B n : Nat) (v : Value) (ls : List Lv) : Prop :=
  ∃ xs : List Value, w.ownsRow B 96 3 v ls.length xs ∧ ∀ (j : Nat) l, ls[j]? = some l → ∃ gv mb, xs[j * 3]? = some (.int .i64 l.point) ∧ xs[j * 3 + 1]? = some gv ∧ xs[j * 3 + 2]? = some (.slice (some ⟨mb, 0, none⟩) n n) ∧ RLv w (fun b => b < w.heap.size ∧ v.ownBlock ≠ some b) n gv mb l
section
variable {w w1 : World} {B n : Nat} {v : Value} {ls : List Lv}
theorem RCh.below (h : RCh w B n v ls) (hb : Below w.heap.size w w1) : RCh w1 B n v ls := by
  obtain ⟨xs, ho, hx⟩ := h
  refine ⟨xs, pw_own_below ho hb, fun j l hj => ?_⟩
  obtain ⟨gv, mb, h1, h2, h3, h4⟩ := hx j l hj
  exact ⟨gv, mb, h1, h2, h3, h4.step (fun b hb' hlt => hb.block b hlt) (fun b hb' hlt => ⟨Nat.lt_of_lt_of_le hlt hb.size, hb'.2⟩)⟩
theorem RCh.slice (h : RCh w B n v ls) : ∃ A c, v = .slice A ls.length c := by
  obtain ⟨xs, ho, _⟩ := h
  exact own_slice ho
theorem RCh.lt (h : RCh w B n v ls) : ∀ k, v.ownBlock = some k → B ≤ k ∧ k < w.heap.size := by
  obtain ⟨xs, ho, _⟩ := h
  exact ho.lt
theorem RCh.get (h : RCh w B n v ls) {j : Nat} {l : Lv} (hl : ls[j]? = some l) : ∃ g c gv mb, v = .slice (some ⟨g, 0, none⟩) ls.length c ∧ w.cell? ⟨g, j * 3, none⟩ = some (.int .i64 l.point) ∧ w.cell? ⟨g, j * 3 + 1, none⟩ = some gv ∧ w.cell? ⟨g, j * 3 + 2, none⟩ = some (.slice (some ⟨mb, 0, none⟩) n n) ∧ (∀ i, w.frozen? ⟨g, i, none⟩ = false) ∧ RLv w (fun b => b < w.heap.size ∧ b ≠ g) n gv mb l ∧ g < w.heap.size ∧ B ≤ g := by
  obtain ⟨xs, ho, hx⟩ := h
  obtain ⟨hj, e⟩ := List.getElem?_eq_some_iff.1 hl
  obtain ⟨gv, mb, h1, h2, h3, h4⟩ := hx j l hl
  obtain ⟨g, c, rfl, hg1, hg2⟩ := ho.form (by omega)
  refine ⟨g, c, gv, mb, rfl, (ho.cellAt (j * 3) (by omega)).trans h1, (ho.cellAt (j * 3 + 1) (by omega)).trans h2, (ho.cellAt (j * 3 + 2) (by omega)).trans h3, fun i => ho.frozenAt i, h4.step (fun b _ _ => rfl) (fun b hb hlt => ⟨hlt, fun e => hb.2 (by rw [e]; rfl)⟩), (ho.lt g rfl).2, (ho.lt g rfl).1⟩
end
def cntF (d : List Int) (j : Nat) : Nat := ((List.range j).filter (fun x : Nat => decide ((x : Int) ∈ d))).length
theorem cntF_succ (d : List Int) (j : Nat) : cntF d (j + 1) = cntF d j + if (j : Int) ∈ d then 1 else 0 := by
  unfold cntF
  rw [List.range_succ, List.filter_append, List.length_append]
  by_cases h : (j : Int) ∈ d <;> simp [h]
theorem cntF_all {n : Nat} {d : List Int} (hn : d.Nodup) (hr : ∀ x ∈ d, 0 ≤ x ∧ x < n) : cntF d n = d.length := by
  have h : (((List.range n).filter (fun x : Nat => decide ((x : Int) ∈ d))).map (fun x : Nat => (x : Int))).length = d.length := by
    refine same_len (map_inj_nodup _ _ (List.Pairwise.filter _ List.nodup_range) (fun x _ y _ e => by omega)) hn (fun x => ?_)
    rw [List.mem_map]
    constructor
    · rintro ⟨y, hy, rfl⟩
      simpa using (List.mem_filter.1 hy).2
    · intro hx
      have := hr x hx
      refine ⟨x.toNat, List.mem_filter.2 ⟨List.mem_range.2 (by omega), ?_⟩, by omega⟩
      have e : ((x.toNat : Nat) : Int) = x := by omega
      rw [e]
      simpa using hx
  rw [List.length_map] at h
  exact h
set_option maxHeartbeats 4000000 in
set_option maxRecDepth 100000 in
theorem size_calls {w : World} {n mb : Nat} {PB : Nat → Prop} {pv gv : Value} {reps : List (Int × List Int)} (hn : 0 < n) (hn' : n ≤ 512) (hm : MapsAt w PB n mb reps) (hip : ∀ x : Int, x ∈ reps.map (·.1) → IsP n (repL reps x)) (hnd : (reps.map (·.1)).Nodup) (hrg : ∀ x : Int, x ∈ reps.map (·.1) → 0 ≤ x ∧ x < n) {pt : Int} {Ag : Option Addr} {lg cg : Nat} :
    Calls Try.prog 66 #[.agg #[.int .i64 pt, .slice Ag lg cg, .slice (some ⟨mb, 0, none⟩) n n]] w fun e w' => e = .returned (.int .i64 (reps.length : Int)) ∧ Below w.heap.size w w' := by
  have HM := Aside0.mk hm
  have HIP := Aside0.mk hip
  have HN := Aside0.mk hn
  have HC : Aside0 (cntF (reps.map (·.1)) n = reps.length) := ⟨by rw [cntF_all hnd hrg, List.length_map]⟩
  clear hm hip hn hnd hrg
  go_enter Try.func66, Try.ntmps66
  go_wp2_with (fail)
  go_loopw [3, 9] (fun c i wr => ∃ j : Nat, i = .int .i64 j ∧ c = .int .i64 (cntF (reps.map (·.1)) j) ∧ cntF (reps.map (·.1)) j ≤ j ∧ j ≤ n ∧ Aside0 (Below w.heap.size w wr)) (fun _ i _ => n - (intOf i).toNat)
  case atStart => exact ⟨0, rfl, rfl, Nat.zero_le _, by omega, ⟨below_alloc (Below.refl _ _) _⟩⟩
  case round =>
    obtain ⟨j, rfl, rfl, hcj, hj, HB⟩ := hrel
    by_cases hlt : j < n
    · have hlt2 : (j : Int) < (n : Int) := by omega
      obtain ⟨u, hu1, -, hcase⟩ := (HM.out.below HB.out).get (y := (j : Int)) (by omega) hlt2
      rw [Int.toNat_natCast] at hu1
      have hsu := cntF_succ (reps.map (·.1)) j
      obtain ⟨q, hq⟩ : ∃ q, cntF (reps.map (·.1)) j = q := ⟨_, rfl⟩
      have HQ := Aside0.mk hq
      rw [hq] at hsu hcj
      rw [hq]
      clear hq
      have HSU := Aside0.mk hsu
      clear hsu
      rcases hcase with ⟨r, hlk, hv⟩ | ⟨hlk, rfl⟩
      · have hmem : (j : Int) ∈ reps.map (·.1) := List.mem_map.2 ⟨_, lookA_mem hlk, rfl⟩
        have hrp : IsP n r := by
          have := HIP.out _ hmem
          unfold repL at this
          rwa [hlk] at this
        obtain ⟨Au, cu, rfl, -, hCu⟩ := PV.read hv
        obtain ⟨adu, rfl⟩ := PV.addr hCu (by rw [hrp.len]; exact HN.out)
        have hne : ∀ W : World, (binOp BinOp.neq 28 (.slice (some adu) r.length cu) (.slice none 0 0)).run Try.prog W = .ok (.bool true) W := fun W => by kernel_rfl
        have HS2 : Aside0 (cntF (reps.map (·.1)) (j + 1) = q + 1) := ⟨by rw [HSU.out, if_pos hmem]⟩
        clear hmem hrp hv hCu hlk HSU
        go_wp2_with (fail)
        go_roundw
        case rel => exact ⟨j + 1, by go_num, by rw [HS2.out]; go_num, by rw [HS2.out]; omega, by omega, HB⟩
        case measure => simp [intOf]; omega
      · have hmem : ¬ (j : Int) ∈ reps.map (·.1) := lookA_none.1 hlk
        have hne : ∀ W : World, (binOp BinOp.neq 28 (.slice none 0 0) (.slice none 0 0)).run Try.prog W = .ok (.bool false) W := fun W => by kernel_rfl
        have HS2 : Aside0 (cntF (reps.map (·.1)) (j + 1) = q) := ⟨by rw [HSU.out, if_neg hmem]; rfl⟩
        clear hmem hlk HSU
        go_wp2_with (fail)
        go_roundw
        case rel => exact ⟨j + 1, by go_num, by rw [HS2.out], by rw [HS2.out]; omega, by omega, HB⟩
        case measure => simp [intOf]; omega
    · obtain rfl : j = n := by omega
      clear hlt hj
      have hcc := HC.out
      rw [hcc]
      clear hcc
      go_wp2_with (fail)
      go_ret
      exact ⟨rfl, HB.out⟩
set_option maxHeartbeats 4000000 in
set_option maxRecDepth 100000 in
theorem sift_calls {w : World} {B n : Nat} {v pv : Value} {okp : Nat → Prop} {ls : List Lv} {p : List Int} {k : Nat} (hn : 0 < n) (hn' : n ≤ 512) (hC : RCh w B n v ls) (hok : ∀ l ∈ ls, LvOk n l) (hk : k ≤ ls.length) (hlen : ls.length ≤ 1000000) (hv : PV w okp pv p) (hp : IsP n p) :
    Calls Try.prog 87 #[v, .int .i64 (k : Int), pv] w fun e w' => ∃ u, e = .returned (.tuple #[u, .int .i64 ((k + (siftF (ls.drop k) p).2 : Nat) : Int)]) ∧ PV w' (fun b => okp b ∨ w.heap.size ≤ b) u (siftF (ls.drop k) p).1 ∧ Below w.heap.size w w' := by
  obtain ⟨A, c, rfl⟩ := hC.slice
  obtain ⟨m, hm⟩ : ∃ m, ls.length = m := ⟨_, rfl⟩
  have HM := Aside0.mk hm
  have HC := Aside0.mk hC
  have HOK := Aside0.mk hok
  have HN := Aside0.mk hn
  have HV : Aside0 (PV w (fun b => okp b ∨ w.heap.size ≤ b) pv p) := ⟨PV.mono hv (fun _ h => .inl h)⟩
  have HP := Aside0.mk hp
  rw [hm] at hk hlen
  have HK := Aside0.mk hk
  rw [hm]
  clear hC hok hn hv hp hm
  obtain ⟨F, hF⟩ : ∃ F : List Int × Nat, ((siftF (ls.drop k) p).1, k + (siftF (ls.drop k) p).2) = F := ⟨_, rfl⟩
  have HF1 : Aside0 ((siftF (ls.drop k) p).1 = F.1) := ⟨by rw [← hF]⟩
  have hF2 : k + (siftF (ls.drop k) p).2 = F.2 := by rw [← hF]
  have HF3 : Aside0 (((siftF (ls.drop k) p).1, k + (siftF (ls.drop k) p).2) = F) := ⟨hF⟩
  rw [hF2]
  clear hF2 hF
  go_enter Try.func87, Try.ntmps87
  go_wp2_with (fail)
  go_loopw [2, 8] (fun x i wr => ∃ (j : Nat) (q : List Int), k ≤ j ∧ j ≤ m ∧ i = .int .i64 j ∧ Aside0 (PV wr (fun b => okp b ∨ w.heap.size ≤ b) x q) ∧ Aside0 (IsP n q) ∧ Aside0 (((siftF (ls.drop j) q).1, j + (siftF (ls.drop j) q).2) = F) ∧ Aside0 (Below w.heap.size w wr)) (fun _ i _ => m - (intOf i).toNat)
  case atStart => exact ⟨k, p, Nat.le_refl _, hk, rfl, HV, HP, HF3, ⟨Below.refl _ _⟩⟩
  case round =>
    obtain ⟨j, q, hkj, hj, rfl, HQ, HPQ, HR, HB⟩ := hrel
    by_cases hlt : j < m
    · obtain ⟨l, hl⟩ : ∃ l, ls[j]? = some l := ⟨ls[j]'(by have := HM.out; omega), List.getElem?_eq_getElem _⟩
      obtain ⟨g, cc, gv, mb, hge, hc0, hc1, hc2, hfz, hlv, hglt, -⟩ := (HC.out.below HB.out).get hl
      obtain ⟨rfl, rfl⟩ : A = some ⟨g, 0, none⟩ ∧ c = cc := by injection hge with a b c; exact ⟨a, c⟩
      have hok : LvOk n l := HOK.out l (List.mem_of_getElem? hl)
      have hdrop : ls.drop j = l :: ls.drop (j + 1) := by
        obtain ⟨h1, h2⟩ := List.getElem?_eq_some_iff.1 hl
        rw [List.drop_eq_getElem_cons h1, h2]
      have hx := HPQ.out.rd hok.pt.1 hok.pt.2
      obtain ⟨Ax, cx, rfl, hcx, hCx⟩ := PV.read HQ.out
      obtain ⟨adx, rfl⟩ := PV.addr hCx (by rw [HPQ.out.len]; exact HN.out)
      have hp0 : 0 ≤ l.point := hok.pt.1
      have hp1 : l.point < (q.length : Int) := by rw [HPQ.out.len]; exact hok.pt.2
      have hcy := PV.at_ hCx hp0 hp1
      obtain ⟨y, hy⟩ : ∃ y, rdl q l.point = y := ⟨_, rfl⟩
      rw [hy] at hcy hx
      obtain ⟨pt, hpt⟩ : ∃ pt, l.point = pt := ⟨_, rfl⟩
      rw [hpt] at hc0 hp0 hp1 hcy
      obtain ⟨pn, rfl⟩ := Int.eq_ofNat_of_zero_le hp0
      obtain ⟨yn, rfl⟩ := Int.eq_ofNat_of_zero_le hx.1
      obtain ⟨u, hu1, -, hcase⟩ := hlv.maps.get hx.1 hx.2
      rw [Int.toNat_natCast] at hu1 hcy
      have hlt2 : (j : Int) < (m : Int) := by omega
      have hyn : (yn : Int) < (n : Int) := hx.2
      have HLV := Aside0.mk hlv
      have HY := Aside0.mk hy
      have HOL := Aside0.mk hok
      have HD := Aside0.mk hdrop
      have HPT := Aside0.mk hpt
      clear hlv hy hok hdrop hpt hCx hx hl hc1 hge hfz
      rcases hcase with ⟨r, hlk, hur⟩ | ⟨hlk, rfl⟩
      · have hrp : IsP n r := by
          have := (HOL.out.rep (yn : Int) (List.mem_map.2 ⟨_, lookA_mem hlk, rfl⟩)).1
          unfold repL at this
          rwa [hlk] at this
        obtain ⟨Au, cu, rfl, -, hCu⟩ := PV.read hur
        obtain ⟨adu, rfl⟩ := PV.addr hCu (by rw [hrp.len]; exact HN.out)
        have heq : ∀ W : World, (binOp BinOp.eql 28 (.slice (some adu) r.length cu) (.slice none 0 0)).run Try.prog W = .ok (.bool false) W := fun W => by kernel_rfl
        have HUR := Aside0.mk hur
        have HRP := Aside0.mk hrp
        have HR2 : Aside0 (((siftF (ls.drop (j + 1)) (thenL q (backL r))).1, j + 1 + (siftF (ls.drop (j + 1)) (thenL q (backL r))).2) = F) := ⟨by
          have h := HR.out
          rw [HD.out, siftF, HY.out, hlk] at h
          rw [← h]
          simp only [Prod.mk.injEq, true_and]
          omega⟩
        clear hur hrp hCu hlk HR HD
        go_wp2_with (fail)
        go_quiet (fail)
        go_wp2_with (first | (go_at_call 59; (with_reducible refine (rinv_pv HN.out hn' (Kd.V_drewN HUR.out nq) HRP.out).mono ?_); rintro e w1 ⟨rb, rfl, hRB, hb1⟩; have HRB := Aside0.mk hRB; have HB1 := Aside0.mk hb1; clear hRB hb1) | (go_at_call 60; (with_reducible refine (rprod_pv HN.out hn' (PV.below (Kd.V_drewN HQ.out nq) HB1.out) HRB.out.any HPQ.out (backL_isP HRP.out)).mono ?_); rintro e w2 ⟨rt, rfl, hRT, hb2⟩; have HRT := Aside0.mk hRT; have HB2 := Aside0.mk hb2; clear hRT hb2))
        go_roundw
        case rel =>
          have hs : wr.heap.size ≤ w1.heap.size := HB1.out.size
          have hb2 : Below w.heap.size w w2 := below_then (below_then (pw_below_drewN HB.out nq) HB.out.size HB1.out) (Nat.le_trans HB.out.size hs) HB2.out
          refine ⟨j + 1, thenL q (backL r), by omega, by omega, by go_num, ⟨HRT.out.pv (fun b k1 _ => .inr (Nat.le_trans (Nat.le_trans HB.out.size hs) k1))⟩, ⟨thenL_isP HPQ.out (backL_isP HRP.out)⟩, HR2, ⟨hb2⟩⟩
        case measure => simp [intOf]; omega
      · have heq : ∀ W : World, (binOp BinOp.eql 28 (.slice none 0 0) (.slice none 0 0)).run Try.prog W = .ok (.bool true) W := fun W => by kernel_rfl
        have HR2 : Aside0 ((q, j) = F) := ⟨by
          have h := HR.out
          rw [HD.out, siftF, HY.out, hlk] at h
          exact h⟩
        clear hlk HR HD
        go_wp2_with (fail)
        go_quiet (fail)
        go_wp2_with (fail)
        go_ret2
        have e1 : F.2 = j := by rw [← HR2.out]
        have e2 : F.1 = q := by rw [← HR2.out]
        refine ⟨.slice (some adx) q.length cx, by rw [e1]; rfl, ?_, pw_below_drewN HB.out nq⟩
        rw [HF1.out, e2]
        exact Kd.V_drewN HQ.out nq
    · obtain rfl : j = m := by omega
      have HR2 : Aside0 ((q, j) = F) := ⟨by
        have h := HR.out
        rw [List.drop_eq_nil_of_le (by have := HM.out; omega)] at h
        exact h⟩
      obtain ⟨Ax, cx, rfl, -, -⟩ := PV.read HQ.out
      clear HR hlt hj
      go_wp2_with (fail)
      go_ret2
      have e1 : F.2 = j := by rw [← HR2.out]
      have e2 : F.1 = q := by rw [← HR2.out]
      refine ⟨.slice Ax q.length cx, by rw [e1]; rfl, ?_, HB.out⟩
      rw [HF1.out, e2]
      exact HQ.out
end Go.Proofs.Ytpkgckccfanchaa.M

namespace Go.Proofs.Ytpkgckccfanchaa.M
open Go.RowKit Go.Proofs.YtpkgckccfanchaaW.PrintWords Go.Proofs.YtpkgckccfanchaaW.PrintLast Go.Proofs.YtpkgckccfanchaaW.PrintMore
open Sims
set_option linter.unusedVariables false
set_option linter.unusedSimpArgs false
noncomputable def schrG (l : Lv) (rest : List Lv) (x : Int) (p : List Int) : Option (List Int × Nat) := if movedL (siftF rest (schF l.reps x p)).1 < 0 then none else some (siftF rest (schF l.reps x p))
noncomputable def schrX (l : Lv) (rest : List Lv) (x : Int) : Option (List Int × Nat) := if x ∈ dom l then l.gens.findSome? (schrG l rest x) else none
theorem schrF_eq (n : Nat) (l : Lv) (rest : List Lv) : schrF n l rest = (oneL n).findSome? (schrX l rest) := by
  unfold schrF
  congr 1
theorem oneL_drop {n x : Nat} (h : x < n) : (oneL n).drop x = (x : Int) :: (oneL n).drop (x + 1) := by
  rw [List.drop_eq_getElem_cons (by rw [oneL_length]; exact h)]
  congr 1
  simp [oneL]
theorem schrX_out {l : Lv} {rest : List Lv} {n x : Nat} (h : x < n) (hd : (x : Int) ∉ dom l) : ((oneL n).drop x).findSome? (schrX l rest) = ((oneL n).drop (x + 1)).findSome? (schrX l rest) := by
  rw [oneL_drop h, List.findSome?_cons, schrX, if_neg hd]
theorem schrX_in {l : Lv} {rest : List Lv} {n x : Nat} (h : x < n) (hd : (x : Int) ∈ dom l) : ((oneL n).drop x).findSome? (schrX l rest) = (l.gens.findSome? (schrG l rest (x : Int))).or (((oneL n).drop (x + 1)).findSome? (schrX l rest)) := by
  rw [oneL_drop h, List.findSome?_cons, schrX, if_pos hd]
  cases l.gens.findSome? (schrG l rest (x : Int)) <;> rfl
theorem sift_next {w : World} {B n : Nat} {v pv : Value} {okp : Nat → Prop} {ls rest : List Lv} {p : List Int} {k : Nat} (hn : 0 < n) (hn' : n ≤ 512) (hC : RCh w B n v ls) (hok : ∀ l ∈ ls, LvOk n l) (hk : k + 1 ≤ ls.length) (hlen : ls.length ≤ 1000000) (hv : PV w okp pv p) (hp : IsP n p) (hr : ls.drop (k + 1) = rest) :
    Calls Try.prog 87 #[v, .int .i64 ((k : Int) + 1), pv] w fun e w' => ∃ u, e = .returned (.tuple #[u, .int .i64 ((k + 1 + (siftF rest p).2 : Nat) : Int)]) ∧ PV w' (fun b => okp b ∨ w.heap.size ≤ b) u (siftF rest p).1 ∧ Below w.heap.size w w' := by
  have h := sift_calls hn hn' hC hok hk hlen hv hp
  rw [hr] at h
  exact h
set_option maxHeartbeats 8000000 in
set_option maxRecDepth 100000 in
theorem schreier_calls {w : World} {B n : Nat} {v : Value} {ls : List Lv} {k : Nat} {l : Lv} {pts : List Int} (hn : 0 < n) (hn' : n ≤ 512) (hC : RCh w B n v ls) (hl : ls[k]? = some l) (hok : ∀ l ∈ ls, LvOk n l) (hcl : Cl n pts l) (hlen : ls.length ≤ 1000000) (hgl : l.gens.length ≤ 1000000) :
    Calls Try.prog 90 #[v, .int .i64 (k : Int)] w fun e w' => Below w.heap.size w w' ∧ ((schrF n l (ls.drop (k + 1)) = none ∧ e = .returned (.tuple #[.slice none 0 0, .int .i64 0])) ∨ ∃ q u, schrF n l (ls.drop (k + 1)) = some q ∧ e = .returned (.tuple #[u, .int .i64 ((k + 1 + q.2 : Nat) : Int)]) ∧ PV w' (fun b => w.heap.size ≤ b) u q.1) := by
  obtain ⟨hk, -⟩ := List.getElem?_eq_some_iff.1 hl
  obtain ⟨g, c, gv, mb, rfl, hc0, hc1, hc2, -, hlv, -, -⟩ := hC.get hl
  obtain ⟨gs, hgo, hgs⟩ := hlv.gens
  obtain ⟨Ag, cg, rfl⟩ := own_slice hgo
  obtain ⟨m, hm⟩ : ∃ m, ls.length = m := ⟨_, rfl⟩
  obtain ⟨mg, hmg⟩ : ∃ mg, l.gens.length = mg := ⟨_, rfl⟩
  have HM := Aside0.mk hm
  have HMG := Aside0.mk hmg
  have HC := Aside0.mk hC
  have HLV := Aside0.mk hlv
  have HOK := Aside0.mk hok
  have HCL := Aside0.mk hcl
  have HN := Aside0.mk hn
  rw [hm] at hlen hk
  rw [hmg] at hgl hc1
  have hkm : (k : Int) < (m : Int) := by omega
  rw [hm]
  obtain ⟨rest, hrest⟩ : ∃ rest, ls.drop (k + 1) = rest := ⟨_, rfl⟩
  have HREST := Aside0.mk hrest
  rw [hrest]
  obtain ⟨S, hS⟩ : ∃ S, schrF n l rest = S := ⟨_, rfl⟩
  have HS0 : Aside0 (((oneL n).drop 0).findSome? (schrX l rest) = S) := ⟨by rw [← hS, schrF_eq]; rfl⟩
  rw [hS]
  have HSM : Aside0 ((siftF rest [0]).2 ≤ m) := ⟨by rw [← hrest]; have := siftF_le (ls.drop (k + 1)) [0]; rw [List.length_drop] at this; omega⟩
  clear hC hl hok hcl hm hmg hrest hS hgo hgs hlv hn
  go_enter Try.func90, Try.ntmps90
  go_wp2_with (fail)
  obtain ⟨W1, hW1⟩ : ∃ W1, W1 = w.alloc (.cells #[.int .i64 l.point, .slice Ag mg cg, .slice (some ⟨mb, 0, none⟩) n n] 96) := ⟨_, rfl⟩
  obtain ⟨gb, hgb⟩ : ∃ gb, gb = w.heap.size := ⟨_, rfl⟩
  rw [← hW1, ← hgb]
  have HX : Aside0 (W1.heap[gb]? = some (.cells #[.int .i64 l.point, .slice Ag mg cg, .slice (some ⟨mb, 0, none⟩) n n] 96 (0, 0))) := ⟨by rw [hW1, hgb]; exact blk_new w _⟩
  have HBW : Aside0 (Below w.heap.size w W1) := ⟨by rw [hW1]; exact below_alloc (Below.refl _ _) _⟩
  clear hW1 hgb hc0 hc1 hc2
  go_loopw [21] (fun i wr => ∃ x : Nat, i = .int .i64 x ∧ x ≤ n ∧ Aside0 (((oneL n).drop x).findSome? (schrX l rest) = S) ∧ Aside0 (Below w.heap.size w wr) ∧ Aside0 (wr.heap[gb]? = some (.cells #[.int .i64 l.point, .slice Ag mg cg, .slice (some ⟨mb, 0, none⟩) n n] 96 (0, 0)))) (fun i _ => n - (intOf i).toNat)
  case atStart => exact ⟨0, rfl, by omega, HS0, HBW, HX⟩
  case round =>
    clear HS0 HBW HX
    obtain ⟨x, rfl, hx, HS, HB, HX⟩ := hrel
    obtain ⟨wo, rfl⟩ : ∃ wo : World, wo = wr := ⟨_, rfl⟩
    by_cases hlt : x < n
    · have hlt2 : (x : Int) < (n : Int) := by omega
      have hlvr : RLv wo (fun b => b < wo.heap.size) n (.slice Ag l.gens.length cg) mb l := HLV.out.step (fun b hb hlt => HB.out.block b hlt) (fun b hb hlt => Nat.lt_of_lt_of_le hlt HB.out.size)
      obtain ⟨u, hu1, -, hcase⟩ := hlvr.maps.get (y := (x : Int)) (by omega) hlt2
      rw [Int.toNat_natCast] at hu1
      have hg1 := (blk_cell HX.out 1).trans (show _ = some (Value.slice Ag mg cg) from rfl)
      have hg2 := (blk_cell HX.out 2).trans (show _ = some (Value.slice (some ⟨mb, 0, none⟩) n n) from rfl)
      have HLR := Aside0.mk hlvr
      clear hlvr
      rcases hcase with ⟨r, hlk, hur⟩ | ⟨hlk, rfl⟩
      · have hmem : (x : Int) ∈ dom l := List.mem_map.2 ⟨_, lookA_mem hlk, rfl⟩
        have hre : repL l.reps (x : Int) = r := by unfold repL; rw [hlk]; rfl
        have hrp : IsP n r := by rw [← hre]; exact (HCL.out.gr.rep _ hmem).1
        obtain ⟨Au, cu, rfl, -, hCu⟩ := PV.read hur
        obtain ⟨adu, rfl⟩ := PV.addr hCu (by rw [hrp.len]; exact HN.out)
        have heq : ∀ W : World, (binOp BinOp.eql 28 (.slice (some adu) r.length cu) (.slice none 0 0)).run Try.prog W = .ok (.bool false) W := fun W => by kernel_rfl
        have HUR := Aside0.mk hur
        have HRP := Aside0.mk hrp
        have HRE := Aside0.mk hre
        have HMEM := Aside0.mk hmem
        have HS1 : Aside0 (((l.gens.drop 0).findSome? (schrG l rest (x : Int))).or (((oneL n).drop (x + 1)).findSome? (schrX l rest)) = S) := ⟨by rw [← HS.out, schrX_in hlt hmem]; rfl⟩
        clear hur hrp hre hCu hlk hmem HS
        go_wp2_with (fail)
        go_loopg [31] mg (fun gk i wr => ∃ b : Nat, i = .int .i64 b ∧ b + gk = mg ∧ Aside0 (((l.gens.drop b).findSome? (schrG l rest (x : Int))).or (((oneL n).drop (x + 1)).findSome? (schrX l rest)) = S) ∧ Aside0 (Below wo.heap.size wo wr))
        case atStart => exact ⟨0, rfl, by omega, HS1, ⟨Below.refl _ _⟩⟩
        case round =>
          clear HS1
          obtain ⟨b, rfl, hb, HS, HBV⟩ := hrel
          by_cases hltb : b < mg
          · obtain ⟨p, hp⟩ : ∃ p, l.gens[b]? = some p := ⟨l.gens[b]'(by have := HMG.out; omega), List.getElem?_eq_getElem _⟩
            have hpm : p ∈ l.gens := List.mem_of_getElem? hp
            have hpp := HCL.out.gens p hpm
            have hlvv : RLv wr (fun b => b < wr.heap.size) n (.slice Ag l.gens.length cg) mb l := HLR.out.step (fun b hb hlt => HBV.out.block b hlt) (fun b hb hlt => Nat.lt_of_lt_of_le hlt HBV.out.size)
            obtain ⟨adg, up, rfl, hcp, hup⟩ := gens_at hlvv.gens rfl hp
            obtain ⟨Ap, cp, rfl, -, hCp⟩ := PV.read hup
            obtain ⟨adp, rfl⟩ := PV.addr hCp (by rw [hpp.len]; exact HN.out)
            have hx1 : (x : Int) < (p.length : Int) := by rw [hpp.len]; omega
            have hcy := PV.at_ hCp (x := (x : Int)) (by omega) hx1
            have hyr := hpp.rd (x := (x : Int)) (by omega) hlt2
            have hyd := HCL.out.closed (x : Int) HMEM.out p hpm
            obtain ⟨y, hy⟩ : ∃ y, rdl p (x : Int) = y := ⟨_, rfl⟩
            rw [hy] at hcy hyr hyd
            obtain ⟨yn, rfl⟩ := Int.eq_ofNat_of_zero_le hyr.1
            obtain ⟨uy, huy, -, hcase⟩ := hlvv.maps.get hyr.1 hyr.2
            rw [Int.toNat_natCast] at huy hcy
            obtain ⟨ry, hry⟩ : ∃ ry, repL l.reps (yn : Int) = ry := ⟨_, rfl⟩
            have hryp : IsP n ry := by rw [← hry]; exact (HCL.out.gr.rep _ hyd).1
            have hpy : PV wr (fun b => b < wr.heap.size) uy ry := by
              rcases hcase with ⟨r', h1, h2⟩ | ⟨h1, _⟩
              · have : repL l.reps (yn : Int) = r' := by unfold repL; rw [h1]; rfl
                rw [← hry, this]
                exact h2
              · exact absurd hyd (lookA_none.1 h1)
            have hsch : schF l.reps (x : Int) p = thenL (thenL r p) (backL ry) := by unfold schF; rw [HRE.out, hy, hry]
            obtain ⟨sch, hse⟩ : ∃ sch, schF l.reps (x : Int) p = sch := ⟨_, rfl⟩
            have hschp : IsP n sch := by rw [← hse, hsch]; exact thenL_isP (thenL_isP HRP.out hpp) (backL_isP hryp)
            have hnext : (l.gens.drop b).findSome? (schrG l rest (x : Int)) = if movedL (siftF rest sch).1 < 0 then (l.gens.drop (b + 1)).findSome? (schrG l rest (x : Int)) else some (siftF rest sch) := by
              obtain ⟨h1, h2⟩ := List.getElem?_eq_some_iff.1 hp
              rw [List.drop_eq_getElem_cons h1, h2, List.findSome?_cons, schrG, hse]
              by_cases hm : movedL (siftF rest sch).1 < 0
              · rw [if_pos hm, if_pos hm]
              · rw [if_neg hm, if_neg hm]
            have HNX := Aside0.mk hnext
            have HSCH : Aside0 (thenL (thenL r p) (backL ry) = sch) := ⟨by rw [← hsch, hse]⟩
            have HSP := Aside0.mk hschp
            have hg2v : wr.cell? ⟨gb, 2, none⟩ = some (.slice (some ⟨mb, 0, none⟩) n n) := pw_cell_below HBV.out hg2
            have hltb2 : (b : Int) < (mg : Int) := by omega
            have hyn : (yn : Int) < (n : Int) := hyr.2
            have C1 : ∀ W : World, Below wr.heap.size wr W → Calls Try.prog 60 #[.slice (some adu) r.length cu, .slice (some adp) p.length cp] W fun e w' => ∃ A c, e = .returned (.slice A (thenL r p).length c) ∧ Below W.heap.size W w' ∧ Below wr.heap.size wr w' ∧ ∀ W2, Below w'.heap.size w' W2 → PV W2 (fun b => wr.heap.size ≤ b) (.slice A (thenL r p).length c) (thenL r p) := fun W hW => by
              refine (rprod_pv HN.out hn' (PV.below (PV.below HUR.out HBV.out) hW) (PV.below hup hW) HRP.out hpp).mono ?_
              rintro e w' ⟨v1, rfl, hR, hb'⟩
              obtain ⟨A, c, rfl, -, -⟩ := PV.read hR.any
              exact ⟨A, c, rfl, hb', below_then hW hW.size hb', fun W2 h2 => (hR.pv (fun b k1 _ => Nat.le_trans hW.size k1)).below h2⟩
            have C2 : ∀ W : World, Below wr.heap.size wr W → Calls Try.prog 59 #[uy] W fun e w' => ∃ A c, e = .returned (.slice A (backL ry).length c) ∧ Below W.heap.size W w' ∧ Below wr.heap.size wr w' ∧ ∀ W2, Below w'.heap.size w' W2 → PV W2 (fun b => wr.heap.size ≤ b) (.slice A (backL ry).length c) (backL ry) := fun W hW => by
              refine (rinv_pv HN.out hn' (PV.below hpy hW) hryp).mono ?_
              rintro e w' ⟨v1, rfl, hR, hb'⟩
              obtain ⟨A, c, rfl, -, -⟩ := PV.read hR.any
              exact ⟨A, c, rfl, hb', below_then hW hW.size hb', fun W2 h2 => (hR.pv (fun b k1 _ => Nat.le_trans hW.size k1)).below h2⟩
            have C3 : ∀ (W : World) (A1 : Option Addr) (c1 : Nat) (A2 : Option Addr) (c2 : Nat), Below wr.heap.size wr W → PV W (fun b => wr.heap.size ≤ b) (.slice A1 (thenL r p).length c1) (thenL r p) → PV W (fun b => wr.heap.size ≤ b) (.slice A2 (backL ry).length c2) (backL ry) → Calls Try.prog 60 #[.slice A1 (thenL r p).length c1, .slice A2 (backL ry).length c2] W fun e w' => ∃ v, e = .returned v ∧ Below W.heap.size W w' ∧ Below wr.heap.size wr w' ∧ PV w' (fun b => wr.heap.size ≤ b) v sch := fun W A1 c1 A2 c2 hW h1 h2 => by
              refine (rprod_pv HN.out hn' h1 h2 (thenL_isP HRP.out hpp) (backL_isP hryp)).mono ?_
              rintro e w' ⟨v1, rfl, hR, hb'⟩
              rw [HSCH.out] at hR
              exact ⟨v1, rfl, hb', below_then hW hW.size hb', hR.pv (fun b k1 _ => Nat.le_trans hW.size k1)⟩
            have HC1 := Aside0.mk C1
            have HC2 := Aside0.mk C2
            have HC3 := Aside0.mk C3
            have hkeep : ∀ W' : World, Below wr.heap.size wr W' → W'.cell? ⟨gb, 2, none⟩ = some (.slice (some ⟨mb, 0, none⟩) n n) ∧ W'.cell? (adp.add x) = some (.int .i64 (yn : Int)) ∧ W'.cell? ⟨mb, yn, none⟩ = some uy := fun W' hW => ⟨pw_cell_below hW hg2v, pw_cell_below hW hcy, pw_cell_below hW huy⟩
            have HKP := Aside0.mk hkeep
            clear C1 C2 C3 hnext hsch hse hschp hpy hryp hry hyd hyr hy hup hlvv hpp hpm hp hCp hcase hkeep HSCH
            go_upto_region 9 with (fail)
            go_cut [11] (fun v11 wc => Aside0 (PV wc (fun b => wr.heap.size ≤ b) v11 sch) ∧ Aside0 (Below wr.heap.size wr wc))
            case first =>
              go_region_held3 (fun W' => W'.cell? ⟨gb, 2, none⟩ = some (.slice (some ⟨mb, 0, none⟩) n n) ∧ W'.cell? (adp.add x) = some (.int .i64 (yn : Int)) ∧ W'.cell? ⟨mb, yn, none⟩ = some uy) ((refine HKP.out _ ?_; (repeat' (first | with_reducible exact Below.refl _ _ | with_reducible exact hJW | with_reducible exact hIW | with_reducible exact hPW | with_reducible apply below_drew1)))) (first | (go_at_call 59; (with_reducible refine (HC2.out _ ?hW).mono ?_); (case hW => (repeat' (first | with_reducible exact Below.refl _ _ | with_reducible exact hPW | with_reducible apply below_drew1))); rintro e w3 ⟨A3, c3, rfl, hIb, hIW, hIV⟩) | (go_at_call 60; (with_reducible refine (HC1.out _ ?hW).mono ?_); (case hW => (repeat' (first | with_reducible exact Below.refl _ _ | with_reducible exact hIW | with_reducible apply below_drew1))); rintro e w4 ⟨A4, c4, rfl, hPb, hPW, hPV⟩) | (go_at_call 60; (with_reducible refine (HC3.out _ A4 c4 A3 c3 ?hW ?h1 ?h2).mono ?_); (case hW => (repeat' (first | with_reducible exact hPW | with_reducible exact hIW | with_reducible apply below_drew1))); (case h1 => (refine hPV _ ?_; (repeat' (first | with_reducible exact Below.refl _ _ | with_reducible exact hIb | with_reducible apply below_drew1)))); (case h2 => (refine hIV _ ?_; (repeat' (first | with_reducible exact Below.refl _ _ | with_reducible exact hPb | with_reducible apply below_drew1)))); rintro e w5 ⟨v5, rfl, hJb, hJW, hJV⟩))
              all_goals
                go_wp2_with (fail)
                go_meet
                case rel => exact ⟨⟨hJV⟩, ⟨hJW⟩⟩
            case rest =>
              obtain ⟨HQV, HQB⟩ := hcut
              obtain ⟨Aq, cq, rfl, -, -⟩ := PV.read HQV.out
              have hbw : Below w.heap.size w wc := below_then (below_then HB.out HB.out.size HBV.out) (Nat.le_trans HB.out.size HBV.out.size) HQB.out
              have HBWC := Aside0.mk hbw
              have hcc : RCh wc B n (.slice (some ⟨g, 0, none⟩) m c) ls := by have h := HC.out.below hbw; rw [HM.out] at h; exact h
              have HCC := Aside0.mk hcc
              have hso : IsP n (siftF rest sch).1 := by rw [siftF_fst]; exact resid_isP (fun l' hl' => HOK.out l' (by rw [← HREST.out] at hl'; exact List.mem_of_mem_drop hl')) HSP.out
              have HSO := Aside0.mk hso
              clear hbw hcc hso HC1 HC2 HC3 HKP hcy hcp huy hu1 hg1 hg2 hg2v heq
              by_cases hmv : movedL (siftF rest sch).1 < 0
              · have HS2 : Aside0 (((l.gens.drop (b + 1)).findSome? (schrG l rest (x : Int))).or (((oneL n).drop (x + 1)).findSome? (schrX l rest)) = S) := ⟨by rw [← HS.out, HNX.out, if_pos hmv]⟩
                have hmv2 : ¬ (0 ≤ movedL (siftF rest sch).1) := by omega
                clear HS HNX
                go_wp2_with (first | (go_at_call 87; (with_reducible refine (sift_next HN.out hn' HCC.out HOK.out (by rw [HM.out]; omega) (by rw [HM.out]; omega) HQV.out HSP.out HREST.out).mono ?_); rintro e w6 ⟨u6, rfl, hU, hb6⟩; have HU := Aside0.mk hU; have HB6 := Aside0.mk hb6; clear hU hb6) | (go_at_call 88; (with_reducible refine (rmoved_pv (by rw [HSO.out.len]; exact hn') HU.out).mono ?_); rintro e w7 ⟨rfl, hD⟩; have HD := Aside0.mk hD; clear hD))
                go_roundg (gk - 1)
                case measure => omega
                case rel =>
                  refine ⟨b + 1, by go_num, by omega, HS2, ⟨?_⟩⟩
                  exact below_then (below_then (below_then HBV.out HBV.out.size HQB.out) (Nat.le_trans HBV.out.size HQB.out.size) HB6.out) (Nat.le_trans (Nat.le_trans HBV.out.size HQB.out.size) HB6.out.size) HD.out.below
              · have HS2 : Aside0 (S = some (siftF rest sch)) := ⟨by rw [← HS.out, HNX.out, if_neg hmv]; rfl⟩
                have hmv2 : 0 ≤ movedL (siftF rest sch).1 := by omega
                clear HS HNX
                go_wp2_with (first | (go_at_call 87; (with_reducible refine (sift_next HN.out hn' HCC.out HOK.out (by rw [HM.out]; omega) (by rw [HM.out]; omega) HQV.out HSP.out HREST.out).mono ?_); rintro e w6 ⟨u6, rfl, hU, hb6⟩; have HU := Aside0.mk hU; have HB6 := Aside0.mk hb6; clear hU hb6) | (go_at_call 88; (with_reducible refine (rmoved_pv (by rw [HSO.out.len]; exact hn') HU.out).mono ?_); rintro e w7 ⟨rfl, hD⟩; have HD := Aside0.mk hD; clear hD))
                go_ret2
                have hz : w.heap.size ≤ wr.heap.size := Nat.le_trans HB.out.size HBV.out.size
                have hz2 : w.heap.size ≤ wc.heap.size := HBWC.out.size
                refine ⟨below_then (below_then HBWC.out hz2 HB6.out) (Nat.le_trans hz2 HB6.out.size) HD.out.below, .inr ⟨_, _, HS2.out, rfl, PV.mono (PV.below HU.out HD.out.below) (fun b hb => hb.elim (fun h => Nat.le_trans hz h) (fun h => Nat.le_trans hz2 h))⟩⟩
          · obtain rfl : b = mg := by omega
            have HS2 : Aside0 (((oneL n).drop (x + 1)).findSome? (schrX l rest) = S) := ⟨by
              have e : l.gens.drop b = [] := List.drop_of_length_le (by have := HMG.out; omega)
              rw [← HS.out, e]
              rfl⟩
            have HX2 : Aside0 (wr.heap[gb]? = some (.cells #[.int .i64 l.point, .slice Ag b cg, .slice (some ⟨mb, 0, none⟩) n n] 96 (0, 0))) := ⟨blk_below HX.out HBV.out⟩
            clear HS hltb hb
            go_wp2_with (fail)
            go_roundw
            case rel => exact ⟨x + 1, by go_num, by omega, HS2, ⟨below_then HB.out HB.out.size HBV.out⟩, HX2⟩
            case measure => simp [intOf]; omega
      · have hmem : (x : Int) ∉ dom l := lookA_none.1 hlk
        have heq : ∀ W : World, (binOp BinOp.eql 28 (.slice none 0 0) (.slice none 0 0)).run Try.prog W = .ok (.bool true) W := fun W => by kernel_rfl
        have HS1 : Aside0 (((oneL n).drop (x + 1)).findSome? (schrX l rest) = S) := ⟨by rw [← HS.out, schrX_out hlt hmem]⟩
        clear hlk hmem HS
        go_wp2_with (fail)
        go_roundw
        case rel => exact ⟨x + 1, by go_num, by omega, HS1, HB, HX⟩
        case measure => simp [intOf]; omega
    · obtain rfl : x = n := by omega
      have HS1 : Aside0 (S = none) := ⟨by rw [← HS.out, List.drop_of_length_le (by rw [oneL_length]; omega)]; rfl⟩
      clear HS hlt
      go_wp2_with (fail)
      go_ret2
      exact ⟨HB.out, .inl ⟨HS1.out, rfl⟩⟩
end Go.Proofs.Ytpkgckccfanchaa.M

namespace Go.Proofs.Ytpkgckccfanchaa.M
open Go.RowKit Go.Proofs.YtpkgckccfanchaaW.PrintWords Go.Proofs.YtpkgckccfanchaaW.PrintLast Go.Proofs.YtpkgckccfanchaaW.PrintMore
open Sims
set_option linter.unusedVariables false
set_option linter.unusedSimpArgs false
theorem infoLvl : (Try.prog.info? 96).map (fun i => (i.zero, i.size, i.bytes)) = some (some (.agg #[.int .i64 0, .slice none 0 0, .slice none 0 0]), 3, 56) := by kernel_rfl
section
variable {w w1 : World} {B n : Nat} {v v' : Value} {ls : List Lv}
theorem RCh.nil (w : World) (B n : Nat) : RCh w B n (.slice none 0 0) [] := ⟨[], World.ownsRow_nil w B _ 3, fun j l hj => by simp at hj⟩
theorem RCh.push {l : Lv} {gv : Value} {mb : Nat} {xs : List Value} (hx0 : w.ownsRow B 96 3 v ls.length xs)
    (hys : ∀ (j : Nat) l, ls[j]? = some l → ∃ gv mb, xs[j * 3]? = some (.int .i64 l.point) ∧ xs[j * 3 + 1]? = some gv ∧ xs[j * 3 + 2]? = some (.slice (some ⟨mb, 0, none⟩) n n) ∧ RLv w (fun b => b < w.heap.size ∧ v.ownBlock ≠ some b) n gv mb l)
    (ho : w1.ownsRow B 96 3 v' (ls.length + 1) (xs ++ [.int .i64 l.point, gv, .slice (some ⟨mb, 0, none⟩) n n])) (hg : w.grownBy w1 v.ownBlock) (hat : v'.ownBlock = v.ownBlock ∨ ∃ b, v'.ownBlock = some b ∧ w.heap.size ≤ b)
    (hl : RLv w (fun b => b < w.heap.size ∧ v.ownBlock ≠ some b) n gv mb l) : RCh w1 B n v' (ls ++ [l]) := by
  have hxl : xs.length = ls.length * 3 := hx0.1
  have hstep : ∀ {gv mb l}, RLv w (fun b => b < w.heap.size ∧ v.ownBlock ≠ some b) n gv mb l → RLv w1 (fun b => b < w1.heap.size ∧ v'.ownBlock ≠ some b) n gv mb l := fun {gv mb l} hl =>
    hl.step (fun b hb hlt => hg.block b hlt (fun e => hb.2 e.symm)) (fun b hb hlt => ⟨Nat.lt_of_lt_of_le hlt hg.size, by
      rcases hat with e | ⟨b', e, hb'⟩
      · rw [e]; exact hb.2
      · rw [e]; intro e'; have := Option.some.inj e'; omega⟩)
  refine ⟨_, by rw [List.length_append, List.length_singleton]; exact ho, fun j l' hj => ?_⟩
  rcases Nat.lt_or_ge j ls.length with hlt | hge
  · rw [List.getElem?_append_left hlt] at hj
    obtain ⟨gv', mb', h1, h2, h3, h4⟩ := hys j l' hj
    exact ⟨gv', mb', by rw [List.getElem?_append_left (by omega)]; exact h1, by rw [List.getElem?_append_left (by omega)]; exact h2, by rw [List.getElem?_append_left (by omega)]; exact h3, hstep h4⟩
  · rw [List.getElem?_append_right hge] at hj
    have hj0 : j - ls.length = 0 := by
      have := (List.getElem?_eq_some_iff.1 hj).1
      simp at this
      omega
    rw [hj0] at hj
    have e : l = l' := by simpa using hj
    subst e
    refine ⟨gv, mb, ?_, ?_, ?_, hstep hl⟩
    · rw [List.getElem?_append_right (by omega), show j * 3 - xs.length = 0 from by omega]; rfl
    · rw [List.getElem?_append_right (by omega), show j * 3 + 1 - xs.length = 1 from by omega]; rfl
    · rw [List.getElem?_append_right (by omega), show j * 3 + 2 - xs.length = 2 from by omega]; rfl
theorem RCh.put {g c j : Nat} {l l' : Lv} {gv : Value} {mb : Nat} (h : RCh w B n (.slice (some ⟨g, 0, none⟩) ls.length c) ls) (hl : ls[j]? = some l) (hr : RLv w (fun b => b < w.heap.size ∧ b ≠ g) n gv mb l') :
    RCh (((w.setCell ⟨g, j * 3, none⟩ (.int .i64 l'.point)).setCell ⟨g, j * 3 + 1, none⟩ gv).setCell ⟨g, j * 3 + 2, none⟩ (.slice (some ⟨mb, 0, none⟩) n n)) B n (.slice (some ⟨g, 0, none⟩) ls.length c) (ls.set j l') := by
  obtain ⟨xs, ho, hx⟩ := h
  obtain ⟨hj, -⟩ := List.getElem?_eq_some_iff.1 hl
  have hxl : xs.length = ls.length * 3 := ho.1
  have ho2 := (((ho.stored (j * 3) (.int .i64 l'.point)).1.stored (j * 3 + 1) gv).1.stored (j * 3 + 2) (.slice (some ⟨mb, 0, none⟩) n n)).1
  have hk : ∀ b, b ≠ g → (((w.setCell ⟨g, j * 3, none⟩ (.int .i64 l'.point)).setCell ⟨g, j * 3 + 1, none⟩ gv).setCell ⟨g, j * 3 + 2, none⟩ (.slice (some ⟨mb, 0, none⟩) n n)).heap[b]? = w.heap[b]? := fun b hb => ((Below.heap_setCell _ _ _ b hb).trans (Below.heap_setCell _ _ _ b hb)).trans (Below.heap_setCell _ _ _ b hb)
  have hs : (((w.setCell ⟨g, j * 3, none⟩ (.int .i64 l'.point)).setCell ⟨g, j * 3 + 1, none⟩ gv).setCell ⟨g, j * 3 + 2, none⟩ (.slice (some ⟨mb, 0, none⟩) n n)).heap.size = w.heap.size := by simp [World.setCell]
  refine ⟨_, by rw [List.length_set]; exact ho2, fun i m hi => ?_⟩
  rw [List.getElem?_set] at hi
  by_cases e : j = i
  · subst e
    rw [if_pos rfl, if_pos hj] at hi
    cases hi
    refine ⟨gv, mb, ?_, ?_, ?_, hr.step (fun b hb hlt => hk b hb.2) (fun b hb hlt => ⟨by rw [hs]; exact hlt, fun e => hb.2 (Option.some.inj (show some g = some b from e)).symm⟩)⟩
    · rw [List.getElem?_set_ne (by omega), List.getElem?_set_ne (by omega), List.getElem?_set_self (by omega)]
    · rw [List.getElem?_set_ne (by omega), List.getElem?_set_self (by rw [List.length_set]; omega)]
    · rw [List.getElem?_set_self (by rw [List.length_set, List.length_set]; omega)]
  · rw [if_neg e] at hi
    obtain ⟨gv', mb', h1, h2, h3, h4⟩ := hx i m hi
    refine ⟨gv', mb', ?_, ?_, ?_, h4.step (fun b hb hlt => hk b (fun e => hb.2 (by rw [e]; rfl))) (fun b hb hlt => ⟨by rw [hs]; exact hlt, hb.2⟩)⟩
    · rw [List.getElem?_set_ne (by omega), List.getElem?_set_ne (by omega), List.getElem?_set_ne (by omega)]; exact h1
    · rw [List.getElem?_set_ne (by omega), List.getElem?_set_ne (by omega), List.getElem?_set_ne (by omega)]; exact h2
    · rw [List.getElem?_set_ne (by omega), List.getElem?_set_ne (by omega), List.getElem?_set_ne (by omega)]; exact h3
end
theorem gens_GC {w : World} {B : Nat} {PB : Nat → Prop} {A : Option Addr} {m c : Nat} {gens : List (List Int)} (h : GensAt w B PB (.slice A m c) gens) : m = gens.length ∧ GC w A gens ∧ gens.length ≤ c := by
  obtain ⟨gs, ho, hg⟩ := h
  rcases ho.2 with ⟨h1, h2⟩ | ⟨g, cap, cur, h1, h2, h3, h4, h5, h6, h7⟩
  · obtain ⟨e1, e2, e3⟩ : A = none ∧ m = 0 ∧ c = 0 := by injection h1 with a b c; exact ⟨a, b, c⟩
    have e : gens = [] := List.length_eq_zero_iff.1 h2
    subst e e1 e2
    exact ⟨rfl, Kd.C_nil _ _, by simp⟩
  · obtain ⟨e1, e2, e3⟩ : A = some ⟨g, 0, none⟩ ∧ m = gens.length ∧ c = cap := by injection h1 with a b c; exact ⟨a, b, c⟩
    subst e1 e2 e3
    have hmx : maxLen = 9223372036854775807 := by decide
    refine ⟨rfl, ⟨rfl, by omega, fun _ => ⟨_, rfl, fun j p hj => ?_⟩⟩, h4⟩
    obtain ⟨u, hu, hpv⟩ := hg j p hj
    obtain ⟨A', c', e, hc, hC⟩ := PV.read hpv
    refine ⟨[u], rfl, ⟨A', c', by rw [e], hc, hC⟩, fun i x hx => ?_⟩
    match i, hx with
    | 0, hx =>
      cases hx
      rw [Nat.add_zero, show j * (Kd.slice 3 (Kd.int .i64)).sz = j from Nat.mul_one j]
      exact ho.cells (g := g) rfl j u hu
theorem level_nil {w : World} {n : Nat} {pt : Int} (hn : 0 < n) (hn' : n ≤ 512) (h0 : 0 ≤ pt) (h1 : pt < n) :
    Calls Try.prog 86 #[.int .i64 (n : Int), .int .i64 pt, .slice none 0 0] w fun e w' => ∃ mb, e = .returned (.agg #[.int .i64 pt, .slice none 0 0, .slice (some ⟨mb, 0, none⟩) n n]) ∧ RLv w' (fun b => w.heap.size ≤ b ∧ b < w'.heap.size) n (.slice none 0 0) mb (levF n pt []) ∧ Below w.heap.size w w' := by
  have h := level_calls (w := w) (gens := []) (A := none) (c := 0) hn hn' h0 h1 (Kd.C_nil _ _) (fun g hg => by simp at hg) (by simp)
  refine h.mono ?_
  rintro e w' ⟨mb, PB, rfl, hm, hmb, hpb, hb⟩
  exact ⟨mb, rfl, ⟨⟨[], World.ownsRow_nil _ _ _ 1, fun j p hj => by simp [levF] at hj⟩, fun b hb => by simp [Value.ownBlock] at hb, hm.mono (fun b hb => hpb b hb), ⟨hmb, hm.lt⟩⟩, hb⟩
def widen (n : Nat) (p : List Int) (l : Lv) : Lv := levF n l.point (l.gens ++ [p])
def updF (n : Nat) (p : List Int) : Nat → Nat → List Lv → List Lv
  | 0, _, ls => ls
  | c + 1, a, ls => updF n p c (a + 1) (ls.modify a (widen n p))
theorem updF_skip {n : Nat} {p : List Int} : ∀ (c a : Nat) (l : Lv) (ls : List Lv), updF n p c (a + 1) (l :: ls) = l :: updF n p c a ls
  | 0, _, _, _ => rfl
  | c + 1, a, l, ls => by
    unfold updF
    rw [List.modify_succ_cons]
    exact updF_skip c (a + 1) l _
theorem updF_pre {n : Nat} {p : List Int} (c : Nat) : ∀ (pre suf : List Lv), updF n p c pre.length (pre ++ suf) = pre ++ updF n p c 0 suf
  | [], _ => rfl
  | x :: pre, suf => by
    rw [List.length_cons, List.cons_append, updF_skip, updF_pre c pre suf]
    rfl
theorem updF_cons {n : Nat} {p : List Int} (c : Nat) (l : Lv) (ls : List Lv) : updF n p (c + 1) 0 (l :: ls) = widen n p l :: updF n p c 0 ls := by
  have h : updF n p (c + 1) 0 (l :: ls) = updF n p c 1 (widen n p l :: ls) := by
    rw [updF, List.modify_zero_cons]
  rw [h]
  exact updF_skip c 0 (widen n p l) ls
theorem ext_upd {n : Nat} {p : List Int} : ∀ (k : Nat) (ls : List Lv), k ≤ ls.length → extF n ls k p = updF n p (k + 1) 0 (if k = ls.length then ls ++ [levF n (movedL p) []] else ls)
  | 0, [], _ => by
    rw [if_pos (show 0 = ([] : List Lv).length from rfl)]
    show [levF n (movedL p) [p]] = _
    rw [List.nil_append, updF_cons]
    rfl
  | 0, l :: ls, _ => by
    rw [if_neg (by simp), updF_cons]
    rfl
  | k + 1, [], h => by simp at h
  | k + 1, l :: ls, h => by
    have ih := ext_upd (n := n) (p := p) k ls (by simpa using h)
    show levF n l.point (l.gens ++ [p]) :: extF n ls k p = _
    rw [ih]
    by_cases e : k = ls.length
    · rw [if_pos e, if_pos (by simp [e]), List.cons_append, updF_cons]
      rfl
    · rw [if_neg e, if_neg (by simp [e]), updF_cons]
      rfl
theorem ext_whole {n : Nat} {p : List Int} {a k : Nat} {ls : List Lv} (ha : a + k ≤ ls.length) : ls.take a ++ extF n (ls.drop a) k p = updF n p (k + 1) a (if a + k = ls.length then ls ++ [levF n (movedL p) []] else ls) := by
  rw [ext_upd k _ (by rw [List.length_drop]; omega)]
  have hl : (ls.take a).length = a := by rw [List.length_take]; omega
  have h := updF_pre (n := n) (p := p) (k + 1) (ls.take a) (if k = (ls.drop a).length then ls.drop a ++ [levF n (movedL p) []] else ls.drop a)
  rw [hl] at h
  rw [← h]
  congr 1
  by_cases e : a + k = ls.length
  · rw [if_pos e, if_pos (by rw [List.length_drop]; omega), ← List.append_assoc, List.take_append_drop]
  · rw [if_neg e, if_neg (by rw [List.length_drop]; omega), List.take_append_drop]
end Go.Proofs.Ytpkgckccfanchaa.M

namespace Go.Proofs.Ytpkgckccfanchaa.M
open Go.RowKit Go.Proofs.YtpkgckccfanchaaW.PrintWords Go.Proofs.YtpkgckccfanchaaW.PrintLast Go.Proofs.YtpkgckccfanchaaW.PrintMore
open Sims
set_option linter.unusedVariables false
set_option linter.unusedSimpArgs false
def LvG (n m : Nat) (l : Lv) : Prop := (0 ≤ l.point ∧ l.point < n) ∧ (∀ g ∈ l.gens, IsP n g) ∧ l.gens.length ≤ m
theorem gens_pack {w : World} {B : Nat} {PB : Nat → Prop} {v : Value} {gens : List (List Int)} (h : GensAt w B PB v gens) : ∃ gs : List Value, gs.length = gens.length ∧ (∀ u ∈ gs, u.oneCell' = true) ∧ (∀ (j : Nat) p, gens[j]? = some p → ∃ u, gs[j]? = some u ∧ PV w PB u p) ∧ ((v = .slice none 0 0 ∧ gs = []) ∨ ∃ g c, v = .slice (some ⟨g, 0, none⟩) gens.length c ∧ ∀ j u, gs[j]? = some u → w.cell? ((⟨g, 0, none⟩ : Addr).add j) = some u) := by
  obtain ⟨gs, ho, hg⟩ := h
  have hl : gs.length = gens.length := by have := ho.1; omega
  refine ⟨gs, hl, fun u hu => ?_, hg, ?_⟩
  · obtain ⟨j, hj, e⟩ := List.getElem_of_mem hu
    obtain ⟨u', hu', hv⟩ := hg j (gens[j]'(by omega)) (List.getElem?_eq_getElem _)
    rw [List.getElem?_eq_getElem hj, e] at hu'
    cases hu'
    obtain ⟨A, c, rfl, -, -⟩ := PV.read hv
    rfl
  · rcases ho.2 with ⟨h1, h2⟩ | ⟨g, cap, cur, h1, h2, h3, h4⟩
    · exact .inl ⟨h1, List.length_eq_zero_iff.1 (by omega)⟩
    · exact .inr ⟨g, cap, h1, fun j u hu => by rw [h1] at ho; exact ho.cells (g := g) rfl j u hu⟩
theorem gens_more {w w2 : World} {B : Nat} {PB PB' : Nat → Prop} {v2 pv : Value} {gens : List (List Int)} {gs : List Value} {p : List Int} (hl : gs.length = gens.length) (hg : ∀ (j : Nat) p, gens[j]? = some p → ∃ u, gs[j]? = some u ∧ PV w PB u p) (ho : w2.ownsRow B 28 1 v2 (gens.length + 1) (gs ++ [pv])) (hb : Below w.heap.size w w2) (hp : ∀ b, PB b → PB' b) (hv : PV w2 PB' pv p) : GensAt w2 0 PB' v2 (gens ++ [p]) := by
  refine ⟨gs ++ [pv], by rw [List.length_append, List.length_singleton]; exact own_weaken ho (Nat.zero_le _), fun j q hj => ?_⟩
  rcases Nat.lt_or_ge j gens.length with hlt | hge
  · rw [List.getElem?_append_left hlt] at hj
    obtain ⟨u, hu, hv'⟩ := hg j q hj
    exact ⟨u, by rw [List.getElem?_append_left (by omega)]; exact hu, PV.mono (PV.below hv' hb) hp⟩
  · rw [List.getElem?_append_right hge] at hj
    have hj0 : j - gens.length = 0 := by
      have := (List.getElem?_eq_some_iff.1 hj).1
      simp at this
      omega
    rw [hj0] at hj
    have e : p = q := by simpa using hj
    subst e
    refine ⟨pv, ?_, hv⟩
    rw [List.getElem?_append_right (by omega), show j - gs.length = 0 from by omega]
    rfl
theorem modify_set {α : Type} {L : List α} {j : Nat} {l : α} (f : α → α) (h : L[j]? = some l) : L.modify j f = L.set j (f l) := by
  refine List.ext_getElem? (fun i => ?_)
  rw [List.getElem?_modify, List.getElem?_set]
  obtain ⟨hj, e⟩ := List.getElem?_eq_some_iff.1 h
  by_cases e2 : j = i
  · subst e2
    rw [if_pos rfl, h, if_pos hj]
    simp
  · rw [if_neg e2]
    simp [e2]
theorem level_len {w : World} {n m : Nat} {pt : Int} {A : Option Addr} {c : Nat} {gens : List (List Int)} (hm : gens.length = m) (hn : 0 < n) (hn' : n ≤ 512) (h0 : 0 ≤ pt) (h1 : pt < n) (hr : GC w A gens) (hg : ∀ g ∈ gens, IsP n g) (hlen : m ≤ 1000000) :
    Calls Try.prog 86 #[.int .i64 (n : Int), .int .i64 pt, .slice A m c] w fun e w' => ∃ mb PB, e = .returned (.agg #[.int .i64 pt, .slice A m c, .slice (some ⟨mb, 0, none⟩) n n]) ∧ MapsAt w' PB n mb (levF n pt gens).reps ∧ w.heap.size ≤ mb ∧ (∀ b, PB b → w.heap.size ≤ b ∧ b < w'.heap.size) ∧ Below w.heap.size w w' := by
  subst hm
  exact level_calls hn hn' h0 h1 hr hg hlen
set_option maxHeartbeats 8000000 in
set_option maxRecDepth 100000 in
theorem extend_calls {w : World} {B n : Nat} {v pv : Value} {okp : Nat → Prop} {ls : List Lv} {p : List Int} {a k : Nat} {i : Int} (hn : 0 < n) (hn' : n ≤ 512) (hC : RCh w B n v ls) (hB : B ≤ w.heap.size) (hG : ∀ l ∈ ls, LvG n 900000 l) (hi : i + 1 = (a : Int)) (hk : a + k ≤ ls.length) (hlen : ls.length ≤ 100000) (hv : PV w okp pv p) (hokp : ∀ b, okp b → v.ownBlock ≠ some b) (hp : IsP n p) (hm : ¬ movedL p < 0) :
    Calls Try.prog 89 #[.int .i64 (n : Int), v, .int .i64 i, .int .i64 ((a + k : Nat) : Int), pv] w fun e w' => ∃ v', e = .returned v' ∧ RCh w' B n v' (ls.take a ++ extF n (ls.drop a) k p) ∧ Chg (fun b => v.ownBlock = some b) w w' ∧ (v'.ownBlock = v.ownBlock ∨ ∃ b, v'.ownBlock = some b ∧ w.heap.size ≤ b) := by
  obtain ⟨m0, m1, -⟩ := moved_pos hp hm
  obtain ⟨A, c, rfl⟩ := hC.slice
  obtain ⟨at_, hat⟩ : ∃ t : Nat, a + k = t := ⟨_, rfl⟩
  obtain ⟨m, hml⟩ : ∃ m, ls.length = m := ⟨_, rfl⟩
  obtain ⟨L0, hL0⟩ : ∃ L0, (if a + k = ls.length then ls ++ [levF n (movedL p) []] else ls) = L0 := ⟨_, rfl⟩
  have hF : updF n p (at_ + 1 - a) a L0 = ls.take a ++ extF n (ls.drop a) k p := by
    rw [ext_whole hk, hL0, show at_ + 1 - a = k + 1 from by omega]
  rw [hat, hml] at hL0
  obtain ⟨F, hFF⟩ : ∃ F, ls.take a ++ extF n (ls.drop a) k p = F := ⟨_, rfl⟩
  rw [hFF] at hF ⊢
  rw [hat]
  have hatm : at_ ≤ m := by omega
  have hal : a ≤ at_ := by omega
  rw [hml] at hlen
  have HPV : Aside0 (PV w (fun b => b < w.heap.size ∧ (Value.slice A ls.length c).ownBlock ≠ some b) pv p) := ⟨PV.mono (Kd.V_bound hv) (fun b hb => ⟨hb.2, hokp b hb.1⟩)⟩
  have HC := Aside0.mk hC
  have HG := Aside0.mk hG
  have HN := Aside0.mk hn
  have HP := Aside0.mk hp
  have HML := Aside0.mk hml
  have HL0 := Aside0.mk hL0
  have HF := Aside0.mk hF
  have HB := Aside0.mk hB
  have HOW : Aside0 (∃ o, (Value.slice A ls.length c).ownBlock = o) := ⟨_, rfl⟩
  obtain ⟨o, ho⟩ := HOW.out
  rw [ho] at HPV ⊢
  have HO := Aside0.mk ho
  rw [hml]
  obtain ⟨Ap, cp, rfl, -, -⟩ := PV.read hv
  have hi2 : i = (a : Int) - 1 := by omega
  subst hi2
  clear hC hG hv hokp hp hm hn hml hL0 hF hB ho hat hk HOW hi hFF
  go_enter Try.func89, Try.ntmps89
  go_upto_if 16 with (fail)
  go_cut [1] (fun v1 wc => ∃ A1 c1, v1 = .slice A1 L0.length c1 ∧ Aside0 (RCh wc B n v1 L0) ∧ Aside0 (Chg (fun b => o = some b) w wc) ∧ Aside0 (v1.ownBlock = o ∨ ∃ b, v1.ownBlock = some b ∧ w.heap.size ≤ b))
  case first =>
    by_cases e : at_ = m
    · subst e
      have HL1 : Aside0 (ls ++ [levF n (movedL p) []] = L0) := ⟨by rw [← HL0.out, if_pos rfl]⟩
      go_wp2_with (first | (go_at_call 88; (with_reducible refine (rmoved_pv (by rw [HP.out.len]; exact hn') HPV.out).mono ?_); rintro e w1 ⟨rfl, hD⟩; have HD := Aside0.mk hD; clear hD) | (go_at_call 86; (with_reducible refine (level_nil HN.out hn' m0 m1).mono ?_); rintro e w2 ⟨mb, rfl, hR, hb⟩; have HR := Aside0.mk hR; have hbw : Below w.heap.size w w2 := below_then HD.out.below HD.out.below.size hb; have HBW := Aside0.mk hbw; obtain ⟨xs, hxo, hxs⟩ := HC.out.below hbw; have HXO := Aside0.mk hxo; have HXS := Aside0.mk hxs; have HLV : Aside0 (RLv w2 (fun b => b < w2.heap.size ∧ (Value.slice A ls.length c).ownBlock ≠ some b) n (.slice none 0 0) mb (levF n (movedL p) [])) := ⟨hR.step (fun _ _ _ => rfl) (fun b hb2 hlt => ⟨hlt, fun e2 => by have h5 := (HC.out.lt b e2).2; have h6 := HD.out.below.size; omega⟩)⟩; clear hR hb hbw hxo hxs) | (at_builtin; go_must (refine print_append_cells (w0 := w2) (W := w2) B rfl (.tmp 17) (.tmp 22) 84 96 (.agg #[.int .i64 0, .slice none 0 0, .slice none 0 0]) 3 56 rfl Try.underlying84 infoLvl rfl (by decide) (by decide) (.slice A at_ c) at_ xs [.int .i64 (movedL p), .slice none 0 0, .slice (some ⟨mb, 0, none⟩) n n] rfl rfl rfl ?a1 ?aO (Below.refl _ _) ?aB ?aL ?_); (case a1 => (intro u hu; simp at hu; rcases hu with rfl | rfl | rfl <;> rfl)); (case aO => (have h := HXO.out; rw [HML.out] at h; exact h)); (case aB => exact Nat.le_trans HB.out HBW.out.size); (case aL => omega); intro v1 w3 ho hb3 hg3 hat3; obtain ⟨A3, c3, rfl⟩ := own_slice ho; have HO3 := Aside0.mk ho; have HB3 := Aside0.mk hb3; have HG3 := Aside0.mk hg3; have HAT3 := Aside0.mk hat3; clear ho hb3 hg3 hat3))
      go_meet
      case rel =>
        have hol : (Value.slice A at_ c).ownBlock = o := by have h := HO.out; rwa [HML.out] at h
        have hlen2 : L0.length = at_ + 1 := by rw [← HL1.out, List.length_append, HML.out]; rfl
        refine ⟨A3, c3, by rw [hlen2], ⟨?_⟩, ⟨?_⟩, ⟨?_⟩⟩
        · rw [← HL1.out]
          refine RCh.push HXO.out HXS.out (by rw [HML.out]; exact HO3.out) (by rw [HML.out]; exact HG3.out) (by rw [HML.out]; exact HAT3.out) HLV.out
        · refine (Chg.of_below (S := fun b => o = some b) HBW.out).trans (Chg.of_grown HG3.out) (fun b hb => .inl ?_)
          rw [← hol]
          exact hb.symm
        · rw [← hol]
          rcases HAT3.out with h | ⟨b, h, hb⟩
          · exact .inl h
          · exact .inr ⟨b, h, Nat.le_trans HBW.out.size hb⟩
    · have HL1 : Aside0 (ls = L0) := ⟨by rw [← HL0.out, if_neg e]⟩
      have hne : ((at_ : Int) == (m : Int)) = false := beq_eq_false_iff_ne.2 (by omega)
      go_wp2_with (fail)
      go_meet
      case rel =>
        refine ⟨A, c, by rw [← HL1.out, HML.out], ⟨?_⟩, ⟨Chg.refl _ _⟩, ⟨.inl ?_⟩⟩
        · rw [← HL1.out]
          have h := HC.out
          rw [HML.out] at h
          exact h
        · have h := HO.out
          rwa [HML.out] at h
  case rest =>
    obtain ⟨A1, c1, rfl, HC1, HCH, HAT⟩ := hcut
    obtain ⟨M, hM⟩ : ∃ M, L0.length = M := ⟨_, rfl⟩
    have hML : at_ < M ∧ M ≤ m + 1 := by
      rw [← hM, ← HL0.out]
      split
      · rw [List.length_append, HML.out, List.length_singleton]; omega
      · rw [HML.out]; omega
    have hGL : Aside0 (∀ (t : Nat) l, a ≤ t → L0[t]? = some l → LvG n 900000 l) := ⟨fun t l _ hl => by
      have hm := List.mem_of_getElem? hl
      rw [← HL0.out] at hm
      split at hm
      · rcases List.mem_append.1 hm with hm | hm
        · exact HG.out l hm
        · rw [List.mem_singleton.1 hm]
          exact ⟨⟨m0, m1⟩, fun g hg => by simp [levF] at hg, by simp [levF]⟩
      · exact HG.out l hm⟩
    have HM := Aside0.mk hM
    have hc1 := HC1.out
    rw [hM] at hc1
    have HC2 : Aside0 (RCh wc B n (.slice A1 M c1) L0) := ⟨hc1⟩
    rw [hM]
    have hat1 : Aside0 ((Value.slice A1 M c1).ownBlock = o ∨ ∃ b, (Value.slice A1 M c1).ownBlock = some b ∧ w.heap.size ≤ b) := ⟨by have h := HAT.out; rwa [hM] at h⟩
    clear hc1 HC1 hM HAT HC HG HL0
    obtain ⟨i0, hi, hz0, hz1, hz2⟩ := info_parts infoSl
    have HI := Aside0.mk hi
    have HZ := Aside0.mk hz0
    have HZ1 := Aside0.mk hz1
    have HZ2 := Aside0.mk hz2
    clear hi hz0 hz1 hz2
    go_wp2_with (fail)
    go_loopw [11] (fun i wr => ∃ (j : Nat) (L : List Lv), i = .int .i64 j ∧ a ≤ j ∧ j ≤ at_ + 1 ∧ Aside0 (L.length = M) ∧ Aside0 (RCh wr B n (.slice A1 M c1) L) ∧ Aside0 (updF n p (at_ + 1 - j) j L = F) ∧ Aside0 (∀ (t : Nat) l, j ≤ t → L[t]? = some l → LvG n 900000 l) ∧ Aside0 (Chg (fun b => o = some b) w wr)) (fun i _ => at_ + 1 - (intOf i).toNat)
    case atStart => exact ⟨a, L0, by go_num, Nat.le_refl _, by omega, HM, HC2, HF, hGL, HCH⟩
    case round =>
      clear HM HC2 HF hGL HCH
      obtain ⟨j, L, rfl, haj, hj, HLL, HCR, HF, HGL, HCH⟩ := hrel
      by_cases hlt : j ≤ at_
      · have hlt2 : (j : Int) ≤ (at_ : Int) := by omega
        obtain ⟨l, hl⟩ : ∃ l, L[j]? = some l := ⟨L[j]'(by have := HLL.out; omega), List.getElem?_eq_getElem _⟩
        obtain ⟨g, cc, gv, mb, hge, hc0, hc1, hc2, hfz, hlv, hglt, hgB⟩ := HCR.out.get hl
        obtain ⟨rfl, rfl⟩ : A1 = some ⟨g, 0, none⟩ ∧ c1 = cc := by injection hge with a b c; exact ⟨a, c⟩
        obtain ⟨hpt, hgp, hgl⟩ := HGL.out j l (Nat.le_refl _) hl
        obtain ⟨gs, hgs1, hgs2, hgs3, hgv⟩ := gens_pack hlv.gens
        obtain ⟨mg, hmg⟩ : ∃ mg, l.gens.length = mg := ⟨_, rfl⟩
        have HL := Aside0.mk hl
        have HLV := Aside0.mk hlv
        have HPT := Aside0.mk hpt
        have HGP := Aside0.mk hgp
        have HGS1 := Aside0.mk hgs1
        have HGS2 := Aside0.mk hgs2
        have HGS3 := Aside0.mk hgs3
        have HMG := Aside0.mk hmg
        have hjM : (j : Int) < (M : Int) := by omega
        clear hl hlv hpt hgp hgs1 hgs2 hgs3 hge
        rw [hmg] at hgl
        obtain ⟨Agv, lgv, cgv, rfl⟩ : ∃ A n c, gv = .slice A n c := by
          rcases hgv with ⟨rfl, _⟩ | ⟨gg, gc, rfl, _⟩
          · exact ⟨_, _, _, rfl⟩
          · exact ⟨_, _, _, rfl⟩
        have HGV := Aside0.mk hgv
        clear hgv
        go_upto_region 6 with (fail)
        go_cut [12] (fun v12 wv => ∃ A2 c2, v12 = .slice A2 (mg + 1) c2 ∧ Aside0 (wv.ownsRow wr.heap.size 28 1 v12 (mg + 1) (gs ++ [.slice Ap p.length cp])) ∧ Aside0 (Below wr.heap.size wr wv))
        case first =>
          rcases HGV.out with ⟨hgv, hgs⟩ | ⟨gg, gc, hgv, hgc⟩
          · obtain ⟨rfl, rfl, rfl⟩ : Agv = none ∧ lgv = 0 ∧ cgv = 0 := by injection hgv with a b c; exact ⟨a, b, c⟩
            have hmg0 : mg = 0 := by have h1 := HGS1.out; have h2 := HMG.out; rw [hgs] at h1; simp at h1; rw [← h2, ← h1]
            subst hgs hmg0
            go_wp2_with (first | (at_builtin; refine wpList_append_own_none rfl (.const (.slice none 0 0)) (.tmp 35) 29 rfl wr.heap.size 28 i0 1 Try.underlying29 HI.out (.slice none 0 0) 0 [] rfl (World.ownsRow_nil _ _ _ 1) rfl ?_) | (at_builtin; go_must (refine print_append (w0 := wr) wr.heap.size rfl (.tmp 36) (.tmp 38) 29 28 (.slice none 0 0) 24 rfl Try.underlying29 infoSl rfl (by decide) (.slice none 0 0) [] (.slice Ap p.length cp) rfl rfl rfl (World.ownsRow_nil _ _ _ 1) (Below.refl _ _) (Nat.le_refl _) (by simp) ?_); intro v1 w3 ho hb3 hg3 hat3; obtain ⟨A3, c3, rfl⟩ := own_slice ho; have HO3 := Aside0.mk ho; have HB3 := Aside0.mk hb3; clear ho hb3 hg3 hat3))
            go_meet
            case rel => exact ⟨A3, c3, rfl, HO3, HB3⟩
          · obtain ⟨rfl, rfl, rfl⟩ : Agv = some ⟨gg, 0, none⟩ ∧ lgv = mg ∧ cgv = gc := by injection hgv with a b c; exact ⟨a, b.trans HMG.out, c⟩
            have HGC := Aside0.mk hgc
            have hgl2 : gs.length = lgv := by rw [HGS1.out, HMG.out]
            have HGL2 := Aside0.mk hgl2
            clear hgv hgc hgl2
            go_wp2_with (first | (at_builtin; refine wpList_append_own_at wr rfl (.const (.slice none 0 0)) (.tmp 35) 29 rfl wr.heap.size 28 i0 (.slice none 0 0) 1 24 Try.underlying29 HI.out HZ.out HZ1.out HZ2.out rfl (by decide) (.slice none 0 0) 0 [] rfl (World.ownsRow_nil _ _ _ 1) ⟨gg, 0, none⟩ lgv cgv gs rfl ?b1 ?b2 ?b3 ?b4 ?b5 (Nat.le_refl _) ?_; (case b1 => (rw [HGL2.out, Nat.mul_one])); (case b2 => exact HGC.out); (case b3 => exact HGS2.out); (case b4 => (unfold maxLen; omega)); (case b5 => omega); rintro v0 w2 ho0 hg0 - -; rw [Nat.zero_add, List.nil_append] at ho0; have HO0 := Aside0.mk ho0; have HB0 : Aside0 (Below wr.heap.size wr w2) := ⟨pw_below_grown (Below.refl _ _) _ (Nat.le_refl _) hg0 (fun k hk => by simp [Value.ownBlock] at hk)⟩; have hbs0 : wr.heap.size ≤ w2.heap.size := HB0.out.size; clear ho0 hg0) | (at_builtin; go_must (refine print_append (w0 := wr) wr.heap.size rfl (.tmp 36) (.tmp 38) 29 28 (.slice none 0 0) 24 rfl Try.underlying29 infoSl rfl (by decide) v0 gs (.slice Ap p.length cp) rfl rfl rfl ?aO HB0.out hbs0 ?aL ?_); (case aO => (rw [HGL2.out]; exact HO0.out)); (case aL => (rw [HGL2.out]; omega)); intro v1 w3 ho hb3 hg3 hat3; rw [List.length_append, HGL2.out] at ho; obtain ⟨A3, c3, rfl⟩ := own_slice ho; have HO3 := Aside0.mk ho; have HB3 := Aside0.mk hb3; clear ho hb3 hg3 hat3))
            go_meet
            case rel => exact ⟨A3, c3, rfl, HO3, HB3⟩
        case rest =>
          obtain ⟨A2, c2, rfl, HO2, HB2⟩ := hcut
          have hpv : PV wc (fun b => b < wc.heap.size ∧ b ≠ g) (.slice Ap p.length cp) p := PV.mono (PV.below (PV.chg HPV.out HCH.out (fun b hb => hb.2)) HB2.out) (fun b hb => ⟨Nat.lt_of_lt_of_le (Nat.lt_of_lt_of_le hb.1 HCH.out.size) HB2.out.size, fun e => by
            rcases hat1.out with h | ⟨b', h, hb'⟩
            · exact hb.2 (by rw [← h, e]; rfl)
            · have e2 : g = b' := Option.some.inj (show some g = some b' from h)
              omega⟩)
          have hgens : GensAt wc 0 (fun b => b < wc.heap.size ∧ b ≠ g) (.slice A2 (mg + 1) c2) (l.gens ++ [p]) := gens_more HGS1.out HGS3.out (by rw [HMG.out]; exact HO2.out) HB2.out (fun b hb => ⟨Nat.lt_of_lt_of_le hb.1 HB2.out.size, hb.2⟩) hpv
          obtain ⟨hgm, hgc, hgcc⟩ := gens_GC hgens
          have HGC := Aside0.mk hgc
          have HGENS := Aside0.mk hgens
          have hk0 := pw_cell_below HB2.out hc0
          have hk1 := pw_cell_below HB2.out hc1
          have hk2 := pw_cell_below HB2.out hc2
          have hfz2 : ∀ i, wc.frozen? ⟨g, i, none⟩ = false := fun i => (World.frozen?_of_block (a := ⟨g, i, none⟩) (HB2.out.block g hglt)).trans (hfz i)
          have HFZ2 := Aside0.mk hfz2
          have HGP2 : Aside0 (∀ q ∈ l.gens ++ [p], IsP n q) := ⟨fun q hq => by
            rcases List.mem_append.1 hq with h | h
            · exact HGP.out q h
            · rw [List.mem_singleton.1 h]; exact HP.out⟩
          have HGL3 : Aside0 ((l.gens ++ [p]).length = mg + 1) := ⟨by rw [List.length_append, HMG.out]; rfl⟩
          have HGLW := Aside0.mk hglt
          have HGLT : Aside0 (g < wc.heap.size) := ⟨Nat.lt_of_lt_of_le hglt HB2.out.size⟩
          obtain ⟨pt, hpt⟩ : ∃ pt, l.point = pt := ⟨_, rfl⟩
          rw [hpt] at hk0
          have HPE := Aside0.mk hpt
          clear hpv hgens hgm hgc hgcc hc0 hc1 hc2 hfz hfz2 hpt hglt
          go_wp2_with (go_at_call 86; (with_reducible refine (level_len HGL3.out HN.out hn' (by rw [← HPE.out]; exact HPT.out.1) (by rw [← HPE.out]; exact HPT.out.2) HGC.out HGP2.out (by omega)).mono ?_); rintro e w5 ⟨mb5, PB5, rfl, hm5, hmb5, hpb5, hb5⟩; have hx0 := pw_cell_below hb5 hk0; have hx1 := pw_cell_below hb5 hk1; have hx2 := pw_cell_below hb5 hk2; have hz0 : w5.frozen? ⟨g, j * 3, none⟩ = false := (World.frozen?_of_block (a := ⟨g, j * 3, none⟩) (hb5.block g HGLT.out)).trans (HFZ2.out _); have hz1 : w5.frozen? ⟨g, j * 3 + 1, none⟩ = false := (World.frozen?_of_block (a := ⟨g, j * 3 + 1, none⟩) (hb5.block g HGLT.out)).trans (HFZ2.out _); have hz2 : w5.frozen? ⟨g, j * 3 + 2, none⟩ = false := (World.frozen?_of_block (a := ⟨g, j * 3 + 2, none⟩) (hb5.block g HGLT.out)).trans (HFZ2.out _); have HM5 := Aside0.mk hm5; have HMB5 := Aside0.mk hmb5; have HPB5 := Aside0.mk hpb5; have HB5 := Aside0.mk hb5; clear hm5 hmb5 hpb5 hb5)
          go_roundw
          case rel =>
            have hb5 : Below wr.heap.size wr w5 := below_then HB2.out HB2.out.size HB5.out
            have hcr : RCh w5 B n (.slice (some ⟨g, 0, none⟩) L.length c1) L := by have h := HCR.out.below hb5; rw [HLL.out]; exact h
            have hm5 : MapsAt w5 PB5 n mb5 (widen n p l).reps := by have h := HM5.out; rw [← HPE.out] at h; exact h
            have hrl : RLv w5 (fun b => b < w5.heap.size ∧ b ≠ g) n (.slice A2 (mg + 1) c2) mb5 (widen n p l) := by
              refine ⟨(HGENS.out.keep (fun b hb => ?_) (fun b _ hlt => HB5.out.block b hlt)).mono (fun b hb => ⟨Nat.lt_of_lt_of_le hb.1 HB5.out.size, hb.2⟩), fun b hb => ?_, hm5.mono (fun b hb => ⟨(HPB5.out b hb).2, ?_⟩), ⟨HM5.out.lt, ?_⟩⟩
              · exact HB5.out.block b (HO2.out.lt b hb).2
              · have h := HO2.out.lt b hb
                have h2 := HGLW.out
                exact ⟨Nat.lt_of_lt_of_le h.2 HB5.out.size, by omega⟩
              · have h := (HPB5.out b hb).1
                have h2 := HGLT.out
                omega
              · have h := HMB5.out
                have h2 := HGLT.out
                omega
            have hput := RCh.put hcr HL.out hrl
            have hms := modify_set (widen n p) HL.out
            have hgo : o = some g ∨ w.heap.size ≤ g := by
              rcases hat1.out with h | ⟨b', h, hb'⟩
              · exact .inl (by rw [← h]; rfl)
              · have e2 : g = b' := Option.some.inj (show some g = some b' from h)
                exact .inr (by omega)
            refine ⟨j + 1, L.set j (widen n p l), by go_num, by omega, by omega, ⟨by rw [List.length_set]; exact HLL.out⟩, ⟨?_⟩, ⟨?_⟩, ⟨?_⟩, ⟨?_⟩⟩
            · have e : (widen n p l).point = pt := HPE.out
              rw [e, HLL.out] at hput
              exact hput
            · rw [← hms]
              have h := HF.out
              rw [show at_ + 1 - j = (at_ + 1 - (j + 1)) + 1 from by omega, updF] at h
              exact h
            · intro t l' ht hl'
              rw [List.getElem?_set_ne (by omega)] at hl'
              exact HGL.out t l' (by omega) hl'
            · have h1 : Chg (fun b => o = some b) w w5 := HCH.out.trans (Chg.of_below (S := fun _ => False) hb5) (fun _ h => h.elim)
              have h2 : ∀ {W : World} (i : Nat) (u : Value), Chg (fun b => o = some b) w W → Chg (fun b => o = some b) w (W.setCell ⟨g, i, none⟩ u) := fun i u h => h.trans (Chg.cell _ _ _) (fun b hb => by
                have e : b = g := hb
                rw [e]
                exact hgo)
              exact h2 _ _ (h2 _ _ (h2 _ _ h1))
          case measure => simp [intOf]; omega
      · obtain rfl : j = at_ + 1 := by omega
        have HE : Aside0 (L = F) := ⟨by
          have h := HF.out
          rw [Nat.sub_self, updF] at h
          exact h⟩
        have HCR2 : Aside0 (RCh wr B n (.slice A1 M c1) F) := ⟨by rw [← HE.out]; exact HCR.out⟩
        clear HF HCR HGL hlt hj
        go_wp2_with (fail)
        go_ret
        exact ⟨_, rfl, HCR2.out, HCH.out, hat1.out⟩
end Go.Proofs.Ytpkgckccfanchaa.M

namespace Go.Proofs.Ytpkgckccfanchaa.M
open Go.RowKit Go.Proofs.YtpkgckccfanchaaW.PrintWords Go.Proofs.YtpkgckccfanchaaW.PrintLast Go.Proofs.YtpkgckccfanchaaW.PrintMore
open Sims
set_option linter.unusedVariables false
set_option linter.unusedSimpArgs false
structure WCh (n : Nat) (ls : List Lv) : Prop where
  wc : WC n [] ls
  bd : GBd ls (phi ls)
theorem WCh.len {n : Nat} {ls : List Lv} (h : WCh n ls) : ls.length ≤ n := by
  have := h.wc.length List.nodup_nil (fun x hx => by simp at hx)
  simpa using this
theorem WCh.phi_le {n : Nat} {ls : List Lv} (h : WCh n ls) : phi ls ≤ n * n := Nat.le_trans h.wc.phi (Nat.mul_le_mul_left n h.len)
theorem WCh.gl {n : Nat} {ls : List Lv} (h : WCh n ls) (hn : n ≤ 512) : ∀ l ∈ ls, LvG n 900000 l := fun l hl => by
  have h1 := h.wc.ok l hl
  have h2 := h.bd l hl
  have h3 := h.phi_le
  have h4 : n * n ≤ 512 * 512 := Nat.mul_le_mul hn hn
  exact ⟨h1.pt, h1.gens, by omega⟩
variable {w : World} {B n : Nat} {v pv : Value} {okp : Nat → Prop} {ls : List Lv} {p : List Int}
theorem sift_zero (hn : 0 < n) (hn' : n ≤ 512) (hC : RCh w B n v ls) (hW : WCh n ls) (hv : PV w okp pv p) (hp : IsP n p) {t : Nat} (ht : (siftF ls p).2 = t) :
    Calls Try.prog 87 #[v, .int .i64 0, pv] w fun e w' => ∃ u, e = .returned (.tuple #[u, .int .i64 (t : Int)]) ∧ PV w' (fun b => okp b ∨ w.heap.size ≤ b) u (siftF ls p).1 ∧ Below w.heap.size w w' := by
  have h := sift_calls (k := 0) hn hn' hC hW.wc.ok (Nat.zero_le _) (by have := hW.len; omega) hv hp
  rw [List.drop_zero, Nat.zero_add, ht] at h
  exact h
theorem ext_zero (hn : 0 < n) (hn' : n ≤ 512) (hC : RCh w B n v ls) (hB : B ≤ w.heap.size) (hW : WCh n ls) (hv : PV w okp pv p) (hokp : ∀ b, okp b → v.ownBlock ≠ some b) (hp : IsP n p) (hm : ¬ movedL p < 0) {t : Nat} (ht : t ≤ ls.length) :
    Calls Try.prog 89 #[.int .i64 (n : Int), v, .int .i64 (-1), .int .i64 (t : Int), pv] w fun e w' => ∃ v', e = .returned v' ∧ RCh w' B n v' (extF n ls t p) ∧ Below B w w' := by
  have h := extend_calls (a := 0) (k := t) (i := -1) hn hn' hC hB (hW.gl hn') (by decide) (by omega) (by have := hW.len; omega) hv hokp hp hm
  rw [Nat.zero_add, List.take_zero, List.drop_zero, List.nil_append] at h
  exact h.mono (fun e w' ⟨v', h1, h2, h3, h4⟩ => ⟨v', h1, h2, h3.below hB (fun b hb => (hC.lt b hb).1)⟩)
theorem ext_at {k t : Nat} (hn : 0 < n) (hn' : n ≤ 512) (hC : RCh w B n v ls) (hB : B ≤ w.heap.size) (hW : WCh n ls) (hv : PV w okp pv p) (hokp : ∀ b, okp b → v.ownBlock ≠ some b) (hp : IsP n p) (hm : ¬ movedL p < 0) {q : Nat} (ht : k + 1 + q = t) (hk : t ≤ ls.length) :
    Calls Try.prog 89 #[.int .i64 (n : Int), v, .int .i64 (k : Int), .int .i64 (t : Int), pv] w fun e w' => ∃ v', e = .returned v' ∧ RCh w' B n v' (ls.take (k + 1) ++ extF n (ls.drop (k + 1)) q p) ∧ Below B w w' := by
  have h := extend_calls (a := k + 1) (k := q) (i := (k : Int)) hn hn' hC hB (hW.gl hn') (by omega) (by omega) (by have := hW.len; omega) hv hokp hp hm
  rw [ht] at h
  exact h.mono (fun e w' ⟨v', h1, h2, h3, h4⟩ => ⟨v', h1, h2, h3.below hB (fun b hb => (hC.lt b hb).1)⟩)
theorem sch_none {k : Nat} {l : Lv} (hn : 0 < n) (hn' : n ≤ 512) (hC : RCh w B n v ls) (hl : ls[k]? = some l) (hW : WCh n ls) (hS : schrF n l (ls.drop (k + 1)) = none) :
    Calls Try.prog 90 #[v, .int .i64 (k : Int)] w fun e w' => e = .returned (.tuple #[.slice none 0 0, .int .i64 0]) ∧ Below w.heap.size w w' := by
  obtain ⟨hk, e⟩ := List.getElem?_eq_some_iff.1 hl
  have hd := hW.wc.drop k
  rw [List.drop_eq_getElem_cons hk, e] at hd
  have hg := (hW.gl hn' l (List.mem_of_getElem? hl)).2.2
  refine (schreier_calls hn hn' hC hl hW.wc.ok hd.1 (by have := hW.len; omega) (by omega)).mono ?_
  rintro e w' ⟨hb, ⟨_, rfl⟩ | ⟨q, u, hq, _⟩⟩
  · exact ⟨rfl, hb⟩
  · rw [hS] at hq; cases hq
theorem sch_some {k t : Nat} {l : Lv} {q : List Int × Nat} (hn : 0 < n) (hn' : n ≤ 512) (hC : RCh w B n v ls) (hl : ls[k]? = some l) (hW : WCh n ls) (hS : schrF n l (ls.drop (k + 1)) = some q) (ht : k + 1 + q.2 = t) (hq : IsP n q.1) :
    Calls Try.prog 90 #[v, .int .i64 (k : Int)] w fun e w' => ∃ ad c, e = .returned (.tuple #[.slice (some ad) q.1.length c, .int .i64 (t : Int)]) ∧ PV w' (fun b => w.heap.size ≤ b) (.slice (some ad) q.1.length c) q.1 ∧ Below w.heap.size w w' := by
  obtain ⟨hk, e⟩ := List.getElem?_eq_some_iff.1 hl
  have hd := hW.wc.drop k
  rw [List.drop_eq_getElem_cons hk, e] at hd
  have hg := (hW.gl hn' l (List.mem_of_getElem? hl)).2.2
  refine (schreier_calls hn hn' hC hl hW.wc.ok hd.1 (by have := hW.len; omega) (by omega)).mono ?_
  rintro e w' ⟨hb, ⟨h, rfl⟩ | ⟨q', u, hq', rfl, hu⟩⟩
  · rw [hS] at h; cases h
  · rw [hS] at hq'
    cases hq'
    obtain ⟨A, c, rfl, -, hC⟩ := PV.read hu
    obtain ⟨ad, rfl⟩ := PV.addr hC (by rw [hq.len]; exact hn)
    exact ⟨ad, c, by rw [ht], hu, hb⟩
theorem pv_arg {w0 w1 : World} {A : Option Addr} {c : Nat} (h : Kd.C (Kd.int .i64) w0 A p.length p) (hc : p.length ≤ c) (hb : Below w0.heap.size w0 w1) : PV w1 (fun b => b < w0.heap.size) (.slice A p.length c) p := PV.mono (PV.below (Kd.V_bound (pv_of_C h hc)) hb) (fun b hb => hb.2)
end Go.Proofs.Ytpkgckccfanchaa.M

namespace Go.Proofs.Ytpkgckccfanchaa.M
open Go.RowKit Go.Proofs.YtpkgckccfanchaaW.PrintWords Go.Proofs.YtpkgckccfanchaaW.PrintLast Go.Proofs.YtpkgckccfanchaaW.PrintMore
open Sims
set_option linter.unusedVariables false
set_option linter.unusedSimpArgs false
def lev0 (n : Nat) (base : List Int) : List Lv := base.map (fun x => levF n x [])
theorem lev0_take {n : Nat} {base : List Int} {j : Nat} (h : j < base.length) : lev0 n (base.take (j + 1)) = lev0 n (base.take j) ++ [levF n (rdl base (j : Int)) []] := by
  unfold lev0
  rw [List.take_succ_eq_append_getElem h, List.map_append, rdl_eq (by omega) (by omega)]
  simp
set_option maxHeartbeats 8000000 in
set_option maxRecDepth 100000 in
theorem chain_calls {w : World} {n f : Nat} {A1 A2 : Option Addr} {c1 c2 : Nat} {gens : List (List Int)} {base : List Int} {R : List Lv} (hn : 0 < n) (hn' : n ≤ 512) (hr : GC w A1 gens) (hg : ∀ g ∈ gens, IsP n g) (hgl : gens.length ≤ 1000000) (hbr : Kd.C (Kd.int .i64) w A2 base.length base) (hb : ∀ x ∈ base, 0 ≤ x ∧ x < n) (hnd : base.Nodup) (hF : chainF n f gens base = some R) :
    Calls Try.prog 54 #[.int .i64 (n : Int), .slice A1 gens.length c1, .slice A2 base.length c2] w fun e w' => ∃ v, e = .returned v ∧ RCh w' w.heap.size n v R ∧ Below w.heap.size w w' := by
  have hbl := pts_le hnd hb
  obtain ⟨mb, hmb⟩ : ∃ m, base.length = m := ⟨_, rfl⟩
  obtain ⟨mg, hmg⟩ : ∃ m, gens.length = m := ⟨_, rfl⟩
  have HR := Aside0.mk hr
  have HG := Aside0.mk hg
  have HBR := Aside0.mk hbr
  have HBB := Aside0.mk hb
  have HND := Aside0.mk hnd
  have HF := Aside0.mk hF
  have HN := Aside0.mk hn
  have HMB := Aside0.mk hmb
  have HMG := Aside0.mk hmg
  rw [hmb] at hbl ⊢
  rw [hmg] at hgl ⊢
  clear hr hg hbr hb hnd hF hn hmb hmg
  go_enter Try.func54, Try.ntmps54
  go_wp2_with (fail)
  go_loopw [7, 19] (fun v i wr => ∃ j : Nat, i = .int .i64 j ∧ j ≤ mb ∧ Aside0 (RCh wr w.heap.size n v (lev0 n (base.take j))) ∧ Aside0 (Below w.heap.size w wr)) (fun _ i _ => mb - (intOf i).toNat)
  case atStart => exact ⟨0, rfl, by omega, ⟨RCh.nil _ _ _⟩, ⟨Below.refl _ _⟩⟩
  case round =>
    obtain ⟨j, rfl, hj, HC, HB⟩ := hrel
    by_cases hlt : j < mb
    · have hlt2 : (j : Int) < (mb : Int) := by omega
      have hjb : j < base.length := by have := HMB.out; omega
      obtain ⟨A, c, rfl⟩ := HC.out.slice
      have hll : (lev0 n (base.take j)).length = j := by unfold lev0; rw [List.length_map, List.length_take]; omega
      have HLL := Aside0.mk hll
      rw [hll]
      have hmem := HBB.out _ (rdl_mem (p := base) (x := (j : Int)) (by omega) (by omega))
      obtain ⟨ad2, rfl⟩ := PV.addr HBR.out (by omega)
      have hcx := pw_cell_below HB.out (PV.at_ HBR.out (x := (j : Int)) (by omega) (by omega))
      rw [Int.toNat_natCast] at hcx
      have HNX := Aside0.mk (lev0_take (n := n) hjb)
      obtain ⟨x, hx⟩ : ∃ x, rdl base (j : Int) = x := ⟨_, rfl⟩
      rw [hx] at hmem hcx HNX
      obtain ⟨hx0, hx1⟩ := hmem
      clear hll hjb hx
      go_wp2_with (first | (go_at_call 86; (with_reducible refine (level_nil HN.out hn' hx0 hx1).mono ?_); rintro e w2 ⟨mb2, rfl, hR, hb⟩; have HR2 := Aside0.mk hR; have HBW := Aside0.mk hb; obtain ⟨xs, hxo, hxs⟩ := HC.out.below hb; have HXO := Aside0.mk hxo; have HXS := Aside0.mk hxs; have HLV : Aside0 (RLv w2 (fun b => b < w2.heap.size ∧ (Value.slice A (lev0 n (base.take j)).length c).ownBlock ≠ some b) n (.slice none 0 0) mb2 (levF n x [])) := ⟨hR.step (fun _ _ _ => rfl) (fun b hb2 hlt => ⟨hlt, fun e2 => by have h5 := (HC.out.lt b e2).2; omega⟩)⟩; clear hR hb hxo hxs) | (at_builtin; go_must (refine print_append_cells (w0 := w2) (W := w2) w.heap.size rfl (.tmp 23) (.tmp 27) 84 96 (.agg #[.int .i64 0, .slice none 0 0, .slice none 0 0]) 3 56 rfl Try.underlying84 infoLvl rfl (by decide) (by decide) (.slice A j c) j xs [.int .i64 x, .slice none 0 0, .slice (some ⟨mb2, 0, none⟩) n n] rfl rfl rfl ?a1 ?aO (Below.refl _ _) ?aB ?aL ?_); (case a1 => (intro u hu; simp at hu; rcases hu with rfl | rfl | rfl <;> rfl)); (case aO => (have h := HXO.out; rw [HLL.out] at h; exact h)); (case aB => exact Nat.le_trans HB.out.size HBW.out.size); (case aL => omega); intro v1 w3 ho hb3 hg3 hat3; have HO3 := Aside0.mk ho; have HB3 := Aside0.mk hb3; have HG3 := Aside0.mk hg3; have HAT3 := Aside0.mk hat3; clear ho hb3 hg3 hat3))
      go_roundw
      case rel =>
        refine ⟨j + 1, by go_num, by omega, ⟨?_⟩, ⟨(below_then HB.out HB.out.size HBW.out).trans HB3.out⟩⟩
        rw [HNX.out]
        exact RCh.push HXO.out HXS.out (by rw [HLL.out]; exact HO3.out) (by rw [HLL.out]; exact HG3.out) (by rw [HLL.out]; exact HAT3.out) HLV.out
      case measure => simp [intOf]; omega
    · obtain rfl : j = mb := by omega
      obtain ⟨A, c, rfl⟩ := HC.out.slice
      have HC2 : Aside0 (RCh wr w.heap.size n (.slice A (lev0 n (base.take j)).length c) (lev0 n base)) := ⟨by have h := HC.out; rw [List.take_of_length_le (by have := HMB.out; omega)] at h ⊢; exact h⟩
      obtain ⟨q0, hq0⟩ : ∃ q, (lev0 n (base.take j)).length = q := ⟨_, rfl⟩
      rw [hq0] at HC2 ⊢
      have HW0 : Aside0 (WCh n (lev0 n base)) := ⟨(WC.base base [] HBB.out HND.out (fun x _ h => by simp at h)).1, fun l hl => by
        obtain ⟨x, _, rfl⟩ := List.mem_map.1 hl
        simp [levF]⟩
      obtain ⟨FR, hFR⟩ : ∃ FR, foldR n gens base = FR := ⟨_, rfl⟩
      have HL : Aside0 (loopF n f FR FR.length = some R) := ⟨by rw [← hFR]; exact HF.out⟩
      have HFR : Aside0 ((gens.drop 0).foldl (insR n) (lev0 n base) = FR) := ⟨hFR⟩
      clear hFR HF hq0 HC hlt hj HBB HND HBR
      go_wp2_with (fail)
      go_loopw [7, 32] (fun v i wr => ∃ (b : Nat) (L : List Lv), i = .int .i64 b ∧ b ≤ mg ∧ Aside0 (RCh wr w.heap.size n v L) ∧ Aside0 (WCh n L) ∧ Aside0 ((gens.drop b).foldl (insR n) L = FR) ∧ Aside0 (Below w.heap.size w wr)) (fun _ i _ => mg - (intOf i).toNat)
      case atStart => exact ⟨0, _, rfl, by omega, HC2, HW0, HFR, HB⟩
      case round =>
        clear HC2 HW0 HFR HB
        obtain ⟨b, L, rfl, hb, HC, HW, HFR, HB⟩ := hrel
        obtain ⟨A, c, rfl⟩ := HC.out.slice
        obtain ⟨len, hle⟩ : ∃ q, L.length = q := ⟨_, rfl⟩
        have HLE := Aside0.mk hle
        rw [hle]
        have hc := HC.out
        rw [hle] at hc
        have HC1 := Aside0.mk hc
        clear hc HC hle
        by_cases hlt : b < mg
        · obtain ⟨p, hp⟩ : ∃ p, gens[b]? = some p := ⟨gens[b]'(by have := HMG.out; omega), List.getElem?_eq_getElem _⟩
          obtain ⟨adg, Ap, cp, rfl, hcp, hcpc, hCp⟩ := gc_at HR.out hp
          have hpp := HG.out p (List.mem_of_getElem? hp)
          have hcg := pw_cell_below HB.out hcp
          have hb2 : (b : Int) < (mg : Int) := by omega
          have HPV := Aside0.mk (pv_arg hCp hcpc HB.out)
          have hso := sift_ok HW.out.wc (fun x hx => by simp at hx) hpp (fun x hx => by simp at hx)
          have HPP := Aside0.mk hpp
          have hdrop : gens.drop b = p :: gens.drop (b + 1) := by
            obtain ⟨h1, h2⟩ := List.getElem?_eq_some_iff.1 hp
            rw [List.drop_eq_getElem_cons h1, h2]
          have hfr : (gens.drop (b + 1)).foldl (insR n) (insR n L p) = FR := by rw [← HFR.out, hdrop]; rfl
          obtain ⟨t, ht⟩ : ∃ t, (siftF L p).2 = t := ⟨_, rfl⟩
          obtain ⟨r, hr⟩ : ∃ r, (siftF L p).1 = r := ⟨_, rfl⟩
          have hins : insR n L p = if movedL r < 0 then L else extF n L t r := by unfold insR; rw [ht, hr]
          rw [hr] at hso
          have hrp := hso.isP
          have htl : t ≤ len := by rw [← ht, ← HLE.out]; exact siftF_le L p
          have HWI : Aside0 (WCh n (insR n L p)) := ⟨(insR_ok HW.out.wc hpp).1, (insR_ok HW.out.wc hpp).2.2.2 HW.out.bd⟩
          have HTL : Aside0 (t ≤ L.length) := ⟨by rw [HLE.out]; exact htl⟩
          have HT := Aside0.mk ht
          have HRE := Aside0.mk hr
          have HRP := Aside0.mk hrp
          have HINS := Aside0.mk hins
          have HFR2 := Aside0.mk hfr
          clear hso hpp hcp hCp hp hdrop hfr ht hr hrp hins HFR
          by_cases hm : movedL r < 0
          · have hm2 : ¬ (0 ≤ movedL r) := by omega
            have HI2 : Aside0 (insR n L p = L) := ⟨by rw [HINS.out, if_pos hm]⟩
            clear HINS
            go_wp2_with (first | (go_at_call 87; (with_reducible refine (sift_zero HN.out hn' HC1.out HW.out HPV.out HPP.out HT.out).mono ?_); rintro e w2 ⟨u2, rfl, hU, hb2'⟩; rw [HRE.out] at hU; have HU := Aside0.mk hU; have HB2 := Aside0.mk hb2'; clear hU hb2') | (go_at_call 88; (with_reducible refine (rmoved_pv (by rw [HRP.out.len]; exact hn') HU.out).mono ?_); rintro e w3 ⟨rfl, hD⟩; have HD := Aside0.mk hD; clear hD))
            go_roundw
            case rel =>
              have hbb : Below wr.heap.size wr w3 := below_then HB2.out HB2.out.size HD.out.below
              refine ⟨b + 1, L, by go_num, by omega, ⟨HC1.out.below hbb⟩, HW, ⟨?_⟩, ⟨below_then HB.out HB.out.size hbb⟩⟩
              rw [← HFR2.out, HI2.out]
            case measure => simp [intOf]; omega
          · have hm2 : 0 ≤ movedL r := by omega
            have HI2 : Aside0 (insR n L p = extF n L t r) := ⟨by rw [HINS.out, if_neg hm]⟩
            clear hm
            clear HINS
            go_upto_region 12 with (first | (go_at_call 87; (with_reducible refine (sift_zero HN.out hn' HC1.out HW.out HPV.out HPP.out HT.out).mono ?_); rintro e w2 ⟨u2, rfl, hU, hb2'⟩; rw [HRE.out] at hU; have HU := Aside0.mk hU; have HB2 := Aside0.mk hb2'; clear hU hb2') | (go_at_call 88; (with_reducible refine (rmoved_pv (by rw [HRP.out.len]; exact hn') HU.out).mono ?_); rintro e w3 ⟨rfl, hD⟩; have HD := Aside0.mk hD; clear hD))
            have hE := ext_zero (t := t) HN.out hn' (HC1.out.below (below_then HB2.out HB2.out.size HD.out.below)) (Nat.le_trans HB.out.size (Nat.le_trans HB2.out.size HD.out.below.size)) HW.out (PV.below HU.out HD.out.below) (fun b hb e => hb.elim (fun h => absurd (HC1.out.lt b e).1 (Nat.not_le.2 h)) (fun h => absurd (HC1.out.lt b e).2 (Nat.not_lt.2 h))) HRP.out (Int.not_lt.2 hm2) HTL.out
            have HE := Aside0.mk hE
            clear hE
            go_wp2_with (first | (go_at_call 89; go_must (with_reducible refine HE.out.mono ?_); rintro e w4 ⟨v4, rfl, hC4, hb4⟩; have HC4 := Aside0.mk hC4; have HB4 := Aside0.mk hb4; clear hC4 hb4))
            go_roundw
            case rel =>
              have hbb : Below wr.heap.size wr w3 := below_then HB2.out HB2.out.size HD.out.below
              refine ⟨b + 1, insR n L p, by go_num, by omega, ⟨by rw [HI2.out]; exact HC4.out⟩, HWI, HFR2, ⟨(below_then HB.out HB.out.size hbb).trans HB4.out⟩⟩
            case measure => simp [intOf]; omega
        · obtain rfl : b = mg := by omega
          have HE : Aside0 (L = FR) := ⟨by rw [← HFR.out, List.drop_of_length_le (by have := HMG.out; omega)]; rfl⟩
          have HL2 : Aside0 (loopF n f L len = some R) := ⟨by have h := HL.out; rw [← HE.out, HLE.out] at h; exact h⟩
          have hln : len ≤ n := by rw [← HLE.out]; exact HW.out.len
          have HC3 : Aside0 (RCh wr w.heap.size n (.slice A len c) L) := HC1
          have HKL : Aside0 (len ≤ L.length) := ⟨by rw [HLE.out]; exact Nat.le_refl _⟩
          clear HL HE HFR HC1 hlt hb HR HG HMG HLE
          go_wp2_with (fail)
          go_loopg [7, 14] f (fun g v i wr => ∃ (k : Nat) (L : List Lv), i = .int .i64 ((k : Int) - 1) ∧ k ≤ n ∧ Aside0 (loopF n g L k = some R) ∧ Aside0 (k ≤ L.length) ∧ Aside0 (RCh wr w.heap.size n v L) ∧ Aside0 (WCh n L) ∧ Aside0 (Below w.heap.size w wr))
          case atStart => exact ⟨len, L, rfl, hln, HL2, HKL, HC3, HW, HB⟩
          case round =>
            clear HL2 HKL HC3 HW HB
            obtain ⟨k, L, rfl, hkn, HL, HKL, HC, HW, HB⟩ := hrel
            obtain ⟨g0, rfl⟩ : ∃ g0 : Nat, g0 = gk := ⟨_, rfl⟩
            obtain ⟨wo, rfl⟩ : ∃ wo : World, wo = wr := ⟨_, rfl⟩
            obtain ⟨A, c, rfl⟩ := HC.out.slice
            cases k with
            | zero =>
              have HR2 : Aside0 (L = R) := ⟨by
                have h := HL.out
                cases g0 with
                | zero => rw [loopF] at h; cases h
                | succ g0 => rw [loopF] at h; exact Option.some.inj h⟩
              have hr2 := HR2.out
              go_wp2_with (fail)
              go_ret
              exact ⟨_, rfl, by rw [← hr2]; exact HC.out, HB.out⟩
            | succ k =>
              have e1 : ((k + 1 : Nat) : Int) - 1 = (k : Int) := by omega
              rw [e1]
              have HKL2 : Aside0 (k < L.length) := ⟨HKL.out⟩
              clear HKL e1
              go_wp2_with (fail)
              go_loopg [7, 14] g0 (fun g v i wr => ∃ (k : Nat) (L : List Lv), i = .int .i64 (k : Int) ∧ k < n ∧ g ≤ g0 ∧ Aside0 (loopF n g L (k + 1) = some R) ∧ Aside0 (k < L.length) ∧ Aside0 (RCh wr w.heap.size n v L) ∧ Aside0 (WCh n L) ∧ Aside0 (Below w.heap.size w wr))
              case atStart => exact ⟨k, L, rfl, by omega, Nat.le_refl _, HL, HKL2, HC, HW, HB⟩
              case round =>
                clear HL HKL2 HC HW HB
                obtain ⟨k, L, rfl, hkn, hgk, HL, HKL, HC, HW, HB⟩ := hrel
                obtain ⟨A, c, rfl⟩ := HC.out.slice
                obtain ⟨len, hle⟩ : ∃ q, L.length = q := ⟨_, rfl⟩
                have HLE := Aside0.mk hle
                rw [hle]
                have hc := HC.out
                rw [hle] at hc
                have HC1 := Aside0.mk hc
                clear hc HC hle
                obtain ⟨g', rfl⟩ : ∃ g', gk = g' + 1 := by
                  cases gk with
                  | zero => have h := HL.out; rw [loopF] at h; cases h
                  | succ g' => exact ⟨g', rfl⟩
                have hl : L[k]? = some (L[k]'HKL.out) := List.getElem?_eq_getElem _
                obtain ⟨l, hle2⟩ : ∃ l, L[k]'HKL.out = l := ⟨_, rfl⟩
                rw [hle2] at hl
                have HLL := Aside0.mk hl
                have hlo := HL.out
                rw [loopF, hl] at hlo
                simp only at hlo
                cases hS : schrF n l (L.drop (k + 1)) with
                | none =>
                  rw [hS] at hlo
                  have HLO : Aside0 (loopF n g' L k = some R) := ⟨hlo⟩
                  have HSS := Aside0.mk hS
                  have heq : ∀ W : World, (binOp BinOp.eql 28 (.slice none 0 0) (.slice none 0 0)).run Try.prog W = .ok (.bool true) W := fun W => by kernel_rfl
                  clear hlo hS hl hle2 HL
                  go_wp2_with (go_at_call 90; (with_reducible refine (sch_none HN.out hn' HC1.out HLL.out HW.out HSS.out).mono ?_); rintro e w2 ⟨rfl, hb2⟩; have HB2 := Aside0.mk hb2; clear hb2)
                  go_roundg g'
                  case measure => omega
                  case rel => exact ⟨k, L, by go_num, by omega, HLO, ⟨by have := HKL.out; omega⟩, ⟨by have h := HC1.out.below HB2.out; exact h⟩, HW, ⟨below_then HB.out HB.out.size HB2.out⟩⟩
                | some q =>
                  rw [hS] at hlo
                  obtain ⟨t1, t2, t3, t4, t5, t6, t7, t8, t9⟩ := turn_ok HW.out.wc hl hS
                  obtain ⟨t, ht⟩ : ∃ t, k + 1 + q.2 = t := ⟨_, rfl⟩
                  obtain ⟨L2, hL2⟩ : ∃ L2, L.take (k + 1) ++ extF n (L.drop (k + 1)) q.2 q.1 = L2 := ⟨_, rfl⟩
                  simp only [hL2] at hlo t1 t2 t3 t6
                  rw [ht] at hlo t6
                  have HLO : Aside0 (loopF n g' L2 (t + 1) = some R) := ⟨hlo⟩
                  have HW2 : Aside0 (WCh n L2) := ⟨t1, fun l' hl' => Nat.le_trans (t3 _ HW.out.bd l' hl') (by omega)⟩
                  have HK2 : Aside0 (t < L2.length) := ⟨by omega⟩
                  have htn : t < n := by have := HW2.out.len; omega
                  have htl : t ≤ L.length := by rw [List.length_drop] at t9; have := HKL.out; omega
                  obtain ⟨x, hx, s, hs, hqe, hqm⟩ := schrF_some hS
                  have HQM := Aside0.mk hqm
                  have HQP := Aside0.mk t8
                  have HTL := Aside0.mk htl
                  have HT := Aside0.mk ht
                  have HL2E := Aside0.mk hL2
                  have HSS := Aside0.mk hS
                  obtain ⟨q1, q2⟩ := q
                  clear hlo hS hl hle2 HL t1 t2 t3 t4 t5 t6 t7 t8 t9 hx hs hqe hqm htl ht hL2
                  go_wp2_with (first | (go_at_call 90; (with_reducible refine (sch_some HN.out hn' HC1.out HLL.out HW.out HSS.out HT.out HQP.out).mono ?_); rintro e w2 ⟨ad, cq, rfl, hU, hb2⟩; have heq : ∀ W : World, (binOp BinOp.eql 28 (.slice (some ad) q1.length cq) (.slice none 0 0)).run Try.prog W = .ok (.bool false) W := (fun W => by kernel_rfl); have HU := Aside0.mk hU; have HB2 := Aside0.mk hb2; clear hU hb2) | (go_at_call 89; go_must (with_reducible refine (ext_at HN.out hn' (HC1.out.below HB2.out) (Nat.le_trans HB.out.size HB2.out.size) HW.out HU.out ?hok HQP.out (Int.not_lt.2 HQM.out) HT.out HTL.out).mono ?_); (case hok => (intro b hb e; have h1 := HC1.out.lt b e; omega)); rintro e w4 ⟨v4, rfl, hC4, hb4⟩; have HC4 := Aside0.mk hC4; have HB4 := Aside0.mk hb4; clear hC4 hb4))
                  go_roundg g'
                  case measure => omega
                  case rel => exact ⟨t, L2, by go_num, htn, by omega, HLO, HK2, ⟨by rw [← HL2E.out]; exact HC4.out⟩, HW2, ⟨(below_then HB.out HB.out.size HB2.out).trans HB4.out⟩⟩
end Go.Proofs.Ytpkgckccfanchaa.M

namespace Go.Proofs.Ytpkgckccfanchaa.M
open Go.RowKit Go.Proofs.YtpkgckccfanchaaW.PrintWords Go.Proofs.YtpkgckccfanchaaW.PrintLast Go.Proofs.YtpkgckccfanchaaW.PrintMore
open Sims
set_option linter.unusedVariables false
set_option linter.unusedSimpArgs false
def RdCh (w : World) (n : Nat) (v : Value) (ls : List Lv) : Prop :=
  ∃ A c, v = .slice A ls.length c ∧ ∀ (j : Nat) l, ls[j]? = some l → ∃ g o gv mb, A = some ⟨g, o, none⟩ ∧ w.cell? ⟨g, o + j * 3, none⟩ = some (.int .i64 l.point) ∧ w.cell? ⟨g, o + j * 3 + 1, none⟩ = some gv ∧ w.cell? ⟨g, o + j * 3 + 2, none⟩ = some (.slice (some ⟨mb, 0, none⟩) n n) ∧ RLv w (fun b => b < w.heap.size) n gv mb l
theorem RdCh.below {w w1 : World} {n : Nat} {v : Value} {ls : List Lv} (h : RdCh w n v ls) (hb : Below w.heap.size w w1) : RdCh w1 n v ls := by
  obtain ⟨A, c, e, h1⟩ := h
  refine ⟨A, c, e, fun j l hj => ?_⟩
  obtain ⟨g, o, gv, mb, a1, a2, a3, a4, a5⟩ := h1 j l hj
  exact ⟨g, o, gv, mb, a1, pw_cell_below hb a2, pw_cell_below hb a3, pw_cell_below hb a4, a5.step (fun b _ hlt => hb.block b hlt) (fun b _ hlt => Nat.lt_of_lt_of_le hlt hb.size)⟩
theorem RCh.rd {w : World} {B n : Nat} {v : Value} {ls : List Lv} (h : RCh w B n v ls) : RdCh w n v ls := by
  obtain ⟨A, c, e⟩ := h.slice
  refine ⟨A, c, e, fun j l hj => ?_⟩
  obtain ⟨g, c', gv, mb, e', h1, h2, h3, _, h4, _⟩ := h.get hj
  rw [e] at e'
  obtain ⟨e1, -⟩ : A = some ⟨g, 0, none⟩ ∧ c = c' := by injection e' with a b c; exact ⟨a, c⟩
  exact ⟨g, 0, gv, mb, e1, by rw [Nat.zero_add]; exact h1, by rw [Nat.zero_add]; exact h2, by rw [Nat.zero_add]; exact h3, h4.step (fun _ _ _ => rfl) (fun b hb _ => hb.1)⟩
theorem RV_ge {w : World} {N : Nat} {T : TypeId} {ok : Nat → Prop} {v : Value} {l : List Int} (h : Kd.R (Kd.int .u32) T w N ok v l) : Kd.V (Kd.int .u32) T w 0 (fun k => N ≤ k ∧ k < w.heap.size) v l :=
  Kd.V_mono (Kd.R_V (Kd.R_tight rfl h)) (fun k hk => ⟨Kd.R_base h k hk.symm, Kd.R_lt h k hk.symm⟩)
def sizeL (k : Nat) : List Int → Bool × List Int → Option (Bool × List Int)
  | [], s => some s
  | x :: t, s => (quadformref01_Small.f x).bind fun m => (quadformref01_Mul.f k s.1 s.2 m.1 m.2).bind fun r => sizeL k t r
theorem sizeL_mono (k : Nat) : ∀ cs o, LeO (sizeL k cs o) (sizeL (k + 1) cs o)
  | [], o => fun r h => h
  | c :: cs, o => fun r h => by
    unfold sizeL at h ⊢
    obtain ⟨n, hn, h⟩ := Option.bind_eq_some_iff.mp h
    obtain ⟨m, hm, h⟩ := Option.bind_eq_some_iff.mp h
    rw [hn, Option.bind_some, quadformref01_Mul.mono _ _ _ _ _ _ hm, Option.bind_some]
    exact sizeL_mono k cs m r h
def sizeR (k : Nat) (l : List Int) : Option (Bool × List Int) := (quadformref01_Small.f 1).bind fun o => sizeL k l o
theorem sizeR_mono (k : Nat) (l : List Int) : LeO (sizeR k l) (sizeR (k + 1) l) := LeO.bind (LeO.refl _) (fun o => sizeL_mono k l o)
theorem lensF_drop (ls : List Lv) {j : Nat} {l : Lv} (h : ls[j]? = some l) : (lensF ls).drop j = (l.reps.length : Int) :: (lensF ls).drop (j + 1) := by
  obtain ⟨h1, h2⟩ := List.getElem?_eq_some_iff.1 h
  rw [List.drop_eq_getElem_cons (by rw [lensF_length]; exact h1)]
  congr 1
  simp [lensF, h2]
set_option maxHeartbeats 8000000 in
set_option maxRecDepth 100000 in
theorem Size_calls {w : World} {n k : Nat} {v : Value} {ls : List Lv} {r : Bool × List Int} (hn : 0 < n) (hn' : n ≤ 512) (hC : RdCh w n v ls) (hok : ∀ l ∈ ls, LvOk n l) (hlen : ls.length ≤ 1000000) (hr : sizeR k (lensF ls) = some r) :
    Calls Try.prog 53 #[v] w fun e w' => ∃ v1_ : Value, e = .returned (.agg #[.bool r.1, v1_]) ∧ Kd.V (Kd.int .u32) 98 w' w.heap.size (fun k_ => (w.heap.size ≤ k_)) v1_ r.2 ∧ Below w.heap.size w w' := by
  obtain ⟨o, ho, hL⟩ := Option.bind_eq_some_iff.mp hr
  obtain ⟨A, c, rfl, hrd⟩ := id hC
  obtain ⟨m, hm⟩ : ∃ m, ls.length = m := ⟨_, rfl⟩
  obtain ⟨r1, r2⟩ := r
  obtain ⟨o1, o2⟩ := o
  have HC := Aside0.mk hC
  have HOK := Aside0.mk hok
  have HO := Aside0.mk ho
  have HLL : Aside0 (sizeL k ((lensF ls).drop 0) (o1, o2) = some (r1, r2)) := ⟨hL⟩
  have HN := Aside0.mk hn
  have HM := Aside0.mk hm
  rw [hm] at hlen ⊢
  clear hC hok ho hL hr hn hrd hm
  go_enter Try.func53, Try.ntmps53
  go_wp2_with (first | ((with_reducible refine gate_dst (N := 2) rfl ?_); refine box_event ?hg (N := 2) ?hd (cs := #[.bool false, .slice none 0 0]) (t := 24) ?hr ?_; (case hd => rfl); (case hg => rfl); (case hr => first | (go_simp; done) | (go_simp; rfl)); intro gb hg w5 hbox hb; have GB := Aside0.mk hbox; have HB0 := Aside0.mk hb; have HGB : Aside0 (w.heap.size ≤ gb) := ⟨by rw [hg]; exact Nat.le_refl _⟩; clear hg hbox hb) | (go_at_call 17; (with_reducible refine (quadformref01_Small.calls 1 o1 o2 _ HO.out).mono ?_); rintro e w6 ⟨v6, rfl, hR6, hb6⟩; obtain ⟨A6, c6, rfl⟩ := Kd.R_slice hR6; have HV6 := Aside0.mk (RV_ge hR6); have HB6 := Aside0.mk hb6; have GB6 := Aside0.mk (blk_below GB.out hb6); clear hR6 hb6))
  obtain ⟨gn, hgn⟩ : ∃ gn, gn = w6.heap.size := ⟨_, rfl⟩
  obtain ⟨W6, hW6⟩ : ∃ W6, W6 = w6.alloc (.cells #[.bool o1, .slice A6 o2.length c6] 24) := ⟨_, rfl⟩
  rw [← hgn, ← hW6]
  have HX : Aside0 (W6.heap[gn]? = some (.cells #[.bool o1, .slice A6 o2.length c6] 24 (0, 0))) := ⟨by rw [hW6, hgn]; exact blk_new w6 _⟩
  have HG6 : Aside0 (W6.heap[gb]? = some (.cells #[.bool false, .slice none 0 0] 24 (0, 0))) := ⟨by rw [hW6]; exact blk_alloc GB6.out _⟩
  have hbw : Below w.heap.size w W6 := by rw [hW6]; exact below_alloc (below_then HB0.out HB0.out.size HB6.out) _
  have HBW := Aside0.mk hbw
  have hgbn : gb < gn := by rw [hgn]; exact blk_lt GB6.out
  have hs5 : w.heap.size ≤ w5.heap.size := HB0.out.size
  have HV : Aside0 (Kd.V (Kd.int .u32) 98 W6 0 (fun q => w5.heap.size ≤ q ∧ q ≠ gn) (.slice A6 o2.length c6) o2) := ⟨by rw [hW6]; exact Kd.V_alloc (Kd.V_mono HV6.out (fun q hq => ⟨hq.1, by omega⟩)) _⟩
  have hwgn : w.heap.size ≤ gn := by have := HGB.out; omega
  have h56 : w5.heap.size ≤ gn := by rw [hgn]; exact HB6.out.size
  have hgb5 : gb < w5.heap.size := blk_lt GB.out
  clear hbw hgn hW6 HV6 GB GB6 HB0 HB6 HO
  go_loopw [9] (fun i wr => ∃ (j : Nat) (s : Bool) (A' : Option Addr) (c' : Nat) (l : List Int), i = .int .i64 j ∧ j ≤ m ∧ Aside0 (sizeL k ((lensF ls).drop j) (s, l) = some (r1, r2)) ∧ Aside0 (wr.heap[gn]? = some (.cells #[.bool s, .slice A' l.length c'] 24 (0, 0))) ∧ Aside0 (Kd.V (Kd.int .u32) 98 wr 0 (fun q => w5.heap.size ≤ q ∧ q ≠ gn) (.slice A' l.length c') l) ∧ Aside0 (Below w.heap.size w wr) ∧ Aside0 (wr.heap[gb]? = some (.cells #[.bool false, .slice none 0 0] 24 (0, 0)))) (fun i _ => m - (intOf i).toNat)
  case atStart => exact ⟨0, o1, A6, c6, o2, rfl, by omega, HLL, HX, HV, HBW, HG6⟩
  case round =>
    clear HLL HX HV HBW HG6
    obtain ⟨j, s, A', c', l, rfl, hj, HL, HX, HV, HB, HG⟩ := hrel
    by_cases hlt : j < m
    · have hlt2 : (j : Int) < (m : Int) := by omega
      obtain ⟨lv, hlv⟩ : ∃ lv, ls[j]? = some lv := ⟨ls[j]'(by have := HM.out; omega), List.getElem?_eq_getElem _⟩
      obtain ⟨A2, cc, e0, hrd⟩ := HC.out.below HB.out
      obtain ⟨g, o, gv, mb, rfl, hc0, hc1, hc2, hrl⟩ := hrd j lv hlv
      obtain ⟨rfl, rfl⟩ : A = some ⟨g, o, none⟩ ∧ c = cc := by injection e0 with a b c; exact ⟨a, c⟩
      have hok := HOK.out lv (List.mem_of_getElem? hlv)
      obtain ⟨gs, hgo, -⟩ := hrl.gens
      obtain ⟨Ag, cg, rfl⟩ := own_slice hgo
      have hL := HL.out
      rw [lensF_drop ls hlv, sizeL] at hL
      obtain ⟨sm, hsm, hL⟩ := Option.bind_eq_some_iff.mp hL
      obtain ⟨mu, hmu, hL⟩ := Option.bind_eq_some_iff.mp hL
      obtain ⟨sm1, sm2⟩ := sm
      obtain ⟨mu1, mu2⟩ := mu
      obtain ⟨mg, hmg⟩ : ∃ mg, lv.gens.length = mg := ⟨_, rfl⟩
      rw [hmg] at hc1
      obtain ⟨pt, hpt⟩ : ∃ pt, lv.point = pt := ⟨_, rfl⟩
      rw [hpt] at hc0
      obtain ⟨q0, hq0⟩ : ∃ q0, lv.reps.length = q0 := ⟨_, rfl⟩
      rw [hq0] at hsm
      have HSM := Aside0.mk hsm
      have HMU := Aside0.mk hmu
      have HL2 : Aside0 (sizeL k ((lensF ls).drop (j + 1)) (mu1, mu2) = some (r1, r2)) := ⟨hL⟩
      have HRL := Aside0.mk hrl
      have HOK1 := Aside0.mk hok
      have HQ0 := Aside0.mk hq0
      clear hrd e0 hgo hL hsm hmu hrl hok hlv hmg hpt hq0 HL
      go_upto_region 5 with (fail)
      obtain ⟨W0, hW0⟩ : ∃ W0, W0 = wr.alloc (.cells #[.int .i64 pt, .slice Ag mg cg, .slice (some ⟨mb, 0, none⟩) n n] 96) := ⟨_, rfl⟩
      obtain ⟨gl, hgl⟩ : ∃ gl, gl = wr.heap.size := ⟨_, rfl⟩
      rw [← hW0, ← hgl]
      have hb0 : Below wr.heap.size wr W0 := by rw [hW0]; exact below_alloc (Below.refl _ _) _
      have HXL : Aside0 (W0.heap[gl]? = some (.cells #[.int .i64 pt, .slice Ag mg cg, .slice (some ⟨mb, 0, none⟩) n n] 96 (0, 0))) := ⟨by rw [hW0, hgl]; exact blk_new wr _⟩
      have HXN : Aside0 (W0.heap[gn]? = some (.cells #[.bool s, .slice A' l.length c'] 24 (0, 0))) := ⟨blk_below HX.out hb0⟩
      have HGN : Aside0 (W0.heap[gb]? = some (.cells #[.bool false, .slice none 0 0] 24 (0, 0))) := ⟨blk_below HG.out hb0⟩
      have HVN : Aside0 (Kd.V (Kd.int .u32) 98 W0 0 (fun q => w5.heap.size ≤ q ∧ q ≠ gn) (.slice A' l.length c') l) := ⟨Kd.V_below HV.out hb0⟩
      have HMN : Aside0 (MapsAt W0 (fun b => b < wr.heap.size) n mb lv.reps) := ⟨HRL.out.maps.below hb0⟩
      have HBN : Aside0 (Below w.heap.size w W0) := ⟨below_then HB.out HB.out.size hb0⟩
      have hsz0 : w.heap.size ≤ W0.heap.size := HBN.out.size
      have hgn0 : gn < W0.heap.size := blk_lt HXN.out
      clear hW0 hgl hb0 HX HG HV HRL HB hc0 hc1 hc2
      have CS : ∀ W : World, Below W0.heap.size W0 W → Calls Try.prog 66 #[.agg #[.int .i64 pt, .slice Ag mg cg, .slice (some ⟨mb, 0, none⟩) n n]] W fun e w' => e = .returned (.int .i64 (q0 : Int)) ∧ Below W.heap.size W w' ∧ Below W0.heap.size W0 w' := fun W hW => by
        refine (size_calls (pv := .bool false) (gv := .bool false) HN.out hn' (HMN.out.below hW) (fun x hx => (HOK1.out.rep x hx).1) HOK1.out.nd HOK1.out.rng).mono ?_
        rintro e w' ⟨rfl, hb⟩
        exact ⟨by rw [HQ0.out], hb, below_then hW hW.size hb⟩
      have CM : ∀ W : World, Below W0.heap.size W0 W → Calls Try.prog 17 #[.int .i64 (q0 : Int)] W fun e w' => ∃ A c, e = .returned (.agg #[.bool sm1, .slice A sm2.length c]) ∧ Below W.heap.size W w' ∧ Below W0.heap.size W0 w' ∧ ∀ W2, Below w'.heap.size w' W2 → Kd.V (Kd.int .u32) 98 W2 0 (fun _ => True) (.slice A sm2.length c) sm2 := fun W hW => by
        refine (quadformref01_Small.calls (q0 : Int) sm1 sm2 W HSM.out).mono ?_
        rintro e w' ⟨v1, rfl, hR, hb⟩
        obtain ⟨A, c, rfl⟩ := Kd.R_slice hR
        exact ⟨A, c, rfl, hb, below_then hW hW.size hb, fun W2 h2 => Kd.V_mono (Kd.V_below (RV_ge hR) h2) (fun _ _ => trivial)⟩
      have CU : ∀ (W : World) (A1 : Option Addr) (c1 : Nat), Below W0.heap.size W0 W → Kd.V (Kd.int .u32) 98 W 0 (fun _ => True) (.slice A1 sm2.length c1) sm2 → Calls Try.prog 33 #[.agg #[.bool s, .slice A' l.length c'], .agg #[.bool sm1, .slice A1 sm2.length c1]] W fun e w' => ∃ A c, e = .returned (.agg #[.bool mu1, .slice A mu2.length c]) ∧ Below W.heap.size W w' ∧ Below W0.heap.size W0 w' ∧ Kd.V (Kd.int .u32) 98 w' 0 (fun q => W0.heap.size ≤ q) (.slice A mu2.length c) mu2 := fun W A1 c1 hW hv => by
        obtain ⟨-, h1, h2⟩ := Kd.V_reads' (Kd.V_below HVN.out hW)
        obtain ⟨-, h3, h4⟩ := Kd.V_reads' hv
        refine (quadformref01_Mul.calls k s A' c' l sm1 A1 c1 sm2 mu1 mu2 W h2 h1 h4 h3 HMU.out).mono ?_
        rintro e w' ⟨v1, rfl, hR, hb⟩
        obtain ⟨A, c, rfl⟩ := Kd.R_slice hR
        exact ⟨A, c, rfl, hb, below_then hW hW.size hb, Kd.V_mono (RV_ge hR) (fun q hq => Nat.le_trans hW.size hq.1)⟩
      have HCS := Aside0.mk CS
      have HCM := Aside0.mk CM
      have HCU := Aside0.mk CU
      have hkeep : ∀ W' : World, Below W0.heap.size W0 W' → W'.cell? ⟨gn, 0, none⟩ = some (.bool s) ∧ W'.cell? ⟨gn, 1, none⟩ = some (.slice A' l.length c') ∧ W'.cell? ⟨gl, 0, none⟩ = some (.int .i64 pt) ∧ W'.cell? ⟨gl, 1, none⟩ = some (.slice Ag mg cg) ∧ W'.cell? ⟨gl, 2, none⟩ = some (.slice (some ⟨mb, 0, none⟩) n n) ∧ W'.frozen? ⟨gn, 0, none⟩ = false ∧ W'.frozen? ⟨gn, 1, none⟩ = false := fun W' hW => ⟨blk_cell (blk_below HXN.out hW) 0, blk_cell (blk_below HXN.out hW) 1, blk_cell (blk_below HXL.out hW) 0, blk_cell (blk_below HXL.out hW) 1, blk_cell (blk_below HXL.out hW) 2, blk_frozen (blk_below HXN.out hW) 0, blk_frozen (blk_below HXN.out hW) 1⟩
      have HKP := Aside0.mk hkeep
      clear CS CM CU hkeep
      have hk0 := HKP.out _ (Below.refl _ _)
      go_region_with (first | (go_at_call 66; (with_reducible refine (HCS.out _ ?hW).mono ?_); (case hW => (repeat' (first | with_reducible exact Below.refl _ _ | with_reducible apply below_drew1))); rintro e w3 ⟨rfl, hSb, hSW⟩; have hkS := HKP.out _ hSW) | (go_at_call 17; (with_reducible refine (HCM.out _ ?hW).mono ?_); (case hW => (repeat' (first | with_reducible exact hSW | with_reducible apply below_drew1))); rintro e w4 ⟨A4, c4, rfl, hMb, hMW, hMV⟩; have hkM := HKP.out _ hMW) | (go_at_call 33; (with_reducible refine (HCU.out _ A4 c4 ?hW ?h1).mono ?_); (case hW => (repeat' (first | with_reducible exact hMW | with_reducible apply below_drew1))); (case h1 => (refine hMV _ ?_; (repeat' (first | with_reducible exact Below.refl _ _ | with_reducible apply below_drew1)))); rintro e w7 ⟨A7, c7, rfl, hUb, hUW, hUV⟩; have hkU := HKP.out _ hUW))
      all_goals
        clear hk0 hkS hkM hkU HCS HCM HCU HKP
        go_wp2_with (fail)
        go_roundw
        case rel =>
          refine ⟨j + 1, mu1, A7, c7, mu2, by go_num, by omega, HL2, ⟨blk_set (blk_set (blk_below HXN.out hUW) 0 _) 1 _⟩, ⟨Kd.V_mono (Kd.V_far (p := ⟨gn, 1, none⟩) (Kd.V_far (p := ⟨gn, 0, none⟩) hUV (fun q hq e => ?_) _) (fun q hq e => ?_) _) (fun q hq => ⟨by omega, ?_⟩)⟩, ⟨below_set (below_set (below_then HBN.out hsz0 hUW) hwgn) hwgn⟩, ⟨blk_far (blk_far (blk_below HGN.out hUW) ?_ _) ?_ _⟩⟩
          · have e2 : q = gn := e
            omega
          · have e2 : q = gn := e
            omega
          · intro e2
            omega
          · intro e2
            have e3 : gb = gn := e2
            omega
          · intro e2
            have e3 : gb = gn := e2
            omega
        case measure => simp [intOf]; omega
    · obtain rfl : j = m := by omega
      have hend : (s, l) = (r1, r2) := by
        have h := HL.out
        rw [List.drop_of_length_le (by rw [lensF_length]; have := HM.out; omega)] at h
        exact Option.some.inj h
      obtain ⟨rfl, rfl⟩ : s = r1 ∧ l = r2 := by
        simp only [Prod.mk.injEq] at hend
        exact hend
      have hx0 := blk_cell HX.out 0
      have hx1 := blk_cell HX.out 1
      have hg0 := blk_cell HG.out 0
      have hg1 := blk_cell HG.out 1
      have hg2 := blk_frozen HG.out 0
      have hg3 := blk_frozen HG.out 1
      clear HL hend hlt hj
      go_wp2_with (fail)
      refine bodyPost_ret (results_cell_row rfl _ _ gb 24 #[.bool s, .slice A' l.length c'] (0, 0) _ rfl (by refine blk_put (cs := #[.bool s, .slice none 0 0]) ?_ 1 _ rfl; refine blk_put (cs := #[.bool false, .slice none 0 0]) ?_ 0 _ rfl; exact HG.out) Try.underlying24 rfl (by kernel_rfl)) rfl ?_
      have hbb := HB.out
      have hgb := HGB.out
      have hv := HV.out
      refine ⟨_, rfl, ?_, below_set (below_set hbb hgb) hgb⟩
      have hv2 : Kd.V (Kd.int .u32) 98 wr 0 (fun q => w.heap.size ≤ q ∧ q ≠ gb) (.slice A' l.length c') l := Kd.V_mono hv (fun q hq => ⟨by omega, by omega⟩)
      exact Kd.V_mono (Kd.V_far (p := ⟨gb, 1, none⟩) (Kd.V_far (p := ⟨gb, 0, none⟩) hv2 (fun q hq e => hq.2 e) _) (fun q hq e => hq.2 e) _) (fun q hq => hq.1)
end Go.Proofs.Ytpkgckccfanchaa.M
