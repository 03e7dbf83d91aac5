/- Part of the proof of StabchainProducts: merged and pruned by merge2.py. -/
import Derived.Test.YtpkgckccfanchaaBStabchainProducts2
import Derived.Laws.StructEq
import Derived.Test.YtpkgckccfanchaaProg
import Derived.Below
import Derived.Deep.Draws
import Derived.Deep.AppendLies
import Derived.Maps.AppendAt
import Derived.OwnWalk
import Derived.Laws.BytesArg
import Derived.Laws.MakeOwn
import Derived.Laws.OwnMore
import Derived.Deep.OwnRows
import Derived.Tactics
import Derived.Lib.ConvBytes
import Derived.Laws.Slices
import Derived.WalkKit
import Derived.KernelRfl
import Derived.RowKit3
import Derived.Deep.LoopGhost
import Derived.Deep.QuietTactic
import Derived.BigQuiet
import Derived.WideLaws
import Derived.Deep.DeepCutAuto
import Derived.Deep.CutBlock
import Derived.Deep.RegionHeld3
import Derived.Laws.Rows
import Derived.Lib.AppendStr
import Derived.ArgAppend
import Derived.Laws.IdiomCopy
import Derived.OrdersHeld
import Derived.Laws.BitsLemmas
import Derived.RowKit
import Derived.RegionTactic
import Derived.ChangeAlike
import Derived.LoopTactic
import Derived.Deep.DeepMust
import Derived.Laws.CopyOwn
import Derived.Maps.OwnSet
import Derived.DeepKeys4
import Derived.Test.YtpkgckccfanchaaBStabchainProducts1

namespace Go.Proofs.YtpkgckccfanchaaW.PrintWords
open Go.RowKit
namespace Kd
def chunks (sz : Nat) (n : Nat) (inner : List Value) : List (List Value) := (List.range n).map fun j => (inner.drop (j * sz)).take sz
theorem chunks_length (sz n : Nat) (inner : List Value) : (chunks sz n inner).length = n := by simp [chunks]
theorem chunks_at {sz n : Nat} {inner : List Value} {j : Nat} (hj : j < n) : (chunks sz n inner)[j]? = some ((inner.drop (j * sz)).take sz) := by simp [chunks, hj]
theorem chunks_get {sz n : Nat} {inner : List Value} {j : Nat} {c : List Value} (h : (chunks sz n inner)[j]? = some c) : c = (inner.drop (j * sz)).take sz := by
  have hj : j < n := by have := (List.getElem?_eq_some_iff.1 h).1; rwa [chunks_length] at this
  rw [chunks_at hj] at h
  injection h with h
  exact h.symm
theorem reps_raw {α : Type} {Rr : α → List Value → Prop} {sz : Nat} {xs : List α} {inner : List Value} (h : Reps Rr sz xs inner) (hR : ∀ x c, Rr x c → c.length = sz ∧ ∀ u ∈ c, u.oneCell' = true) : Reps (fun x cs => cs = x ∧ cs.length = sz ∧ ∀ u ∈ cs, u.oneCell' = true) sz (chunks sz xs.length inner) inner := by
  refine ⟨by rw [chunks_length]; exact h.1, fun j p hj => ?_⟩
  have hjl : j < xs.length := by have := (List.getElem?_eq_some_iff.1 hj).1; rwa [chunks_length] at this
  have hp := chunks_get hj
  exact ⟨hp.symm, hR _ _ (h.2 j _ (List.getElem?_eq_getElem hjl))⟩
section
variable {α : Type} {d : Kd α} {e base n cc g : Nat} {ok ok' okp S : Nat → Prop} {w w1 W W1 : World} {A : Option Addr} {u v v1 : Value} {xs : List α} {x : α} {c : List Value}
theorem F_get (h : F d W ok A n xs) (z : α) (i : Int) (h0 : 0 ≤ i) (h1 : i < n) :
    ∃ ad c, A = some ad ∧ c.length = d.sz ∧ FK d W ok (xs.getD i.toNat z) c ∧ (∀ j u, c[j]? = some u → W.cell? (ad.add (i.toNat * d.sz + j)) = some u) ∧ (0 < d.sz → ok ad.block) := by
  obtain ⟨ad, c, rfl, hcl, hK, hcc⟩ := C_get (F_now h) z i h0 h1
  have hin : 0 < d.sz → ok ad.block := by
    intro hs
    by_cases hk : ok ad.block
    · exact hk
    · obtain ⟨W', h2, h3⟩ := emptied W ad.block
      obtain ⟨ad', c', he, hcl', _, hcc'⟩ := C_get (h W' (fun k hk' _ => h2 k (fun e => hk (e ▸ hk')))) z i h0 h1
      injection he with he
      subst he
      have h4 := hcc' 0 _ (List.getElem?_eq_getElem (by omega))
      rw [h3 _ (add_block _ _)] at h4
      cases h4
  refine ⟨ad, c, rfl, hcl, fun W' hW => ?_, hcc, hin⟩
  obtain ⟨ad', c', he, hcl', hK', hcc'⟩ := C_get (h W' hW) z i h0 h1
  injection he with he
  subst he
  have hc : c = c' := by
    apply List.ext_getElem?
    intro j
    by_cases hj : j < d.sz
    · have hb : W'.heap[ad.block]? = W.heap[ad.block]? := by
        have h5 := hcc j _ (List.getElem?_eq_getElem (by omega))
        have h6 := World.block_lt_of_cell? W _ h5
        rw [add_block] at h6
        exact hW _ (hin (by omega)) h6
      have h5 := hcc j _ (List.getElem?_eq_getElem (by omega))
      have h6 := hcc' j _ (List.getElem?_eq_getElem (by omega))
      have h7 : W'.cell? (ad.add (i.toNat * d.sz + j)) = W.cell? (ad.add (i.toNat * d.sz + j)) := by simp [World.cell?, add_block, hb]
      rw [h7, h5] at h6
      rw [List.getElem?_eq_getElem (by omega), List.getElem?_eq_getElem (by omega)]
      exact h6
    · rw [List.getElem?_eq_none (by omega), List.getElem?_eq_none (by omega)]
  rw [hc]
  exact hK'
theorem F_rows (h : F d W ok A n xs) : ReadsRow (fun x c => FK d W ok x c) d.sz W A n xs := by
  obtain ⟨hl, hm, hn⟩ := F_now h
  refine ⟨hl, hm, fun hp => ?_⟩
  obtain ⟨ad, rfl, _⟩ := hn hp
  refine ⟨ad, rfl, fun j p hj => ?_⟩
  obtain ⟨hjl, hjp⟩ := List.getElem?_eq_some_iff.1 hj
  obtain ⟨ad', c, he, hcl, hK, hcc, _⟩ := F_get h p (j : Int) (by omega) (by omega)
  injection he with he
  subst he
  simp only [Int.toNat_natCast] at hK hcc
  rw [List.getD_eq_getElem?_getD, hj] at hK
  exact ⟨c, hcl, hK, hcc⟩
def N {α : Type} (d : Kd α) (e : Nat) (w : World) (base : Nat) (ok : Nat → Prop) (v : Value) (xs : List α) : Prop :=
  (∀ k, v.ownBlock = some k → ok k) ∧ ∃ rows : List (List Value), rows.length = xs.length ∧ (raw d.sz).R e w base (fun k => some k = v.ownBlock) v rows ∧ ∀ (j : Nat) (x : α) (c : List Value), xs[j]? = some x → rows[j]? = some c → FK d w (fun k => ok k ∧ some k ≠ v.ownBlock) x c
theorem raw_tight {sz : Nat} {rows : List (List Value)} (h : (raw sz).R e w base ok v rows) : (raw sz).R e w base (fun k => some k = v.ownBlock) v rows := R_tight rfl h
theorem raw_any {sz : Nat} {rows : List (List Value)} (h : (raw sz).R e w base ok v rows) : (raw sz).R e w base (fun _ => True) v rows := R_mono h (fun _ _ => trivial)
theorem R_N (h : d.R e w base ok v xs) : N d e w base ok v xs := by
  obtain ⟨h0, inner, ho, hr⟩ := h
  refine ⟨h0, chunks d.sz xs.length inner, chunks_length _ _ _, ⟨fun k hk => hk.symm, inner, by rw [chunks_length]; exact ho, reps_raw hr (fun x c hp => ⟨d.K_len (d.K_of_M hp), d.K_one (d.K_of_M hp)⟩)⟩, fun j x c hx hc => ?_⟩
  rw [chunks_get hc]
  exact FK_of_M (hr.2 j x hx)
theorem S_N (h : Kd.S d e w base ok v xs) : N d e w base ok v xs := R_N (S_R h)
theorem N_nil (d : Kd α) (e : Nat) (w : World) (base : Nat) (ok : Nat → Prop) : N d e w base ok (.slice none 0 0) [] := R_N (R_nil _ _ _ _ _)
theorem N_mono (h : N d e w base ok v xs) (hok : ∀ k, ok k → ok' k) : N d e w base ok' v xs := by
  obtain ⟨h0, rows, hl, hR, hf⟩ := h
  exact ⟨fun k hk => hok k (h0 k hk), rows, hl, hR, fun j x c hx hc => FK_mono (hf j x c hx hc) (fun k hk => ⟨hok k hk.1, hk.2⟩)⟩
theorem N_lt (h : N d e w base ok v xs) : ∀ k, v.ownBlock = some k → k < w.heap.size := by
  obtain ⟨_, rows, _, hR, _⟩ := h
  exact R_lt hR
theorem N_base (h : N d e w base ok v xs) : ∀ k, v.ownBlock = some k → base ≤ k := by
  obtain ⟨_, rows, _, hR, _⟩ := h
  exact R_base hR
theorem N_typed (h : N d e w base ok v xs) : ∀ k, v.ownBlock = some k → ∃ cells, w.heap[k]? = some (.cells cells e (0, 0)) := by
  obtain ⟨_, rows, _, hR, _⟩ := h
  exact R_typed hR
theorem N_ne (h : N d e w base ok v xs) {t : Nat} {cells : Array Value} (hb : w.heap[g]? = some (.cells cells t (0, 0))) (ht : e ≠ t) : some g ≠ v.ownBlock := by
  obtain ⟨_, rows, _, hR, _⟩ := h
  exact R_ne hR hb ht
theorem N_bound (h : N d e w base ok v xs) : N d e w base (fun k => ok k ∧ k < w.heap.size) v xs := by
  have hlt := N_lt h
  obtain ⟨h0, rows, hl, hR, hf⟩ := h
  exact ⟨fun k hk => ⟨h0 k hk, hlt k hk⟩, rows, hl, hR, fun j x c hx hc => FK_mono (FK_bound (hf j x c hx hc)) (fun k hk => ⟨⟨hk.1.1, hk.2⟩, hk.1.2⟩)⟩
theorem N_lower {base' : Nat} (h : N d e w base ok v xs) (hb : base' ≤ base) : N d e w base' ok v xs := by
  obtain ⟨h0, rows, hl, hR, hf⟩ := h
  exact ⟨h0, rows, hl, R_lower hR hb, hf⟩
theorem N_step (h : N d e w base ok v xs) (hm : ∀ k, ok k → k < w.heap.size → w1.heap[k]? = w.heap[k]?) : N d e w1 base ok v xs := by
  obtain ⟨h0, rows, hl, hR, hf⟩ := h
  exact ⟨h0, rows, hl, R_step hR (fun k hk hlt => hm k (h0 k hk.symm) hlt), fun j x c hx hc => FK_step (hf j x c hx hc) (fun k hk hlt => hm k hk.1 hlt)⟩
theorem N_below (h : N d e w base ok v xs) (hb : Below w.heap.size w w1) : N d e w1 base ok v xs := N_step h (fun k _ hk => hb.block k hk)
theorem N_alloc (h : N d e w base ok v xs) (o : Obj) : N d e (w.alloc o) base ok v xs := N_below h (pzB (Below.refl _ _) o)
theorem N_drew (h : N d e w base ok v xs) : N d e w.drew base ok v xs := N_below h (below_drew (Below.refl _ _))
theorem N_drewN (h : N d e w base ok v xs) (m : Nat) : N d e (w.drewN m) base ok v xs := N_below h (pzA (Below.refl _ _) m)
theorem N_far (h : N d e w base ok v xs) {p : Addr} (hok : ∀ k, ok k → k ≠ p.block) (u : Value) : N d e (w.setCell p u) base ok v xs := N_step h (fun k ho _ => Below.heap_setCell w p u k (hok k ho))
theorem N_elder' (h : N d e W base ok v xs) (hbase : ∀ k, u.ownBlock = some k → W.heap.size ≤ k) (hb : Below W.heap.size W w1) : N d e w1 base (fun k => ok k ∧ some k ≠ u.ownBlock) v xs :=
  N_mono (N_below (N_bound h) hb) (fun k hk => ⟨hk.1, fun he => by have := hbase k he.symm; have := hk.2; omega⟩)
theorem N_elderB (h : N d e w base ok v xs) (a : Nat) (ha : w.heap.size ≤ a) : N d e w base (fun k => ok k ∧ k ≠ a) v xs := N_mono (N_bound h) (fun k hk => ⟨hk.1, by have := hk.2; omega⟩)
theorem N_after (h : N d e W base (fun k => ok k ∧ some k ≠ u.ownBlock) v xs) {u1 : Value} (hg : W.grownBy w1 u.ownBlock) (hat : u1.ownBlock = u.ownBlock ∨ ∃ b, u1.ownBlock = some b ∧ W.heap.size ≤ b) : N d e w1 base (fun k => ok k ∧ some k ≠ u1.ownBlock) v xs := by
  refine N_mono (N_step (N_bound h) (fun k hk hlt => hg.block k hlt hk.1.2)) (fun k hk => ⟨hk.1.1, ?_⟩)
  rcases hat with hat | ⟨b, hb, hle⟩
  · rw [hat]; exact hk.1.2
  · rw [hb]
    intro he
    injection he with he
    have := hk.2
    omega
theorem N_slice (h : N d e w base ok v xs) : ∃ A c, v = .slice A xs.length c := by
  obtain ⟨_, rows, hl, hR, _⟩ := h
  obtain ⟨A, c, he⟩ := R_slice hR
  exact ⟨A, c, by rw [he, hl]⟩
theorem N_reads' {n c : Nat} (h : N d e w base ok (.slice A n c) xs) : n = xs.length ∧ n ≤ c ∧ d.C w A xs.length xs := by
  obtain ⟨_, rows, hl, hR, hf⟩ := h
  obtain ⟨hn, hc, hC⟩ := R_reads' hR
  refine ⟨by omega, hc, ?_⟩
  rw [hl] at hC
  refine ⟨rfl, hC.2.1, fun hp => ?_⟩
  obtain ⟨ad, he, hcell⟩ := hC.2.2 hp
  refine ⟨ad, he, fun j p hj => ?_⟩
  have hjl : j < rows.length := by have := (List.getElem?_eq_some_iff.1 hj).1; omega
  obtain ⟨c', hcl, hK, hcc⟩ := hcell j _ (List.getElem?_eq_getElem hjl)
  have hk := FK_now (hf j p _ hj (List.getElem?_eq_getElem hjl))
  refine ⟨c', hcl, ?_, hcc⟩
  rw [show c' = rows[j] from hK.1]
  exact hk
theorem N_F {n : Nat} (h : N d e w base ok (.slice A n cc) xs) : F d w ok A n xs := fun W' hW => by
  have h2 := N_reads' (N_step h hW)
  rw [h2.1]
  exact h2.2.2
theorem N_elem {n cap : Nat} (h : N d e W base ok (.slice (some ⟨g, 0, none⟩) n cap) xs) (z : α) (i : Int) (h0 : 0 ≤ i) (h1 : i < n) :
    ∃ c, c.length = d.sz ∧ FK d W (fun k => ok k ∧ k ≠ g) (xs.getD i.toNat z) c ∧ (∀ j u, c[j]? = some u → W.cell? ⟨g, i.toNat * d.sz + j, none⟩ = some u) ∧ ∀ j, W.frozen? ⟨g, i.toNat * d.sz + j, none⟩ = false := by
  obtain ⟨_, rows, hl, hR, hf⟩ := h
  have hn := (R_reads' hR).1
  obtain ⟨c, hcl, hM, hcc, hfr⟩ := R_elem hR [] i h0 h1
  have hil : i.toNat < rows.length := by omega
  have hil' : i.toNat < xs.length := by omega
  have hc : c = rows[i.toNat] := by
    have h2 := hM.1
    rwa [List.getD_eq_getElem?_getD, List.getElem?_eq_getElem hil] at h2
  refine ⟨c, hcl, ?_, hcc, hfr⟩
  rw [List.getD_eq_getElem?_getD, List.getElem?_eq_getElem hil']
  exact FK_mono (hf _ _ _ (List.getElem?_eq_getElem hil') (by rw [hc]; exact List.getElem?_eq_getElem hil)) (fun k hk => ⟨hk.1, fun he => hk.2 (by rw [he]; simp [Value.ownBlock])⟩)
theorem N_get {ad : Addr} {n cap : Nat} (h : N d e W base ok (.slice (some ad) n cap) xs) (z : α) (i : Int) (h0 : 0 ≤ i) (h1 : i < n) :
    ∃ c, c.length = d.sz ∧ FK d W (fun k => ok k ∧ some k ≠ (Value.slice (some ad) n cap).ownBlock) (xs.getD i.toNat z) c ∧ ∀ j u, c[j]? = some u → W.cell? (ad.add (i.toNat * d.sz + j)) = some u := by
  obtain ⟨g, rfl⟩ : ∃ g, ad = ⟨g, 0, none⟩ := by
    obtain ⟨_, rows, _, hR, _⟩ := h
    exact R_head hR
  obtain ⟨c, hcl, hM, hcc, _⟩ := N_elem h z i h0 h1
  refine ⟨c, hcl, FK_mono hM (fun k hk => ⟨hk.1, fun he => hk.2 (by simpa [Value.ownBlock] using he)⟩), fun j u hu => ?_⟩
  rw [add_at, Nat.zero_add]
  exact hcc j u hu
end
end Kd
end Go.Proofs.YtpkgckccfanchaaW.PrintWords

namespace Go.Proofs.YtpkgckccfanchaaW.PrintWords
open Go.RowKit
namespace Kd
section
variable {α : Type} {d : Kd α} {W : World} {g n : Nat} {S ok : Nat → Prop} {A : Option Addr} {ad : Addr} {xs : List α}
end
end Kd
end Go.Proofs.YtpkgckccfanchaaW.PrintWords

namespace Go.Proofs.YtpkgckccfanchaaW.PrintWords
open Go.RowKit
section
variable {w w' u : World} {m B g : Nat} {o : Obj} {row : Option Nat} {S : Nat → Prop} {a : Addr} {v : Value}
theorem below_at (hq : w.drewN m = w') (h : Below B u w) : Below B u w' := by subst hq; exact pzA h m
theorem blk_at (hq : w.drewN m = w') (h : w.heap[g]? = some o) : w'.heap[g]? = some o := by subst hq; exact h
end
namespace Kd
section
variable {α : Type} {d : Kd α} {e base n m : Nat} {ok : Nat → Prop} {w w' : World} {v : Value} {A : Option Addr} {xs : List α}
theorem R_at (hq : w.drewN m = w') (h : d.R e w base ok v xs) : d.R e w' base ok v xs := by subst hq; exact R_drewN h m
end
end Kd
end Go.Proofs.YtpkgckccfanchaaW.PrintWords

namespace Go.Proofs.YtpkgckccfanchaaW.PrintWords
open Go.RowKit
section
variable {P : Program} {d : Nat} {xs ys : Array Value} {f : Field} {fs : List Field} {a b : Value} {r s : Bool} {w : World}
end
end Go.Proofs.YtpkgckccfanchaaW.PrintWords

namespace Go.Proofs.YtpkgckccfanchaaW.PrintWords
theorem Reps.one {α : Type} {R : α → List Value → Prop} {ps : List α} {cs : List Value} {p : α} {v : Value} (hp : R p [v]) (h : Reps R 1 ps cs) : Reps R 1 (p :: ps) (v :: cs) := by
  refine ⟨by simp [h.1], fun j q hq => ?_⟩
  cases j with
  | zero =>
    simp only [List.getElem?_cons_zero, Option.some.injEq] at hq
    subst hq
    simpa using hp
  | succ j =>
    simp only [List.getElem?_cons_succ] at hq
    have h1 := h.2 j q hq
    simpa [Nat.mul_one] using h1
theorem Reps.front {α : Type} {R : α → List Value → Prop} {size : Nat} {ps : List α} {cs c all : List Value} {p : α} (hp : R p c) (hc : c.length = size) (h : Reps R size ps cs) (ha : c ++ cs = all) : Reps R size (p :: ps) all := by
  subst ha
  refine ⟨by rw [List.length_append, hc, h.1, List.length_cons, Nat.succ_mul, Nat.add_comm], fun j q hq => ?_⟩
  cases j with
  | zero =>
    simp only [List.getElem?_cons_zero, Option.some.injEq] at hq
    subst hq
    rw [Nat.zero_mul, List.drop_zero, List.take_append_of_le_length (by omega), List.take_of_length_le (by omega)]
    exact hp
  | succ j =>
    simp only [List.getElem?_cons_succ] at hq
    have h1 := h.2 j q hq
    rw [Nat.succ_mul, List.drop_append, List.drop_of_length_le (by rw [hc]; exact Nat.le_add_left _ _), List.nil_append, hc, Nat.add_sub_cancel]
    exact h1
theorem Reps.c2 {α : Type} {R : α → List Value → Prop} {ps : List α} {cs : List Value} {p : α} {va vb : Value} (hp : R p [va, vb]) (h : Reps R 2 ps cs) : Reps R 2 (p :: ps) (va :: vb :: cs) := Reps.front hp rfl h rfl
theorem Reps.c3 {α : Type} {R : α → List Value → Prop} {ps : List α} {cs : List Value} {p : α} {va vb vc : Value} (hp : R p [va, vb, vc]) (h : Reps R 3 ps cs) : Reps R 3 (p :: ps) (va :: vb :: vc :: cs) := Reps.front hp rfl h rfl
theorem Reps.c4 {α : Type} {R : α → List Value → Prop} {ps : List α} {cs : List Value} {p : α} {va vb vc vd : Value} (hp : R p [va, vb, vc, vd]) (h : Reps R 4 ps cs) : Reps R 4 (p :: ps) (va :: vb :: vc :: vd :: cs) := Reps.front hp rfl h rfl
theorem Reps.c5 {α : Type} {R : α → List Value → Prop} {ps : List α} {cs : List Value} {p : α} {va vb vc vd ve : Value} (hp : R p [va, vb, vc, vd, ve]) (h : Reps R 5 ps cs) : Reps R 5 (p :: ps) (va :: vb :: vc :: vd :: ve :: cs) := Reps.front hp rfl h rfl
theorem Reps.c6 {α : Type} {R : α → List Value → Prop} {ps : List α} {cs : List Value} {p : α} {va vb vc vd ve vf : Value} (hp : R p [va, vb, vc, vd, ve, vf]) (h : Reps R 6 ps cs) : Reps R 6 (p :: ps) (va :: vb :: vc :: vd :: ve :: vf :: cs) := Reps.front hp rfl h rfl
theorem Reps.c7 {α : Type} {R : α → List Value → Prop} {ps : List α} {cs : List Value} {p : α} {va vb vc vd ve vf vg : Value} (hp : R p [va, vb, vc, vd, ve, vf, vg]) (h : Reps R 7 ps cs) : Reps R 7 (p :: ps) (va :: vb :: vc :: vd :: ve :: vf :: vg :: cs) := Reps.front hp rfl h rfl
theorem Reps.c8 {α : Type} {R : α → List Value → Prop} {ps : List α} {cs : List Value} {p : α} {va vb vc vd ve vf vg vh : Value} (hp : R p [va, vb, vc, vd, ve, vf, vg, vh]) (h : Reps R 8 ps cs) : Reps R 8 (p :: ps) (va :: vb :: vc :: vd :: ve :: vf :: vg :: vh :: cs) := Reps.front hp rfl h rfl
theorem Reps.c9 {α : Type} {R : α → List Value → Prop} {ps : List α} {cs : List Value} {p : α} {va vb vc vd ve vf vg vh vi : Value} (hp : R p [va, vb, vc, vd, ve, vf, vg, vh, vi]) (h : Reps R 9 ps cs) : Reps R 9 (p :: ps) (va :: vb :: vc :: vd :: ve :: vf :: vg :: vh :: vi :: cs) := Reps.front hp rfl h rfl
theorem Reps.c10 {α : Type} {R : α → List Value → Prop} {ps : List α} {cs : List Value} {p : α} {va vb vc vd ve vf vg vh vi vj : Value} (hp : R p [va, vb, vc, vd, ve, vf, vg, vh, vi, vj]) (h : Reps R 10 ps cs) : Reps R 10 (p :: ps) (va :: vb :: vc :: vd :: ve :: vf :: vg :: vh :: vi :: vj :: cs) := Reps.front hp rfl h rfl
end Go.Proofs.YtpkgckccfanchaaW.PrintWords

namespace Go.Proofs.YtpkgckccfanchaaW.PrintLast
def up (b : Nat → Bool) (i : Nat) : Nat → Bool := fun j => if j = i then true else b j
section
variable {P : Program} {ops : Array Oper} {Q : Exit → Act → World → Prop} {md : Region.Mode} {T : Bool × List (List Nat × List Nat)} {B : List Nat} {O : List Nat} {b : Nat → Bool} {i j n : Nat}
end
end Go.Proofs.YtpkgckccfanchaaW.PrintLast

namespace Go.Proofs.YtpkgckccfanchaaW.PrintWords
open Go.RowKit
end Go.Proofs.YtpkgckccfanchaaW.PrintWords
namespace Go.Proofs.YtpkgckccfanchaaW.PrintLast
section
variable {ops : Array Oper} {a : Act} {o og : Oper} {g : Nat} {t : Tmp} {u : Bool}
end
end Go.Proofs.YtpkgckccfanchaaW.PrintLast

namespace Go.Proofs.YtpkgckccfanchaaW.PrintWords
open Go.RowKit
section
variable {P : Program} {ops : Array Oper} {rest : List Oper} {o : Oper} {a : Act} {Q : Exit → Act → World → Prop} {W : World}
theorem gate_guard (hw : Region.wanted o (yielded ops a.tmps) = true) (h : wpList P ops Q ({ o with guard := none } :: rest) a W) : wpList P ops Q (o :: rest) a W := by
  have h1 : Region.wanted { o with guard := none } (yielded ops a.tmps) = true := rfl
  unfold wpList at h ⊢
  rw [if_pos h1] at h
  rw [if_pos hw]
  exact h
end
end Go.Proofs.YtpkgckccfanchaaW.PrintWords

namespace Go.Proofs.YtpkgckccfanchaaW.PrintWords
open Go.RowKit
namespace Kd
section
variable {α : Type} {d : Kd α} {e base n cap g : Nat} {ok ok' okp : Nat → Prop} {w w1 W : World} {v v1 : Value} {xs ys : List α}
theorem N_appended {rows news : List (List Value)} (h0 : ∀ k, v.ownBlock = some k → ok k) (hl : rows.length = xs.length) (hf : ∀ (j : Nat) (x : α) (c : List Value), xs[j]? = some x → rows[j]? = some c → FK d W (fun k => ok k ∧ some k ≠ v.ownBlock) x c)
    (hl2 : news.length = ys.length) (hf2 : ∀ (j : Nat) (x : α) (c : List Value), ys[j]? = some x → news[j]? = some c → FK d W okp x c) (hokp : ∀ k, okp k → ok k ∧ some k ≠ v.ownBlock) (hfresh : ∀ k, W.heap.size ≤ k → ok k)
    (hR : (raw d.sz).R e w1 base (fun _ => True) v1 (rows ++ news)) (hg : W.grownBy w1 v.ownBlock) (hat : v1.ownBlock = v.ownBlock ∨ ∃ b, v1.ownBlock = some b ∧ W.heap.size ≤ b) : N d e w1 base ok v1 (xs ++ ys) := by
  have hne : ∀ k, some k ≠ v.ownBlock → k < W.heap.size → some k ≠ v1.ownBlock := by
    intro k hk hlt
    rcases hat with hat | ⟨b, hb, hle⟩
    · rw [hat]; exact hk
    · rw [hb]
      intro he
      injection he with he
      omega
  have step : ∀ {x : α} {c : List Value} {o : Nat → Prop}, FK d W o x c → (∀ k, o k → ok k ∧ some k ≠ v.ownBlock) → FK d w1 (fun k => ok k ∧ some k ≠ v1.ownBlock) x c := by
    intro x c o hq ho
    exact FK_mono (FK_step (FK_bound hq) (fun k hk hlt => hg.block k hlt (ho k hk.1).2)) (fun k hk => ⟨(ho k hk.1).1, hne k (ho k hk.1).2 hk.2⟩)
  refine ⟨fun k hk => ?_, rows ++ news, by rw [List.length_append, List.length_append, hl, hl2], raw_tight hR, fun j x c hx hc => ?_⟩
  · rcases hat with hat | ⟨b, hb, hle⟩
    · exact h0 k (hat ▸ hk)
    · rw [hb] at hk
      injection hk with hk
      exact hfresh k (by omega)
  · rcases Nat.lt_or_ge j xs.length with hlt | hge
    · rw [List.getElem?_append_left hlt] at hx
      rw [List.getElem?_append_left (by omega)] at hc
      exact step (hf j x c hx hc) (fun _ hk => hk)
    · rw [List.getElem?_append_right hge] at hx
      rw [List.getElem?_append_right (by omega), hl] at hc
      exact step (hf2 _ x c hx hc) hokp
theorem FK_raw {x : α} {c : List Value} (h : FK d W ok x c) : c = c ∧ c.length = d.sz ∧ ∀ u ∈ c, u.oneCell' = true := ⟨rfl, d.K_len (FK_now h), d.K_one (FK_now h)⟩
theorem N_made {rows : List (List Value)} (hR : (raw d.sz).R e w1 base (fun k => k = W.heap.size) v1 rows) (hg : W.grownBy w1 none) (hat : ∃ b, v1.ownBlock = some b ∧ W.heap.size ≤ b) (hl : rows.length = xs.length) (hf : ∀ (j : Nat) (x : α) (c : List Value), xs[j]? = some x → rows[j]? = some c → FK d W okp x c)
    (hok : ∀ k, okp k → ok k) (hfresh : ok W.heap.size) : N d e w1 base ok v1 xs := by
  obtain ⟨b, hb, hle⟩ := hat
  refine ⟨fun k hk => by rw [hR.1 k hk]; exact hfresh, rows, hl, raw_tight hR, fun j x c hx hc => ?_⟩
  refine FK_mono (FK_step (FK_bound (hf j x c hx hc)) (fun k hk hlt => hg.block k hlt (by simp))) (fun k hk => ⟨hok k hk.1, fun he => ?_⟩)
  rw [hb] at he
  injection he with he
  have := hk.2
  omega
theorem reads_raw {Rr : α → List Value → Prop} {sz m : Nat} {A : Option Addr} (h : ReadsRow Rr sz W A m ys) (hR : ∀ x c, Rr x c → c.length = sz ∧ ∀ u ∈ c, u.oneCell' = true) :
    ∃ news : List (List Value), news.length = ys.length ∧ ReadsRow (fun x cs => cs = x ∧ cs.length = sz ∧ ∀ u ∈ cs, u.oneCell' = true) sz W A m news ∧ ∀ (j : Nat) (x : α) (c : List Value), ys[j]? = some x → news[j]? = some c → Rr x c := by
  rcases Nat.eq_zero_or_pos m with h0 | hp
  · have hy : ys = [] := List.eq_nil_of_length_eq_zero (h.1.trans h0)
    subst hy
    exact ⟨[], rfl, ⟨h0 ▸ rfl, h.2.1, fun hp => by omega⟩, fun j x c hx => by simp at hx⟩
  · obtain ⟨ad, rfl, _⟩ := h.2.2 hp
    obtain ⟨inner, hr, hc⟩ := ReadsRow.inner_ h
    refine ⟨chunks sz ys.length inner, chunks_length _ _ _, ⟨by rw [chunks_length]; exact h.1, h.2.1, fun _ => ⟨ad, rfl, fun j p hj => ?_⟩⟩, fun j x c hx hcc => ?_⟩
    · have hjl : j < ys.length := by have := (List.getElem?_eq_some_iff.1 hj).1; rwa [chunks_length] at this
      have hpe := chunks_get hj
      have hq := hR _ _ (hr.2 j _ (List.getElem?_eq_getElem hjl))
      rw [← hpe] at hq
      refine ⟨p, hq.1, ⟨rfl, hq⟩, fun i u hu => ?_⟩
      have hu2 : inner[j * sz + i]? = some u := by
        rw [hpe, List.getElem?_take] at hu
        split at hu
        · rw [List.getElem?_drop] at hu
          exact hu
        · cases hu
      exact hc _ u hu2
    · rw [chunks_get hcc]
      exact hr.2 j x hx
end
section
variable {P : Program} {ops : Array Oper} {rest : List Oper} {o : Oper} {a : Act} {Q : Exit → Act → World → Prop} {Kc : Act → World → Prop} {α : Type}
theorem N_append (d : Kd α) {w0 W : World} (base : Nat) (hgd : o.guard = none) (s x : Operand) (t e : TypeId) (z : Value) (bytes : Nat)
    (ho : o.op = .call { callee := .builtin .append, args := #[s, x], argTypes := #[t, t] })
    (ht : P.underlying t = some (.slice e)) (hinfo : (P.info? e).map (fun i => (i.zero, i.size, i.bytes)) = some (some z, d.sz, bytes)) (hz : z.cells.size = d.sz) (hs0 : 0 < d.sz) (hb0 : 0 < bytes)
    (v : Value) (xs : List α) (p : α) (cs : List Value) (ok okp : Nat → Prop) (hs : a.eval s = v) (hx : a.eval x = .slice (some ⟨W.heap.size, 0, none⟩) 1 1) (hp : FK d W okp p cs) (hokp : ∀ k, okp k → ok k ∧ some k ≠ v.ownBlock) (hfresh : ∀ k, W.heap.size ≤ k → ok k)
    (HO : N d e W base ok v xs) (HB : Below base w0 W) (hbase : base ≤ W.heap.size) (hl : (xs.length + 1) * bytes ≤ 140737488355328)
    (h : ∀ v1 w1, N d e w1 base ok v1 (xs ++ [p]) → Below base w0 w1 → W.grownBy w1 v.ownBlock → (v1.ownBlock = v.ownBlock ∨ ∃ b, v1.ownBlock = some b ∧ W.heap.size ≤ b) → wpList P ops Q rest (a.put o.dst v1) w1) :
    wpList P ops Q (o :: rest) a (W.alloc (.cells cs.toArray e)) := by
  obtain ⟨h0, rows, hlr, hR, hf⟩ := HO
  refine R_append (raw d.sz) base hgd s x t e z bytes ho ht hinfo hz hs0 hb0 v rows cs cs (fun _ => True) (fun _ => False) hs hx (FK_raw hp) (fun _ hk => hk.elim) (fun _ _ => trivial) (raw_any hR) HB hbase (by rw [hlr]; exact hl) ?_
  intro v1 w1 hr hb hg hat
  exact h v1 w1 (N_appended h0 hlr hf (ys := [p]) (news := [cs]) rfl (fun j y c hy hc => by
    rcases j with _ | j
    · simp only [List.getElem?_cons_zero, Option.some.injEq] at hy hc
      rw [← hy, ← hc]; exact hp
    · simp at hy) hokp hfresh hr hg hat) hb hg hat
theorem N_append_rows (d : Kd α) {w0 W : World} (base : Nat) (hgd : o.guard = none) (s x : Operand) (t e : TypeId) (z : Value) (bytes : Nat)
    (ho : o.op = .call { callee := .builtin .append, args := #[s, x], argTypes := #[t, t] })
    (ht : P.underlying t = some (.slice e)) (hinfo : (P.info? e).map (fun i => (i.zero, i.size, i.bytes)) = some (some z, d.sz, bytes)) (hz : z.cells.size = d.sz) (hs0 : 0 < d.sz) (hb0 : 0 < bytes)
    (v : Value) (xs ys : List α) (A : Option Addr) (m c : Nat) (ok okp : Nat → Prop) (hs : a.eval s = v) (hx : a.eval x = .slice A m c)
    (HO : N d e W base ok v xs) (HR : F d W okp A m ys) (hokp : ∀ k, okp k → ok k ∧ some k ≠ v.ownBlock) (hfresh : ∀ k, W.heap.size ≤ k → ok k)
    (HB : Below base w0 W) (hbase : base ≤ W.heap.size) (hl : (xs.length + m) * bytes ≤ 140737488355328)
    (h : ∀ v1 w1, N d e w1 base ok v1 (xs ++ ys) → Below base w0 w1 → W.grownBy w1 v.ownBlock → (v1.ownBlock = v.ownBlock ∨ ∃ b, v1.ownBlock = some b ∧ W.heap.size ≤ b) → wpList P ops Q rest (a.put o.dst v1) w1) :
    wpList P ops Q (o :: rest) a W := by
  obtain ⟨h0, rows, hlr, hR, hf⟩ := HO
  obtain ⟨news, hnl, hnr, hnf⟩ := reads_raw (F_rows HR) (fun y c hk => ⟨d.K_len (FK_now hk), d.K_one (FK_now hk)⟩)
  refine R_append_rows (raw d.sz) base hgd s x t e z bytes ho ht hinfo hz hs0 hb0 v rows news A m c (fun _ => True) (fun _ => False) hs hx (raw_any hR) hnr (fun _ _ hk => hk) (fun _ hk => hk.elim) (fun _ _ => trivial) HB hbase (by rw [hlr]; exact hl) ?_
  intro v1 w1 hr hb hg hat
  exact h v1 w1 (N_appended h0 hlr hf hnl hnf hokp hfresh hr hg hat) hb hg hat
theorem N_lit (d : Kd α) {w0 W : World} (base e : Nat) (hgd : o.guard = none) {N' : Tmp} (_hd : o.dst = some N') {xs : List α} {inner : List Value} {ok okp : Nat → Prop}
    (hrun : (execOp a.eval o).run P W = .ok (.value (.slice (some ⟨W.heap.size, 0, none⟩) xs.length xs.length)) (W.alloc (.cells inner.toArray e)))
    (hrep : Reps (FK d W okp) d.sz xs inner) (hok : ∀ k, okp k → ok k) (hfresh : ok W.heap.size) (HB : Below base w0 W) (hbase : base ≤ W.heap.size) (hm : xs.length ≤ 9223372036854775807)
    (h : ∀ v1 w1, N d e w1 base ok v1 xs → Below base w0 w1 → W.grownBy w1 none → (∃ b, v1.ownBlock = some b ∧ W.heap.size ≤ b) → wpList P ops Q rest (a.put o.dst v1) w1) :
    wpList P ops Q (o :: rest) a W := by
  refine R_lit (raw d.sz) base e hgd _hd (xs := chunks d.sz xs.length inner) (inner := inner) (ok := fun k => k = W.heap.size) (okp := fun _ => False) (by rw [chunks_length]; exact hrun) (reps_raw hrep (fun y c hk => ⟨d.K_len (FK_now hk), d.K_one (FK_now hk)⟩)) (fun _ hk => hk.elim) rfl HB hbase (by rw [chunks_length]; exact hm) ?_
  intro v1 w1 hr hb hg hat
  exact h v1 w1 (N_made hr hg hat (chunks_length _ _ _) (fun j y c hy hc => by rw [chunks_get hc]; exact hrep.2 j y hy) hok hfresh) hb hg hat
end
end Kd
end Go.Proofs.YtpkgckccfanchaaW.PrintWords

namespace Go.Proofs.YtpkgckccfanchaaW.PrintMore
open Go.RowKit Go.Proofs.YtpkgckccfanchaaW.PrintWords
namespace Kd
open Go.Proofs.YtpkgckccfanchaaW.PrintWords.Kd
end Kd
namespace Kd
open Go.Proofs.YtpkgckccfanchaaW.PrintWords.Kd
section
variable {α : Type} {d : Kd α} {e base g N : Nat} {ok : Nat → Prop} {W w1 : World} {u v : Value} {xs : List α}
theorem R_old (hu : d.R e W base ok u xs) (hb : Below W.heap.size W w1) : d.R e w1 base (fun k => ok k ∧ k < W.heap.size) u xs :=
  R_mono (R_below (R_bound hu) hb) (fun _ h => ⟨h.1, h.2.2.1⟩)
theorem R_told (h : d.R e w1 base (fun k => ok k ∧ k < N) u xs) (hbase : ∀ k, v.ownBlock = some k → N ≤ k) : d.R e w1 base (fun k => (ok k ∧ some k ≠ v.ownBlock) ∧ k < N) u xs :=
  R_mono h (fun k hk => ⟨⟨hk.1, fun e => Nat.lt_irrefl _ (Nat.lt_of_lt_of_le hk.2 (hbase k e.symm))⟩, hk.2⟩)
end
end Kd
theorem pzW (k k' : IntKind) (x y : Int) : Builtin.max2 (.int k x) (.int k' y) = pure (.int k (if x < y then y else x)) := by simp only [Builtin.max2, gt_iff_lt]
theorem pzX (k k' : IntKind) (x y : Int) : Builtin.min2 (.int k x) (.int k' y) = pure (.int k (if y < x then y else x)) := by simp only [Builtin.min2]
theorem pzY (ats : Array TypeId) (ty : TypeId) (a b : Value) : Builtin.max_ ats ty #[a, b] = (Builtin.max2 a b >>= fun s => pure s) := by simp only [Builtin.max_, List.foldlM_cons, List.foldlM_nil]
theorem pzZ (ats : Array TypeId) (ty : TypeId) (a b : Value) : Builtin.min_ ats ty #[a, b] = (Builtin.min2 a b >>= fun s => pure s) := by simp only [Builtin.min_, List.foldlM_cons, List.foldlM_nil]
theorem pzS (ats : Array TypeId) (ty : TypeId) (a b c : Value) : Builtin.max_ ats ty #[a, b, c] = (Builtin.max2 a b >>= fun s => Builtin.max2 s c >>= fun s => pure s) := by simp only [Builtin.max_, List.foldlM_cons, List.foldlM_nil]
theorem pzT (ats : Array TypeId) (ty : TypeId) (a b c : Value) : Builtin.min_ ats ty #[a, b, c] = (Builtin.min2 a b >>= fun s => Builtin.min2 s c >>= fun s => pure s) := by simp only [Builtin.min_, List.foldlM_cons, List.foldlM_nil]
theorem pzU (ats : Array TypeId) (ty : TypeId) (a b c d : Value) : Builtin.max_ ats ty #[a, b, c, d] = (Builtin.max2 a b >>= fun s => Builtin.max2 s c >>= fun s => Builtin.max2 s d >>= fun s => pure s) := by simp only [Builtin.max_, List.foldlM_cons, List.foldlM_nil]
theorem pzV (ats : Array TypeId) (ty : TypeId) (a b c d : Value) : Builtin.min_ ats ty #[a, b, c, d] = (Builtin.min2 a b >>= fun s => Builtin.min2 s c >>= fun s => Builtin.min2 s d >>= fun s => pure s) := by simp only [Builtin.min_, List.foldlM_cons, List.foldlM_nil]
end Go.Proofs.YtpkgckccfanchaaW.PrintMore
namespace Go.Proofs.YtpkgckccfanchaaW.PrintWords
open Go.RowKit
section
variable {P : Program} {ops : Array Oper} {rest : List Oper} {o : Oper} {a : Act} {Q : Exit → Act → World → Prop} {W : World}
theorem pzP {f : FuncId} {as_ : Array Operand} {ts : Array TypeId} (_ho : o.op = .call { callee := .value (.func f), args := as_, argTypes := ts }) (h : wpList P ops Q (o :: rest) a W) : wpList P ops Q (o :: rest) a W := h
theorem gate_builtin {b : Builtin} {xs : Array Operand} {ts : Array TypeId} (_ho : o.op = .call { callee := .builtin b, args := xs, argTypes := ts }) (h : wpList P ops Q (o :: rest) a W) : wpList P ops Q (o :: rest) a W := h
end
def shl (k : IntKind) (x y : Int) : Int := k.wrap (x * 2 ^ min y.toNat k.bits)
theorem shl_small {k : IntKind} {x y j : Int} (h : shl k x y = j) (hy : y ≤ k.bits) : k.wrap (x * 2 ^ y.toNat) = j := by rw [← h]; unfold shl; rw [Nat.min_eq_left (by omega)]
theorem drewN_self (w : World) (n : Nat) : w.drewN n = w.drewN n := rfl
namespace Kd
section
variable {α : Type} {d : Kd α} {e base : Nat} {ok : Nat → Prop} {W w1 : World} {v : Value} {xs : List α}
end
section
variable {α : Type} {d : Kd α} {e base g n cap : Nat} {ok oki okp : Nat → Prop} {W : World} {xs : List α} {i : Int} {c : List Value}
end
section
variable {α : Type} {d : Kd α} {e base b b' g N : Nat} {ok ok1 : Nat → Prop} {W W2 w1 : World} {u v : Value} {xs ys : List α} {S : Nat → Prop}
end
end Kd
end Go.Proofs.YtpkgckccfanchaaW.PrintWords
namespace Go.Proofs.YtpkgckccfanchaaW.PrintWords
open Go.RowKit
namespace Kd
def V {α : Type} (d : Kd α) (_e : Nat) (W : World) (_base : Nat) (ok : Nat → Prop) (v : Value) (xs : List α) : Prop := ∃ A c, v = .slice A xs.length c ∧ xs.length ≤ c ∧ F d W ok A xs.length xs
section
variable {α β : Type} {d : Kd α} {e base base' n m c g N' lo hi : Nat} {ok ok' S : Nat → Prop} {w W w1 : World} {A : Option Addr} {ad : Addr} {u v v1 : Value} {xs : List α}
theorem V_map (h : V d e W base ok v xs) (hF : ∀ A, F d W ok A xs.length xs → F d w1 ok' A xs.length xs) : V d e w1 base' ok' v xs := by
  obtain ⟨A, c, hv, hl, hf⟩ := h
  exact ⟨A, c, hv, hl, hF A hf⟩
theorem V_mk (hl : xs.length ≤ c) (hf : F d W ok A xs.length xs) : V d e W base ok (.slice A xs.length c) xs := ⟨A, c, rfl, hl, hf⟩
theorem V_slice (h : V d e W base ok v xs) : ∃ A c, v = .slice A xs.length c := by
  obtain ⟨A, c, hv, _⟩ := h
  exact ⟨A, c, hv⟩
theorem V_at (h : V d e W base ok (.slice A n c) xs) : n = xs.length ∧ n ≤ c ∧ F d W ok A xs.length xs := by
  obtain ⟨A', c', hv, hl, hf⟩ := h
  injection hv with ha hn hc
  subst ha; subst hc
  exact ⟨hn, by rw [hn]; exact hl, hf⟩
theorem V_reads' (h : V d e W base ok (.slice A n c) xs) : n = xs.length ∧ n ≤ c ∧ d.C W A xs.length xs := ⟨(V_at h).1, (V_at h).2.1, F_now (V_at h).2.2⟩
theorem V_nil (d : Kd α) (e : Nat) (W : World) (base : Nat) (ok : Nat → Prop) : V d e W base ok (.slice none 0 0) [] := ⟨none, 0, rfl, Nat.le_refl _, F_nil d W ok⟩
theorem R_V (h : d.R e W base ok v xs) : V d e W base' ok v xs := by
  obtain ⟨A, c, rfl⟩ := R_slice h
  exact ⟨A, c, rfl, (R_reads' h).2.1, R_F h⟩
theorem V_mono (h : V d e W base ok v xs) (hok : ∀ k, ok k → ok' k) : V d e W base ok' v xs := V_map h (fun _ hf => F_mono hf hok)
theorem V_bound (h : V d e W base ok v xs) : V d e W base (fun k => ok k ∧ k < W.heap.size) v xs := V_map h (fun _ hf => F_bound hf)
theorem V_lower (h : V d e W base ok v xs) (_ : base' ≤ base) : V d e W base' ok v xs := h
theorem V_step (h : V d e W base ok v xs) (hm : ∀ k, ok k → k < W.heap.size → w1.heap[k]? = W.heap[k]?) : V d e w1 base ok v xs := V_map h (fun _ hf => F_step hf hm)
theorem V_below (h : V d e W base ok v xs) (hb : Below W.heap.size W w1) : V d e w1 base ok v xs := V_map h (fun _ hf => F_below hf hb)
theorem V_alloc (h : V d e W base ok v xs) (o : Obj) : V d e (W.alloc o) base ok v xs := V_map h (fun _ hf => F_alloc hf o)
theorem V_drew (h : V d e W base ok v xs) : V d e W.drew base ok v xs := V_map h (fun _ hf => F_drew hf)
theorem V_drewN (h : V d e W base ok v xs) (m : Nat) : V d e (W.drewN m) base ok v xs := V_map h (fun _ hf => F_drewN hf m)
theorem V_far (h : V d e W base ok v xs) {p : Addr} (hok : ∀ k, ok k → k ≠ p.block) (u : Value) : V d e (W.setCell p u) base ok v xs := V_map h (fun _ hf => F_far hf hok u)
theorem V_after (h : V d e W base (fun k => ok k ∧ some k ≠ u.ownBlock) v xs) (hg : W.grownBy w1 u.ownBlock) (hat : v1.ownBlock = u.ownBlock ∨ ∃ b, v1.ownBlock = some b ∧ W.heap.size ≤ b) : V d e w1 base (fun k => ok k ∧ some k ≠ v1.ownBlock) v xs := V_map h (fun _ hf => F_after hf hg hat)
theorem V_afterv (h : V d e W base (fun k => ok k ∧ some k ≠ v.ownBlock) u xs) (hg : W.grownBy w1 v.ownBlock) (hat : v1.ownBlock = v.ownBlock ∨ ∃ b, v1.ownBlock = some b ∧ W.heap.size ≤ b) : V d e w1 base (fun k => ok k ∧ some k ≠ v1.ownBlock) u xs := V_after h hg hat
theorem N_afterv (h : N d e W base (fun k => ok k ∧ some k ≠ v.ownBlock) u xs) (hg : W.grownBy w1 v.ownBlock) (hat : v1.ownBlock = v.ownBlock ∨ ∃ b, v1.ownBlock = some b ∧ W.heap.size ≤ b) : N d e w1 base (fun k => ok k ∧ some k ≠ v1.ownBlock) u xs := N_after h hg hat
theorem V_elder' (h : V d e W base ok v xs) (hbase : ∀ k, u.ownBlock = some k → W.heap.size ≤ k) (hb : Below W.heap.size W w1) : V d e w1 base (fun k => ok k ∧ some k ≠ u.ownBlock) v xs := V_map h (fun _ hf => F_elder' hf hbase hb)
theorem V_elderB (h : V d e W base ok v xs) (a : Nat) (ha : W.heap.size ≤ a) : V d e W base (fun k => ok k ∧ k ≠ a) v xs := V_map h (fun _ hf => F_elderB hf a ha)
theorem FK_slice_open {l : List α} {cs : List Value} (h : FK (Kd.slice e d) W ok l cs) : ∃ A c, cs = [.slice A l.length c] ∧ l.length ≤ c ∧ F d W ok A l.length l := by
  obtain ⟨A, c, rfl, hl, _⟩ := FK_now h
  refine ⟨A, c, rfl, hl, fun W' hW => ?_⟩
  obtain ⟨A', c', he, _, g'⟩ := h W' hW
  injection he with he _
  injection he with ha _ _
  rw [ha]
  exact g'
theorem FK_slice_mk {l : List α} (hl : l.length ≤ c) (hf : F d W ok A l.length l) : FK (Kd.slice e d) W ok l [.slice A l.length c] := fun W' hW => ⟨A, c, rfl, hl, hf W' hW⟩
theorem R_newM {M : Nat → Prop} (h : d.R e w1 W.heap.size ok v xs) (hle : w.heap.size ≤ W.heap.size) (hM : ∀ k, w.heap.size ≤ k → M k) : d.R e w1 W.heap.size (fun k => M k ∧ ok k) v xs := R_mono (R_bound h) (fun k hk => ⟨hM k (Nat.le_trans hle hk.2.1), hk.1⟩)
end
end Kd
end Go.Proofs.YtpkgckccfanchaaW.PrintWords

namespace Go.Proofs.Ytpkgckccfanchaa.M
open Go.RowKit YtpkgckccfanchaaW.PrintWords YtpkgckccfanchaaW.PrintLast YtpkgckccfanchaaW.PrintMore
attribute [local go_sem] pzW pzX pzY pzZ pzS pzT pzU pzV
set_option linter.unusedVariables false
set_option linter.unusedSimpArgs false
def errW : Option Int → Value
  | none => .nilIface
  | some c => .iface 0 (.int .i64 c)
theorem pzN : errW none = .nilIface := rfl
theorem pzM (c : Int) : errW (some c) = .iface 0 (.int .i64 c) := rfl
theorem info3 : (Try.prog.info? 3).map (fun i => (i.zero, i.size, i.bytes)) = some (some (.int .i64 0), 1, 8) := by kernel_rfl
theorem info4 : (Try.prog.info? 4).map (fun i => (i.zero, i.size, i.bytes)) = some (some (.bool false), 1, 1) := by kernel_rfl
theorem info28 : (Try.prog.info? 28).map (fun i => (i.zero, i.size, i.bytes)) = some (some (.slice none 0 0), 1, 24) := by kernel_rfl
theorem info98 : (Try.prog.info? 98).map (fun i => (i.zero, i.size, i.bytes)) = some (some (.int .u32 0), 1, 4) := by kernel_rfl
def rd_L1 (xs : List (List Int)) (i : Int) : (List Int) := xs.getD i.toNat ([] : List Int)
theorem at_L1 {w : World} {A : Option Addr} {n : Nat} {xs : List (List Int)} (h : Kd.C (Kd.slice 3 (Kd.int .i64)) w A n xs) (i : Int) (h0 : 0 ≤ i) (h1 : i < n) : ∃ ad A0 c0, A = some ad ∧ w.cell? (ad.add i.toNat) = some (.slice A0 (rd_L1 xs i).length c0) ∧ (rd_L1 xs i).length ≤ c0 ∧ (Kd.int .i64).C w A0 (rd_L1 xs i).length (rd_L1 xs i) := by
  obtain ⟨ad, c, e, _, hK, hc0⟩ := Kd.C_get h ([] : List Int) i h0 h1; have hc : ∀ j u, c[j]? = some u → w.cell? (ad.add (i.toNat * 1 + j)) = some u := hc0; obtain ⟨A0, c0, rfl, l0, g0⟩ := hK; exact ⟨ad, A0, c0, e, by have hq := hc 0 _ rfl; rwa [Nat.mul_one, Nat.add_zero] at hq, l0, g0⟩
structure S96 where
  f0 : Int
  f1 : (List (List Int))
  f2 : (List (List Int))
def trimZ (l : List Int) : List Int := (l.reverse.dropWhile (· == 0)).reverse
theorem trimZ_snoc0 (l : List Int) : trimZ (l ++ [0]) = trimZ l := by simp [trimZ]
theorem trimZ_snoc (l : List Int) (x : Int) (h : x ≠ 0) : trimZ (l ++ [x]) = l ++ [x] := by simp [trimZ, h]
theorem trimZ_nil : trimZ [] = [] := rfl
theorem take_snoc_rd (l : List Int) (k : Nat) (h : k + 1 ≤ l.length) : l.take (k + 1) = l.take k ++ [rd l (k : Int)] := by
  rw [List.take_succ_eq_append_getElem (by omega)]
  simp [rd, List.getD_eq_getElem?_getD, List.getElem?_eq_getElem (show k < l.length by omega)]
def rangeI (n : Nat) : List Int := (List.range n).map (fun x : Nat => (x : Int))
theorem rangeI_length (n : Nat) : (rangeI n).length = n := by simp [rangeI]
theorem rangeI_succ (n : Nat) : rangeI (n + 1) = rangeI n ++ [(n : Int)] := by simp [rangeI, List.range_succ]
def fillI (k : Nat) (l : List Int) : List Int := rangeI k ++ l.drop k
theorem fillI_length (k : Nat) (l : List Int) (h : k ≤ l.length) : (fillI k l).length = l.length := by simp [fillI, rangeI_length]; omega
theorem fillI_set (k : Nat) (l : List Int) (h : k < l.length) : (fillI k l).set k (k : Int) = fillI (k + 1) l := by
  unfold fillI
  rw [List.set_append_right _ _ (by rw [rangeI_length]; exact Nat.le_refl _), rangeI_length, Nat.sub_self, rangeI_succ, List.append_assoc]
  congr 1
  rw [List.drop_eq_getElem_cons h, List.set_cons_zero]
  rfl
theorem int_mag (b : Bool) (x : Value) (W : World) : Sem.run Try.prog (Instr.field 24 (.agg #[.bool b, x]) 1) W = .ok x W := by kernel_rfl
attribute [go_sem] int_mag
theorem cell_heap {w w1 : World} {a : Addr} (e : w1.heap[a.block]? = w.heap[a.block]?) : w1.cell? a = w.cell? a := by simp only [World.cell?, e]
end Go.Proofs.Ytpkgckccfanchaa.M

namespace Go.Proofs.Ytpkgckccfanchaa.M
open Go.RowKit YtpkgckccfanchaaW.PrintWords YtpkgckccfanchaaW.PrintLast YtpkgckccfanchaaW.PrintMore
open Go.Maps (Keyed int_keyed keyOf_int_mk)
open Go.ChangeMaps (setBlock)
section
variable {P : Program} {k e t : TypeId} {W : World} {b : Nat} {es : Array MapEntry} {ck : Nat}
def KeysOk (P : Program) (k : TypeId) (es : Array MapEntry) : Prop := ∀ x ∈ es.toList, ∃ l, keyOf P k x.key = some l
theorem gm_look_none (K : Keyed P k) (ht : P.underlying t = some (.map k e)) {z : Value} (hz : (zeroValue e).run P W = .ok z W) (hb : W.heap[b]? = some (.map es ck)) (hk : KeysOk P k es) {key : Value} {l : Lit} (hkey : keyOf P k key = some l)
    (hno : ∀ x ∈ es.toList, x.key ≠ key) (c : Bool) : (Instr.lookup t (.map (some b)) key c).run P W = .ok (if c then .tuple #[z, .bool false] else z) W := by
  rcases K.find W hkey es.toList hk with ⟨h1, _⟩ | ⟨j, e0, _, h2, h3⟩
  · simp [Instr.lookup, run_underlying ht, MapKept.run_getObj_map hb, K.check W _ hkey, h1, hz, Result.andThen]
  · exact absurd h3 (hno e0 (List.mem_of_getElem? h2))
theorem gm_find (K : Keyed P k) (hk : KeysOk P k es) (hd : es.toList.Pairwise (fun x y => x.key ≠ y.key)) {key : Value} {l : Lit} (hkey : keyOf P k key = some l) {j : Nat} {e0 : MapEntry} (hj : es.toList[j]? = some e0) (he : e0.key = key) :
    (Instr.findKey k key es.toList).run P W = .ok (some (j, e0.val)) W := by
  rcases K.find W hkey es.toList hk with ⟨_, h2⟩ | ⟨i, e1, h1, h2, h3⟩
  · exact absurd he (h2 e0 (List.mem_of_getElem? hj))
  · obtain ⟨hi, e2⟩ := List.getElem?_eq_some_iff.1 h2
    obtain ⟨hj', e3⟩ := List.getElem?_eq_some_iff.1 hj
    have hij : i = j := by
      have hp := List.pairwise_iff_getElem.1 hd
      rcases Nat.lt_trichotomy i j with h | h | h
      · exact absurd (by rw [e2, e3, h3, he]) (hp i j hi hj' h)
      · exact h
      · exact absurd (by rw [e2, e3, h3, he]) (hp j i hj' hi h)
    subst hij
    rw [h2] at hj
    cases hj
    exact h1
theorem gm_look_some (K : Keyed P k) (ht : P.underlying t = some (.map k e)) (hb : W.heap[b]? = some (.map es ck)) (hk : KeysOk P k es) (hd : es.toList.Pairwise (fun x y => x.key ≠ y.key)) {key : Value} {l : Lit} (hkey : keyOf P k key = some l)
    {j : Nat} {e0 : MapEntry} (hj : es.toList[j]? = some e0) (he : e0.key = key) (c : Bool) : (Instr.lookup t (.map (some b)) key c).run P W = .ok (if c then .tuple #[e0.val, .bool true] else e0.val) W := by
  simp [Instr.lookup, run_underlying ht, MapKept.run_getObj_map hb, K.check W _ hkey, gm_find (W := W) K hk hd hkey hj he, Result.andThen]
theorem gm_store_new (K : Keyed P k) (ht : P.underlying t = some (.map k e)) (hb : W.heap[b]? = some (.map es ck)) (hk : KeysOk P k es) {key : Value} {l : Lit} (hkey : keyOf P k key = some l)
    (hno : ∀ x ∈ es.toList, x.key ≠ key) (v : Value) : (Instr.mapUpdate t (.map (some b)) key v).run P W = .ok () (setBlock W b (.map (es.push ⟨key, v, ck⟩) (ck + 1))) := by
  rcases K.find W hkey es.toList hk with ⟨h1, _⟩ | ⟨j, e0, _, h2, h3⟩
  · simp [Instr.mapUpdate, run_underlying ht, MapKept.run_getObj_map hb, K.check W false hkey, h1, MapKept.run_setObj_map _ hb, Result.andThen, setBlock]
  · exact absurd h3 (hno e0 (List.mem_of_getElem? h2))
theorem gm_store_old (K : Keyed P k) (ht : P.underlying t = some (.map k e)) (hb : W.heap[b]? = some (.map es ck)) (hk : KeysOk P k es) (hd : es.toList.Pairwise (fun x y => x.key ≠ y.key)) {key : Value} {l : Lit} (hkey : keyOf P k key = some l)
    {j : Nat} {e0 : MapEntry} (hj : es.toList[j]? = some e0) (he : e0.key = key) (v : Value) : (Instr.mapUpdate t (.map (some b)) key v).run P W = .ok () (setBlock W b (.map (es.modify j fun x => { x with key := key, val := v }) ck)) := by
  have hj2 : es[j]? = some e0 := by simpa using hj
  have hst := K.stays W hkey
  simp [Instr.mapUpdate, run_underlying ht, MapKept.run_getObj_map hb, K.check W false hkey, gm_find (W := W) K hk hd hkey hj he, hj2, he, hst, MapKept.run_setObj_map _ hb, Result.andThen, setBlock]
theorem gm_delete (K : Keyed P k) (ht : P.underlying t = some (.map k e)) (hb : W.heap[b]? = some (.map es ck)) (hk : KeysOk P k es) (hd : es.toList.Pairwise (fun x y => x.key ≠ y.key)) {key : Value} {l : Lit} (hkey : keyOf P k key = some l)
    {j : Nat} {e0 : MapEntry} (hj : es.toList[j]? = some e0) (he : e0.key = key) (ty : TypeId) : (Builtin.delete_ #[t, k] ty #[.map (some b), key]).run P W = .ok (.tuple #[]) (setBlock W b (.map (es.eraseIdxIfInBounds j) ck)) := by
  simp [Builtin.delete_, run_underlying ht, MapKept.run_getObj_map hb, K.check W _ hkey, gm_find (W := W) K hk hd hkey hj he, MapKept.run_setObj_map _ hb, Result.andThen, setBlock]
end
theorem laidOut0 : laidOutB Try.prog = true := by kernel_rfl
theorem law_int : Keyed Try.prog 3 := int_keyed Try.underlying3
theorem law_pair : Keyed Try.prog 139 := Keyed.of_law (deep_law_laid laidOut0 (m := 3) (by omega) (of_decide_eq_true (by kernel_rfl)) (by kernel_rfl) (by rw [Try.underlying139]))
theorem key_int {x : Int} (h0 : -9223372036854775808 ≤ x) (h1 : x ≤ 9223372036854775807) : keyOf Try.prog 3 (.int .i64 x) = some (.int .i64 x) := keyOf_int_mk Try.underlying3 (WalkArith.wf_i64 (by omega))
theorem key_pair {x y : Int} (h0 : -9223372036854775808 ≤ x) (h1 : x ≤ 9223372036854775807) (k0 : -9223372036854775808 ≤ y) (k1 : y ≤ 9223372036854775807) : ∃ l, keyOf Try.prog 139 (.agg #[.int .i64 x, .int .i64 y]) = some l := by
  have w0 : (Lit.int .i64 x).wf = true := WalkArith.wf_i64 (by omega)
  have w1 : (Lit.int .i64 y).wf = true := WalkArith.wf_i64 (by omega)
  have hk : Try.prog.keyType 139 = true := by kernel_rfl
  have hf : (Value.agg #[.int .i64 x, .int .i64 y]).formed Try.prog 139 = true := by kernel_rfl
  refine ⟨.string (keyBytes [.int .i64 x, .int .i64 y]), ?_⟩
  have hm : Try.prog.types.size + 1 = (Try.prog.types.size - 1) + 1 + 1 := by have : 0 < Try.prog.types.size := of_decide_eq_true (by kernel_rfl)
                                                                              omega
  have h1 : ∀ (m : Nat) (a : Int), (Lit.int .i64 a).wf = true → Try.prog.keyLits (m + 1) 3 [.int .i64 a] = some [.int .i64 a] := by
    intro m a wa
    unfold Program.keyLits
    simp [Try.underlying3, wa]
  have hc : Try.prog.cellsOf 3 = 1 := by kernel_rfl
  have hc2 : Try.prog.cellsOf 139 = 2 := by kernel_rfl
  unfold keyOf
  rw [hm, Try.underlying139]
  simp only [hk, hf, Bool.and_self, if_true]
  unfold Program.keyLits
  simp [Try.underlying139, hc2, hc, h1, Value.cells, w0, w1]
end Go.Proofs.Ytpkgckccfanchaa.M

namespace Go.Proofs.Ytpkgckccfanchaa.M
open Go.RowKit YtpkgckccfanchaaW.PrintWords YtpkgckccfanchaaW.PrintLast YtpkgckccfanchaaW.PrintMore
open Go.ChangeMaps (setBlock)
open Sims
set_option linter.unusedVariables false
structure Chg (S : Nat → Prop) (w w' : World) : Prop where
  os : w'.os = w.os
  tape : w'.tape = w.tape
  output : w'.output = w.output
  size : w.heap.size ≤ w'.heap.size
  keep : ∀ i, i < w.heap.size → ¬ S i → w'.heap[i]? = w.heap[i]?
namespace Chg
variable {S S' : Nat → Prop} {w w1 w2 : World}
theorem refl (S : Nat → Prop) (w : World) : Chg S w w := ⟨rfl, rfl, rfl, Nat.le_refl _, fun _ _ _ => rfl⟩
theorem trans (h : Chg S w w1) (k : Chg S' w1 w2) (hs : ∀ b, S' b → S b ∨ w.heap.size ≤ b) : Chg S w w2 :=
  ⟨k.os.trans h.os, k.tape.trans h.tape, k.output.trans h.output, Nat.le_trans h.size k.size, fun i hi hn => (k.keep i (Nat.lt_of_lt_of_le hi h.size) (fun hS => (hs i hS).elim hn (fun h => by omega))).trans (h.keep i hi hn)⟩
theorem mono (h : Chg S w w1) (hs : ∀ b, S b → S' b) : Chg S' w w1 := ⟨h.os, h.tape, h.output, h.size, fun i hi hn => h.keep i hi (fun hS => hn (hs i hS))⟩
theorem of_below (h : Below w.heap.size w w1) : Chg S w w1 := ⟨h.os, h.tape, h.output, h.size, fun i hi _ => h.block i hi⟩
theorem below {B : Nat} (h : Chg S w w1) (hB : B ≤ w.heap.size) (hs : ∀ b, S b → B ≤ b) : Below B w w1 := ⟨h.os, h.tape, h.output, h.size, fun i hi => h.keep i (by omega) (fun hS => by have := hs i hS; omega)⟩
theorem of_grown {row : Option Nat} (h : w.grownBy w1 row) : Chg (fun b => some b = row) w w1 := ⟨h.os, h.tape, h.output, h.size, fun i hi hn => h.block i hi hn⟩
theorem alloc (w : World) (o : Obj) : Chg S w (w.alloc o) := of_below (pzB (Below.refl _ _) o)
theorem drew (w : World) : Chg S w w.drew := of_below (below_drew (Below.refl _ _))
theorem drewN (w : World) (m : Nat) : Chg S w (w.drewN m) := of_below (pzA (Below.refl _ _) m)
theorem block (w : World) (b : Nat) (o : Obj) : Chg (fun k => k = b) w (setBlock w b o) := ⟨rfl, rfl, rfl, by simp [setBlock], fun i _ hn => by simp only [setBlock]; exact Array.getElem?_setIfInBounds_ne (fun e => hn e.symm)⟩
theorem cell (w : World) (a : Addr) (v : Value) : Chg (fun k => k = a.block) w (w.setCell a v) := ⟨rfl, rfl, rfl, by simp [World.setCell], fun i _ hn => Below.heap_setCell w a v i hn⟩
end Chg
abbrev PV (w : World) (ok : Nat → Prop) (v : Value) (p : List Int) : Prop := Kd.V (Kd.int .i64) 3 w 0 ok v p
def PN (N : Nat) (w : World) (v : Value) (p : List Int) : Prop := ∃ b, N ≤ b ∧ b < w.heap.size ∧ PV w (fun k => k = b) v p
theorem PV.chg {S ok : Nat → Prop} {w w1 : World} {v : Value} {p : List Int} (h : PV w ok v p) (hc : Chg S w w1) (hd : ∀ b, ok b → ¬ S b) : PV w1 ok v p := Kd.V_step h (fun k hk hlt => hc.keep k hlt (hd k hk))
theorem PV.below {ok : Nat → Prop} {w w1 : World} {v : Value} {p : List Int} (h : PV w ok v p) (hc : Below w.heap.size w w1) : PV w1 ok v p := Kd.V_below h hc
theorem PV.mono {ok ok' : Nat → Prop} {w : World} {v : Value} {p : List Int} (h : PV w ok v p) (hs : ∀ b, ok b → ok' b) : PV w ok' v p := Kd.V_mono h hs
theorem PV.read {ok : Nat → Prop} {w : World} {v : Value} {p : List Int} (h : PV w ok v p) : ∃ A c, v = .slice A p.length c ∧ p.length ≤ c ∧ Kd.C (Kd.int .i64) w A p.length p := by
  obtain ⟨A, c, e, hc, hF⟩ := h
  exact ⟨A, c, e, hc, Kd.F_now hF⟩
theorem PN.pv {N : Nat} {w : World} {v : Value} {p : List Int} (h : PN N w v p) {ok : Nat → Prop} (hok : ∀ b, N ≤ b → b < w.heap.size → ok b) : PV w ok v p := by
  obtain ⟨b, h1, h2, h3⟩ := h
  exact h3.mono (fun k hk => by subst hk; exact hok k h1 h2)
theorem PN.below {N : Nat} {w w1 : World} {v : Value} {p : List Int} (h : PN N w v p) (hb : Below w.heap.size w w1) : PN N w1 v p := by
  obtain ⟨b, h1, h2, h3⟩ := h
  exact ⟨b, h1, Nat.lt_of_lt_of_le h2 hb.size, h3.below hb⟩
theorem PN.of_R {N : Nat} {w : World} {ok : Nat → Prop} {v : Value} {p : List Int} (h : Kd.R (Kd.int .i64) 3 w N ok v p) (hp : 0 < p.length) : PN N w v p := by
  obtain ⟨g, cap, e, h1, h2, _⟩ := Kd.R_form h hp
  refine ⟨g, h1, h2, ?_⟩
  have := Kd.R_V (base' := 0) (Kd.R_tight rfl h)
  refine Kd.V_mono this (fun k hk => ?_)
  rw [e] at hk
  simpa [Value.ownBlock, eq_comm] using hk
theorem PN.lower {N N' : Nat} {w : World} {v : Value} {p : List Int} (h : PN N w v p) (hN : N' ≤ N) : PN N' w v p := by
  obtain ⟨b, h1, h2, h3⟩ := h
  exact ⟨b, Nat.le_trans hN h1, h2, h3⟩
theorem PN.any {N : Nat} {w : World} {v : Value} {p : List Int} (h : PN N w v p) : PV w (fun _ => True) v p := h.pv (fun _ _ _ => trivial)
theorem own_same {w w' : World} {B : Nat} {e : TypeId} {s n : Nat} {v : Value} {xs : List Value} (h : w.ownsRow B e s v n xs) (hk : ∀ g, v.ownBlock = some g → w'.heap[g]? = w.heap[g]?) : w'.ownsRow B e s v n xs := by
  refine ⟨h.1, ?_⟩
  rcases h.2 with ⟨h1, h2⟩ | ⟨g, cap, cur, h1, h2, h3, h4⟩
  · exact .inl ⟨h1, h2⟩
  · refine .inr ⟨g, cap, cur, h1, h2, ?_, h4⟩
    rw [hk g (by rw [h1]; rfl)]
    exact h3
theorem own_kind {w : World} {B : Nat} {e : TypeId} {s n : Nat} {v : Value} {xs : List Value} (h : w.ownsRow B e s v n xs) {g : Nat} (hg : v.ownBlock = some g) : B ≤ g ∧ ∃ cs, w.heap[g]? = some (.cells cs e (0, 0)) := by
  rcases h.2 with ⟨h1, h2⟩ | ⟨g', cap, cur, h1, h2, h3, h4⟩
  · rw [h1] at hg; simp [Value.ownBlock] at hg
  · rw [h1] at hg
    have : g' = g := by simpa [Value.ownBlock] using hg
    subst this
    exact ⟨h2, cur, h3⟩
structure LC where
  lb : Nat
  gv : Value
  ov : Value
  rb : Nat
  tb : Nat
def LC.Blk (c : LC) (b : Nat) : Prop := b = c.lb ∨ c.gv.ownBlock = some b ∨ c.ov.ownBlock = some b ∨ b = c.rb ∨ b = c.tb
def RepsAt (w : World) (PB : Nat → Prop) (b : Nat) (reps : List (Int × List Int)) : Prop :=
  ∃ es ck, w.heap[b]? = some (.map es ck) ∧ es.toList.map (·.key) = reps.map (fun q => Value.int .i64 q.1) ∧ ∀ (j : Nat) q, reps[j]? = some q → ∃ x, es.toList[j]? = some x ∧ PV w PB x.val q.2
def TodoAt (w : World) (b : Nat) (todo : List (Int × Int)) : Prop :=
  ∃ es ck, w.heap[b]? = some (.map es ck) ∧ es.toList.map (fun x => (x.key, x.val)) = todo.map (fun q => (Value.agg #[.int .i64 q.1, .int .i64 q.2], Value.bool true))
def GensAt (w : World) (B : Nat) (PB : Nat → Prop) (v : Value) (gens : List (List Int)) : Prop :=
  ∃ gs : List Value, w.ownsRow B 28 1 v gens.length gs ∧ ∀ (j : Nat) p, gens[j]? = some p → ∃ u, gs[j]? = some u ∧ PV w PB u p
structure LvX (w : World) (B : Nat) (PB : Nat → Prop) (c : LC) (pt : Int) (gens : List (List Int)) (orb : List Int) (reps : List (Int × List Int)) (todo : List (Int × Int)) : Prop where
  cells : w.heap[c.lb]? = some (.cells #[.int .i64 pt, c.gv, c.ov, .map (some c.rb), .map (some c.tb)] 111 (0, 0))
  gens : GensAt w B PB c.gv gens
  orb : w.ownsRow B 3 1 c.ov orb.length (nums .i64 orb)
  reps : RepsAt w PB c.rb reps
  todo : TodoAt w c.tb todo
  base : B ≤ c.lb ∧ B ≤ c.rb ∧ B ≤ c.tb
  free : ∀ b, c.Blk b → ¬ PB b
  ne : c.rb ≠ c.tb
abbrev LvAt (w : World) (B : Nat) (PB : Nat → Prop) (c : LC) (l : Lv) : Prop := LvX w B PB c l.point l.gens (dom l) l.reps l.todo
theorem RepsAt.keep {w w' : World} {PB : Nat → Prop} {b : Nat} {reps : List (Int × List Int)} (h : RepsAt w PB b reps) (hb : w'.heap[b]? = w.heap[b]?) (hp : ∀ b, PB b → b < w.heap.size → w'.heap[b]? = w.heap[b]?) : RepsAt w' PB b reps := by
  obtain ⟨es, ck, h1, h2, h3⟩ := h
  refine ⟨es, ck, hb.trans h1, h2, fun j q hq => ?_⟩
  obtain ⟨x, hx, hv⟩ := h3 j q hq
  exact ⟨x, hx, Kd.V_step hv hp⟩
theorem RepsAt.mono {w : World} {PB PB' : Nat → Prop} {b : Nat} {reps : List (Int × List Int)} (h : RepsAt w PB b reps) (hp : ∀ b, PB b → PB' b) : RepsAt w PB' b reps := by
  obtain ⟨es, ck, h1, h2, h3⟩ := h
  exact ⟨es, ck, h1, h2, fun j q hq => by
    obtain ⟨x, hx, hv⟩ := h3 j q hq
    exact ⟨x, hx, hv.mono hp⟩⟩
theorem GensAt.keep {w w' : World} {B : Nat} {PB : Nat → Prop} {v : Value} {gens : List (List Int)} (h : GensAt w B PB v gens) (hb : ∀ g, v.ownBlock = some g → w'.heap[g]? = w.heap[g]?) (hp : ∀ b, PB b → b < w.heap.size → w'.heap[b]? = w.heap[b]?) : GensAt w' B PB v gens := by
  obtain ⟨gs, h1, h2⟩ := h
  refine ⟨gs, own_same h1 hb, fun j p hj => ?_⟩
  obtain ⟨u, hu, hv⟩ := h2 j p hj
  exact ⟨u, hu, Kd.V_step hv hp⟩
theorem GensAt.mono {w : World} {B : Nat} {PB PB' : Nat → Prop} {v : Value} {gens : List (List Int)} (h : GensAt w B PB v gens) (hp : ∀ b, PB b → PB' b) : GensAt w B PB' v gens := by
  obtain ⟨gs, h1, h2⟩ := h
  exact ⟨gs, h1, fun j p hj => by
    obtain ⟨u, hu, hv⟩ := h2 j p hj
    exact ⟨u, hu, hv.mono hp⟩⟩
theorem lt_of_some {w : World} {b : Nat} {o : Obj} (h : w.heap[b]? = some o) : b < w.heap.size := (Array.getElem?_eq_some_iff.1 h).1
namespace LvX
variable {w w' : World} {B : Nat} {PB PB' : Nat → Prop} {c : LC} {pt : Int} {gens : List (List Int)} {orb : List Int} {reps : List (Int × List Int)} {todo : List (Int × Int)}
theorem keep (h : LvX w B PB c pt gens orb reps todo) (hk : ∀ b, c.Blk b ∨ PB b → b < w.heap.size → w'.heap[b]? = w.heap[b]?) (hlt : ∀ b, c.Blk b → b < w.heap.size) : LvX w' B PB c pt gens orb reps todo := by
  have hb : ∀ b, c.Blk b → w'.heap[b]? = w.heap[b]? := fun b hb => hk b (.inl hb) (hlt b hb)
  have hp : ∀ b, PB b → b < w.heap.size → w'.heap[b]? = w.heap[b]? := fun b hb => hk b (.inr hb)
  refine ⟨(hb _ (.inl rfl)).trans h.cells, h.gens.keep (fun g hg => hb g (.inr (.inl hg))) hp, own_same h.orb (fun g hg => hb g (.inr (.inr (.inl hg)))), h.reps.keep (hb _ (.inr (.inr (.inr (.inl rfl))))) hp, ?_, h.base, h.free, h.ne⟩
  obtain ⟨es, ck, h1, h2⟩ := h.todo
  exact ⟨es, ck, (hb _ (.inr (.inr (.inr (.inr rfl))))).trans h1, h2⟩
theorem mono (h : LvX w B PB c pt gens orb reps todo) (hp : ∀ b, PB b → PB' b) (hf : ∀ b, c.Blk b → ¬ PB' b) : LvX w B PB' c pt gens orb reps todo :=
  ⟨h.cells, h.gens.mono hp, h.orb, h.reps.mono hp, h.todo, h.base, hf, h.ne⟩
theorem kind (h : LvX w B PB c pt gens orb reps todo) {b : Nat} (hb : c.Blk b) : B ≤ b ∧ ((∃ cs t, w.heap[b]? = some (.cells cs t (0, 0)) ∧ (t = 111 ∨ t = 28 ∨ t = 3)) ∨ ∃ es ck, w.heap[b]? = some (.map es ck)) := by
  rcases hb with rfl | hb | hb | rfl | rfl
  · exact ⟨h.base.1, .inl ⟨_, _, h.cells, .inl rfl⟩⟩
  · obtain ⟨gs, h1, _⟩ := h.gens
    obtain ⟨h2, cs, h3⟩ := own_kind h1 hb
    exact ⟨h2, .inl ⟨cs, _, h3, .inr (.inl rfl)⟩⟩
  · obtain ⟨h2, cs, h3⟩ := own_kind h.orb hb
    exact ⟨h2, .inl ⟨cs, _, h3, .inr (.inr rfl)⟩⟩
  · obtain ⟨es, ck, h1, _⟩ := h.reps
    exact ⟨h.base.2.1, .inr ⟨es, ck, h1⟩⟩
  · obtain ⟨es, ck, h1, _⟩ := h.todo
    exact ⟨h.base.2.2, .inr ⟨es, ck, h1⟩⟩
theorem lt (h : LvX w B PB c pt gens orb reps todo) {b : Nat} (hb : c.Blk b) : b < w.heap.size := by
  rcases (h.kind hb).2 with ⟨_, _, h1, _⟩ | ⟨_, _, h1⟩ <;> exact lt_of_some h1
theorem chg {S : Nat → Prop} (h : LvX w B PB c pt gens orb reps todo) (hc : Chg S w w') (hd : ∀ b, c.Blk b ∨ PB b → ¬ S b) : LvX w' B PB c pt gens orb reps todo :=
  h.keep (fun b hb hlt => hc.keep b hlt (hd b hb)) (fun _ hb => h.lt hb)
end LvX
abbrev LC.ptr (c : LC) : Value := .pointer (some ⟨c.lb, 0, none⟩)
structure GrAt (w : World) (B : Nat) (PB : Nat → Prop) (g n : Nat) (av : Value) (cs : List LC) (ls : List Lv) : Prop where
  cells : w.heap[g]? = some (.cells #[.int .i64 (n : Int), av] 106 (0, 0))
  arr : w.ownsRow B 107 1 av cs.length (cs.map LC.ptr)
  len : cs.length = ls.length
  lv : ∀ (j : Nat) c l, cs[j]? = some c → ls[j]? = some l → LvAt w B PB c l
  apart : cs.Pairwise (fun c d => ∀ b, c.Blk b → ¬ d.Blk b)
  base : B ≤ g
  free : ¬ PB g ∧ ∀ b, av.ownBlock = some b → ¬ PB b
namespace GrAt
variable {w w' : World} {B g n : Nat} {PB PB' : Nat → Prop} {av : Value} {cs : List LC} {ls : List Lv}
theorem at_ (h : GrAt w B PB g n av cs ls) {j : Nat} {c : LC} (hc : cs[j]? = some c) : ∃ l, ls[j]? = some l ∧ LvAt w B PB c l := by
  have hj : j < ls.length := by rw [← h.len]; exact (List.getElem?_eq_some_iff.1 hc).1
  exact ⟨ls[j], List.getElem?_eq_getElem hj, h.lv j c _ hc (List.getElem?_eq_getElem hj)⟩
theorem mem (h : GrAt w B PB g n av cs ls) {c : LC} (hc : c ∈ cs) : ∃ l, l ∈ ls ∧ LvAt w B PB c l := by
  obtain ⟨j, hj, e⟩ := List.getElem_of_mem hc
  obtain ⟨l, hl, h1⟩ := h.at_ (j := j) (by rw [List.getElem?_eq_getElem hj, e])
  exact ⟨l, List.mem_of_getElem? hl, h1⟩
theorem own_ne (h : GrAt w B PB g n av cs ls) {c : LC} (hc : c ∈ cs) {b : Nat} (hb : c.Blk b) : b ≠ g ∧ av.ownBlock ≠ some b := by
  obtain ⟨l, _, hl⟩ := h.mem hc
  have hk := (hl.kind hb).2
  constructor
  · rintro rfl
    rcases hk with ⟨_, t, h1, h2⟩ | ⟨_, _, h1⟩
    · rw [h.cells] at h1
      simp only [Option.some.injEq, Obj.cells.injEq] at h1
      rw [← h1.2.1] at h2
      simp at h2
    · rw [h.cells] at h1; simp at h1
  · intro e
    obtain ⟨_, cs', h3⟩ := own_kind h.arr e
    rcases hk with ⟨_, t, h1, h2⟩ | ⟨_, _, h1⟩
    · rw [h3] at h1
      simp only [Option.some.injEq, Obj.cells.injEq] at h1
      rw [← h1.2.1] at h2
      simp at h2
    · rw [h3] at h1; simp at h1
theorem av_ne (h : GrAt w B PB g n av cs ls) : av.ownBlock ≠ some g := by
  intro e
  obtain ⟨_, cs', h3⟩ := own_kind h.arr e
  rw [h.cells] at h3
  simp at h3
theorem chg {S : Nat → Prop} (h : GrAt w B PB g n av cs ls) (hc : Chg S w w') (hg : ¬ S g) (ha : ∀ b, av.ownBlock = some b → ¬ S b) (hl : ∀ c ∈ cs, ∀ b, c.Blk b → ¬ S b) (hp : ∀ b, PB b → ¬ S b) : GrAt w' B PB g n av cs ls := by
  refine ⟨(hc.keep g (lt_of_some h.cells) hg).trans h.cells, own_same h.arr (fun b hb => ?_), h.len, fun j c l h1 h2 => (h.lv j c l h1 h2).chg hc (fun b hb => hb.elim (hl c (List.mem_of_getElem? h1) b) (hp b)), h.apart, h.base, h.free⟩
  obtain ⟨_, _, h3⟩ := own_kind h.arr hb
  exact hc.keep b (lt_of_some h3) (ha b hb)
theorem below (h : GrAt w B PB g n av cs ls) (hb : Below w.heap.size w w') : GrAt w' B PB g n av cs ls :=
  h.chg (Chg.of_below (S := fun _ => False) hb) id (fun _ _ => id) (fun _ _ _ _ => id) (fun _ _ => id)
theorem mono (h : GrAt w B PB g n av cs ls) (hp : ∀ b, PB b → PB' b) (hg : ¬ PB' g) (ha : ∀ b, av.ownBlock = some b → ¬ PB' b) (hl : ∀ c ∈ cs, ∀ b, c.Blk b → ¬ PB' b) : GrAt w B PB' g n av cs ls :=
  ⟨h.cells, h.arr, h.len, fun j c l h1 h2 => (h.lv j c l h1 h2).mono hp (hl c (List.mem_of_getElem? h1)), h.apart, h.base, ⟨hg, ha⟩⟩
end GrAt
end Go.Proofs.Ytpkgckccfanchaa.M

namespace Go.Proofs.Ytpkgckccfanchaa.M
open Go.RowKit YtpkgckccfanchaaW.PrintWords YtpkgckccfanchaaW.PrintLast YtpkgckccfanchaaW.PrintMore
attribute [local go_sem] pzW pzX pzY pzZ pzS pzT pzU pzV
set_option linter.unusedVariables false
set_option linter.unusedSimpArgs false
def sc_then.l0 : Nat → List Int → List Int → List Int → Int → Int → Option (List Int)
  | 0, _, _, _, _, _ => none
  | k + 1, x1, x5, x11, x12, x13 => if x13 < x12 then (if 0 ≤ x13 then (if x13 < (x11.length : Int) then (if 0 ≤ (rd x11 x13) then (if (rd x11 x13) < (x1.length : Int) then (if x13 < (x5.length : Int) then (sc_then.l0 k x1 (x5.set (x13 : Int).toNat (rd x1 (rd x11 x13))) x11 x12 (wrap64 (x13 + 1))) else (none)) else (none)) else (none)) else (none)) else (none)) else (some x5)
def sc_then.f (k : Nat) (l0 : List Int) (l1 : List Int) : Option (List Int) := if 0 ≤ (l0.length : Int) then (if ((l0.length : Int) : Int).toNat ≤ 35184372088832 then (sc_then.l0 k l1 (List.replicate ((l0.length : Int) : Int).toNat 0) l0 (l0.length : Int) 0) else (none)) else (none)
theorem sc_then.mono_l : ∀ k, (∀ y0 y1 y2 y3 y4, LeO (sc_then.l0 k y0 y1 y2 y3 y4) (sc_then.l0 (k + 1) y0 y1 y2 y3 y4))
  | 0 => fun _ _ _ _ _ r h => by simp [sc_then.l0] at h
  | k + 1 => by
    have ih0 := sc_then.mono_l k
    · intro y0 y1 y2 y3 y4
      unfold sc_then.l0
      repeat' first
      | (with_reducible exact ih0 _ _ _ _ _)
      | (with_reducible exact LeO.refl _)
      | (with_reducible exact LeO.none _)
      | (with_reducible refine LeO.ite ?_ ?_)
      | (with_reducible refine LeO.bind ?_ (fun _ => ?_))
      | exact ih0 _ _ _ _ _
      | exact LeO.none _
      | refine LeO.ite ?_ ?_
      | refine LeO.bind ?_ (fun _ => ?_)
theorem sc_then.mono : ∀ a0 a1 k, LeO (sc_then.f k a0 a1) (sc_then.f (k + 1) a0 a1) := by
  intro a0 a1 k; have ih0 := sc_then.mono_l k
  unfold sc_then.f
  repeat' first
      | (with_reducible exact ih0 _ _ _ _ _)
      | (with_reducible exact LeO.refl _)
      | (with_reducible exact LeO.none _)
      | (with_reducible refine LeO.ite ?_ ?_)
      | (with_reducible refine LeO.bind ?_ (fun _ => ?_))
      | exact ih0 _ _ _ _ _
      | exact LeO.none _
      | refine LeO.ite ?_ ?_
      | refine LeO.bind ?_ (fun _ => ?_)
set_option maxHeartbeats 8000000 in
set_option maxRecDepth 100000 in
theorem sc_then.calls (k : Nat) (A0 : Option Addr) (c0 : Nat) (l0 : List Int) (A1 : Option Addr) (c1 : Nat) (l1 : List Int) (r : List Int) (w : World) (hr0 : Kd.C (Kd.int .i64) w A0 l0.length l0) (hc0 : l0.length ≤ c0) (hr1 : Kd.C (Kd.int .i64) w A1 l1.length l1) (hc1 : l1.length ≤ c1) (h : sc_then.f k l0 l1 = some r) :
    Calls Try.prog 78 #[.slice A0 l0.length c0, .slice A1 l1.length c1] w fun e w' => ∃ v0_ : Value, e = .returned (v0_) ∧ Kd.R (Kd.int .i64) 3 w' w.heap.size (fun _ => True) v0_ r ∧ Below w.heap.size w w' := by
  have HR0 := Aside0.mk hr0; have HC0 := Aside0.mk hc0; clear hr0 hc0; have HR1 := Aside0.mk hr1; have HC1 := Aside0.mk hc1; clear hr1 hc1; have HB := Aside0.mk (Below.refl w.heap.size w); have H : (if 0 ≤ (l0.length : Int) then (if ((l0.length : Int) : Int).toNat ≤ 35184372088832 then (sc_then.l0 k l1 (List.replicate ((l0.length : Int) : Int).toNat 0) l0 (l0.length : Int) 0) else (none)) else (none)) = some r := h; clear h
  by_cases c3 : 0 ≤ (l0.length : Int)
  · rw [if_pos c3] at H
    have c3b0 := eq_true c3; have c3b1 : decide (0 ≤ (l0.length : Int)) = true := decide_eq_true c3; clear c3
    by_cases c4 : ((l0.length : Int) : Int).toNat ≤ 35184372088832
    · rw [if_pos c4] at H
      have c4b0 := eq_true c4; have c4b1 : decide (((l0.length : Int) : Int).toNat ≤ 35184372088832) = true := decide_eq_true c4; clear c4
      obtain ⟨y115, hy115⟩ : ∃ y_ : List Int, y_ = (List.replicate ((l0.length : Int) : Int).toNat 0) := ⟨_, rfl⟩
      replace H : (sc_then.l0 k l1 y115 l0 (l0.length : Int) 0) = some r := by first | (rw [hy115]; with_reducible exact H) | (have H2_ := (Option.bind_some _ _).symm.trans H; rw [hy115]; with_reducible exact H2_) | (have H2_ := (Option.bind_some _ _).symm.trans H; with_reducible exact H2_) | with_reducible exact H | (rw [hy115]; exact H) | exact H
      have Ny115 := Aside0.mk hy115; clear hy115; have H' := Aside0.mk H; clear H
      go_enter Try.func78, Try.ntmps78
      go_wp2_with (first | ((with_reducible refine pzQ (N := 10) rfl ?_); refine Kd.R_make (Kd.int .i64) _ 3 rfl (N := 10) rfl 28 _ _ rfl (l0.length : Int) rfl rfl Try.underlying28 (.int .i64 0) 8 info3 rfl (by decide) (by omega) 0 (ok := fun _ => True) (okp := fun _ => True) rfl (fun _ hk => hk) trivial (of_decide_eq_true (by first | (with_reducible assumption) | assumption)) (Nat.le_trans (Nat.mul_le_mul_right _ (of_decide_eq_true (by first | (with_reducible assumption) | assumption) : (l0.length : Int).toNat ≤ 35184372088832)) (by omega)) (Below.refl _ _) (Nat.le_refl _) ?_; intro v116 w5 ho6 hb hg_ hnew_; clear hg_ hnew_; (first | rw [← Ny115.out] at ho6 | (simp only [Int.reduceToNat] at ho6; rw [← Ny115.out] at ho6)); have n0_ := Aside0.mk (Kd.R_lower ho6 (pzJ (by repeat (first | (with_reducible first | exact HB.out | apply pzB | apply pzA | apply pzC) | exact HB.out)))); have n1_ := Aside0.mk (pzL (by repeat (first | (with_reducible first | exact HB.out | apply pzB | apply pzA | apply pzC) | exact HB.out)) hb); clear HB; have HO117 := n0_; have HB := n1_; clear n0_ n1_; clear hb ho6))
      go_loopg [13] k (fun kq v13 w' => ∃ (x5_1 : List Int) (x13_1 : Int), v13 = .int .i64 x13_1 ∧ Aside0 (sc_then.l0 kq l1 x5_1 l0 (l0.length : Int) x13_1 = some r) ∧ Aside0 (kq ≤ k) ∧ Aside0 (Kd.R (Kd.int .i64) 3 w' w.heap.size (fun _ => True) v116 x5_1) ∧ Aside0 (Below w.heap.size w w'))
      case atStart => exact ⟨(y115), (0), (by first | rfl | (simp; done) | (simp [*]; done)), H', ⟨Nat.le_refl _⟩, ⟨by (with_reducible repeat (first | apply Kd.R_alloc | apply Kd.R_drewN | apply Kd.R_drew)); exact HO117.out⟩, ⟨by repeat (first | (with_reducible first | exact HB.out | apply pzB | apply pzA | apply pzC) | exact HB.out)⟩⟩
      case round =>
        clear H'
        try clear c1
        try clear p2
        try clear c3
        try clear c3b0
        try clear c3b1
        try clear c4
        try clear c4b0
        try clear c4b1
        obtain ⟨x5_1, x13_1, rfl, HA, HK1, HO_5, HB⟩ := hrel; cases gk with
        | zero => exact absurd HA.out (by simp [sc_then.l0])
        | succ k1 =>
          have H := HA.out; clear HA
          simp only [sc_then.l0] at H
          by_cases c7 : x13_1 < (l0.length : Int)
          · rw [if_pos c7] at H
            have c7b0 : decide (x13_1 < (l0.length : Int)) = true := decide_eq_true c7; clear c7
            by_cases c8 : 0 ≤ x13_1
            · rw [if_pos c8] at H
              have c8b0 : decide (0 ≤ x13_1) = true := decide_eq_true c8; clear c8
              by_cases c9 : x13_1 < (l0.length : Int)
              · rw [if_pos c9] at H
                have c9b0 : decide (x13_1 < (l0.length : Int)) = true := decide_eq_true c9; clear c9
                by_cases c10 : 0 ≤ (rd l0 x13_1)
                · rw [if_pos c10] at H
                  have c10b0 : decide (0 ≤ (rd l0 x13_1)) = true := decide_eq_true c10; clear c10
                  by_cases c11 : (rd l0 x13_1) < (l1.length : Int)
                  · rw [if_pos c11] at H
                    have c11b0 : decide ((rd l0 x13_1) < (l1.length : Int)) = true := decide_eq_true c11; clear c11
                    by_cases c12 : x13_1 < (x5_1.length : Int)
                    · rw [if_pos c12] at H
                      have c12b0 : decide (x13_1 < (x5_1.length : Int)) = true := decide_eq_true c12; clear c12
                      obtain ⟨y120, hy120⟩ : ∃ y_ : List Int, y_ = (x5_1.set (x13_1 : Int).toNat (rd l1 (rd l0 x13_1))) := ⟨_, rfl⟩
                      replace H : (sc_then.l0 k1 l1 y120 l0 (l0.length : Int) (wrap64 (x13_1 + 1))) = some r := by first | (rw [hy120]; with_reducible exact H) | (have H2_ := (Option.bind_some _ _).symm.trans H; rw [hy120]; with_reducible exact H2_) | (have H2_ := (Option.bind_some _ _).symm.trans H; with_reducible exact H2_) | with_reducible exact H | (rw [hy120]; exact H) | exact H
                      have Ny120 := Aside0.mk hy120; clear hy120; have H' := Aside0.mk H; clear H; have p118 : 0 ≤ (x13_1 : Int) := of_decide_eq_true (by first | (with_reducible assumption) | assumption); have q118 : x13_1 < (l0.length : Int) := of_decide_eq_true (by first | (with_reducible assumption) | assumption); obtain ⟨ad118, e118, hx118_0⟩ := Kd.at_int HR0.out x13_1 p118 q118; cases e118; replace hx118_0 := (HB.out.cell (World.block_lt_of_cell? w _ hx118_0)).trans hx118_0; replace p118 := eq_true p118; replace q118 := eq_true q118; have p119 : 0 ≤ ((rd l0 x13_1) : Int) := of_decide_eq_true (by first | (with_reducible assumption) | assumption); have q119 : (rd l0 x13_1) < (l1.length : Int) := of_decide_eq_true (by first | (with_reducible assumption) | assumption); obtain ⟨ad119, e119, hx119_0⟩ := Kd.at_int HR1.out (rd l0 x13_1) p119 q119; cases e119; replace hx119_0 := (HB.out.cell (World.block_lt_of_cell? w _ hx119_0)).trans hx119_0; replace p119 := eq_true p119; replace q119 := eq_true q119; have p13 : 0 ≤ (x13_1 : Int) := of_decide_eq_true (by first | (with_reducible assumption) | assumption); have q13 : (x13_1 : Int) < ((x5_1.length : Int) : Int) := of_decide_eq_true (by first | (with_reducible assumption) | assumption); obtain ⟨go13, co13, eo13, gb13, gl13, cl13, HG13⟩ := Kd.R_form HO_5.out (by omega)
                      (first | cases eo13 | (injection eo13 with ea_ en_ ec_; (first | subst ea_ | (injection ea_ with ea_; subst ea_)); subst ec_; clear en_))
                      have GB13 := Aside0.mk gb13; have GG13 := Aside0.mk HG13; clear gb13 gl13 HG13; obtain ⟨hx13_0, hf13_0⟩ := Kd.R_celln 0 HO_5.out (x13_1 : Int) p13 q13; replace p13 := eq_true p13; replace q13 := eq_true q13; have HP14 := Kd.R_putg HO_5.out (x13_1 : Int) (rd l1 (rd l0 x13_1))
                      go_wp2_with (first | ((with_reducible refine gate_store (t := 3) (p := 24) rfl ?_); refine store_event (t := 3) (p := 24) (v := ?vo_w15) (w1 := (wr.setCell ⟨go13, (x13_1 : Int).toNat, none⟩ (.int .i64 (rd l1 (rd l0 x13_1))))) ?hg ?ho ?hn ?hr ?_; (case ho => rfl); (case hg => rfl); (case hn => rfl); (case hr => first | (go_simp; done) | (go_simp; rfl)); intro w15 hw; have hg : wr.grownBy w15 (some go13) := (by rw [hw]; exact HP14.2); have hp_ : Kd.R (Kd.int .i64) 3 w15 w.heap.size (fun _ => True) (.slice (some ⟨go13, 0, none⟩) x5_1.length co13) y120 := (by rw [hw, Ny120.out]; exact HP14.1); clear HP14; have n0_ := Aside0.mk (hp_); have n1_ := Aside0.mk ((by rw [hw]; exact pzD (HB.out) GB13.out : Below w.heap.size w w15)); clear HO_5; clear HB; have HO_5 := n0_; have HB := n1_; clear n0_ n1_; clear hg hw hp_))
                      go_roundg k1
                      case measure => have := HK1.out; omega
                      case rel => exact ⟨(y120), (wrap64 (x13_1 + 1)), (by first | rfl | (simp; done) | (simp [*]; done)), H', ⟨by have := HK1.out; omega⟩, ⟨by (with_reducible repeat (first | apply Kd.R_alloc | apply Kd.R_drewN | apply Kd.R_drew)); exact HO_5.out⟩, ⟨by repeat (first | (with_reducible first | exact HB.out | apply pzB | apply pzA | apply pzC) | exact HB.out)⟩⟩
                    · rw [if_neg c12] at H
                      exact absurd H (by simp)
                  · rw [if_neg c11] at H
                    exact absurd H (by simp)
                · rw [if_neg c10] at H
                  exact absurd H (by simp)
              · rw [if_neg c9] at H
                exact absurd H (by simp)
            · rw [if_neg c8] at H
              exact absurd H (by simp)
          · rw [if_neg c7] at H
            have c7b0 : decide (x13_1 < (l0.length : Int)) = false := decide_eq_false c7; clear c7; obtain rfl := Option.some.inj H
            go_wp2
            go_ret
            exact ⟨_, by first | rfl | (simp [pzN, pzM] <;> rfl) | (simp [*, pzN, pzM] <;> rfl), by (with_reducible repeat (first | apply Kd.R_alloc | apply Kd.R_drewN | apply Kd.R_drew)); exact HO_5.out, by repeat (first | (with_reducible first | exact HB.out | apply pzB | apply pzA | apply pzC) | exact HB.out)⟩
    · rw [if_neg c4] at H
      exact absurd H (by simp)
  · rw [if_neg c3] at H
    exact absurd H (by simp)
end Go.Proofs.Ytpkgckccfanchaa.M

namespace Go.Proofs.Ytpkgckccfanchaa.M
open Go.RowKit YtpkgckccfanchaaW.PrintWords YtpkgckccfanchaaW.PrintLast YtpkgckccfanchaaW.PrintMore
attribute [local go_sem] pzW pzX pzY pzZ pzS pzT pzU pzV
set_option linter.unusedVariables false
set_option linter.unusedSimpArgs false
def sc_back.l0 : Nat → List Int → List Int → Int → Int → Option (List Int)
  | 0, _, _, _, _ => none
  | k + 1, x3, x9, x10, x11 => if x11 < x10 then (if 0 ≤ x11 then (if x11 < (x9.length : Int) then (if 0 ≤ (rd x9 x11) then (if (rd x9 x11) < (x3.length : Int) then (sc_back.l0 k (x3.set ((rd x9 x11) : Int).toNat x11) x9 x10 (wrap64 (x11 + 1))) else (none)) else (none)) else (none)) else (none)) else (some x3)
def sc_back.f (k : Nat) (l0 : List Int) : Option (List Int) := if 0 ≤ (l0.length : Int) then (if ((l0.length : Int) : Int).toNat ≤ 35184372088832 then (sc_back.l0 k (List.replicate ((l0.length : Int) : Int).toNat 0) l0 (l0.length : Int) 0) else (none)) else (none)
theorem sc_back.mono_l : ∀ k, (∀ y0 y1 y2 y3, LeO (sc_back.l0 k y0 y1 y2 y3) (sc_back.l0 (k + 1) y0 y1 y2 y3))
  | 0 => fun _ _ _ _ r h => by simp [sc_back.l0] at h
  | k + 1 => by
    have ih0 := sc_back.mono_l k
    · intro y0 y1 y2 y3
      unfold sc_back.l0
      repeat' first
      | (with_reducible exact ih0 _ _ _ _)
      | (with_reducible exact LeO.refl _)
      | (with_reducible exact LeO.none _)
      | (with_reducible refine LeO.ite ?_ ?_)
      | (with_reducible refine LeO.bind ?_ (fun _ => ?_))
      | exact ih0 _ _ _ _
      | exact LeO.none _
      | refine LeO.ite ?_ ?_
      | refine LeO.bind ?_ (fun _ => ?_)
theorem sc_back.mono : ∀ a0 k, LeO (sc_back.f k a0) (sc_back.f (k + 1) a0) := by
  intro a0 k; have ih0 := sc_back.mono_l k
  unfold sc_back.f
  repeat' first
      | (with_reducible exact ih0 _ _ _ _)
      | (with_reducible exact LeO.refl _)
      | (with_reducible exact LeO.none _)
      | (with_reducible refine LeO.ite ?_ ?_)
      | (with_reducible refine LeO.bind ?_ (fun _ => ?_))
      | exact ih0 _ _ _ _
      | exact LeO.none _
      | refine LeO.ite ?_ ?_
      | refine LeO.bind ?_ (fun _ => ?_)
set_option maxHeartbeats 8000000 in
set_option maxRecDepth 100000 in
theorem sc_back.calls (k : Nat) (A0 : Option Addr) (c0 : Nat) (l0 : List Int) (r : List Int) (w : World) (hr0 : Kd.C (Kd.int .i64) w A0 l0.length l0) (hc0 : l0.length ≤ c0) (h : sc_back.f k l0 = some r) :
    Calls Try.prog 108 #[.slice A0 l0.length c0] w fun e w' => ∃ v0_ : Value, e = .returned (v0_) ∧ Kd.R (Kd.int .i64) 3 w' w.heap.size (fun _ => True) v0_ r ∧ Below w.heap.size w w' := by
  have HR0 := Aside0.mk hr0; have HC0 := Aside0.mk hc0; clear hr0 hc0; have HB := Aside0.mk (Below.refl w.heap.size w); have H : (if 0 ≤ (l0.length : Int) then (if ((l0.length : Int) : Int).toNat ≤ 35184372088832 then (sc_back.l0 k (List.replicate ((l0.length : Int) : Int).toNat 0) l0 (l0.length : Int) 0) else (none)) else (none)) = some r := h; clear h
  by_cases c2 : 0 ≤ (l0.length : Int)
  · rw [if_pos c2] at H
    have c2b0 := eq_true c2; have c2b1 : decide (0 ≤ (l0.length : Int)) = true := decide_eq_true c2; clear c2
    by_cases c3 : ((l0.length : Int) : Int).toNat ≤ 35184372088832
    · rw [if_pos c3] at H
      have c3b0 := eq_true c3; have c3b1 : decide (((l0.length : Int) : Int).toNat ≤ 35184372088832) = true := decide_eq_true c3; clear c3
      obtain ⟨y122, hy122⟩ : ∃ y_ : List Int, y_ = (List.replicate ((l0.length : Int) : Int).toNat 0) := ⟨_, rfl⟩
      replace H : (sc_back.l0 k y122 l0 (l0.length : Int) 0) = some r := by first | (rw [hy122]; with_reducible exact H) | (have H2_ := (Option.bind_some _ _).symm.trans H; rw [hy122]; with_reducible exact H2_) | (have H2_ := (Option.bind_some _ _).symm.trans H; with_reducible exact H2_) | with_reducible exact H | (rw [hy122]; exact H) | exact H
      have Ny122 := Aside0.mk hy122; clear hy122; have H' := Aside0.mk H; clear H
      go_enter Try.func108, Try.ntmps108
      go_wp2_with (first | ((with_reducible refine pzQ (N := 8) rfl ?_); refine Kd.R_make (Kd.int .i64) _ 3 rfl (N := 8) rfl 28 _ _ rfl (l0.length : Int) rfl rfl Try.underlying28 (.int .i64 0) 8 info3 rfl (by decide) (by omega) 0 (ok := fun _ => True) (okp := fun _ => True) rfl (fun _ hk => hk) trivial (of_decide_eq_true (by first | (with_reducible assumption) | assumption)) (Nat.le_trans (Nat.mul_le_mul_right _ (of_decide_eq_true (by first | (with_reducible assumption) | assumption) : (l0.length : Int).toNat ≤ 35184372088832)) (by omega)) (Below.refl _ _) (Nat.le_refl _) ?_; intro v123 w4 ho5 hb hg_ hnew_; clear hg_ hnew_; (first | rw [← Ny122.out] at ho5 | (simp only [Int.reduceToNat] at ho5; rw [← Ny122.out] at ho5)); have n0_ := Aside0.mk (Kd.R_lower ho5 (pzJ (by repeat (first | (with_reducible first | exact HB.out | apply pzB | apply pzA | apply pzC) | exact HB.out)))); have n1_ := Aside0.mk (pzL (by repeat (first | (with_reducible first | exact HB.out | apply pzB | apply pzA | apply pzC) | exact HB.out)) hb); clear HB; have HO124 := n0_; have HB := n1_; clear n0_ n1_; clear hb ho5))
      go_loopg [11] k (fun kq v11 w' => ∃ (x3_1 : List Int) (x11_1 : Int), v11 = .int .i64 x11_1 ∧ Aside0 (sc_back.l0 kq x3_1 l0 (l0.length : Int) x11_1 = some r) ∧ Aside0 (kq ≤ k) ∧ Aside0 (Kd.R (Kd.int .i64) 3 w' w.heap.size (fun _ => True) v123 x3_1) ∧ Aside0 (Below w.heap.size w w'))
      case atStart => exact ⟨(y122), (0), (by first | rfl | (simp; done) | (simp [*]; done)), H', ⟨Nat.le_refl _⟩, ⟨by (with_reducible repeat (first | apply Kd.R_alloc | apply Kd.R_drewN | apply Kd.R_drew)); exact HO124.out⟩, ⟨by repeat (first | (with_reducible first | exact HB.out | apply pzB | apply pzA | apply pzC) | exact HB.out)⟩⟩
      case round =>
        clear H'
        try clear c1
        try clear c2
        try clear c2b0
        try clear c2b1
        try clear p2
        try clear c3
        try clear c3b0
        try clear c3b1
        obtain ⟨x3_1, x11_1, rfl, HA, HK1, HO_3, HB⟩ := hrel; cases gk with
        | zero => exact absurd HA.out (by simp [sc_back.l0])
        | succ k1 =>
          have H := HA.out; clear HA
          simp only [sc_back.l0] at H
          by_cases c6 : x11_1 < (l0.length : Int)
          · rw [if_pos c6] at H
            have c6b0 : decide (x11_1 < (l0.length : Int)) = true := decide_eq_true c6; clear c6
            by_cases c7 : 0 ≤ x11_1
            · rw [if_pos c7] at H
              have c7b0 : decide (0 ≤ x11_1) = true := decide_eq_true c7; clear c7
              by_cases c8 : x11_1 < (l0.length : Int)
              · rw [if_pos c8] at H
                have c8b0 : decide (x11_1 < (l0.length : Int)) = true := decide_eq_true c8; clear c8
                by_cases c9 : 0 ≤ (rd l0 x11_1)
                · rw [if_pos c9] at H
                  have c9b0 : decide (0 ≤ (rd l0 x11_1)) = true := decide_eq_true c9; clear c9
                  by_cases c10 : (rd l0 x11_1) < (x3_1.length : Int)
                  · rw [if_pos c10] at H
                    have c10b0 : decide ((rd l0 x11_1) < (x3_1.length : Int)) = true := decide_eq_true c10; clear c10
                    obtain ⟨y126, hy126⟩ : ∃ y_ : List Int, y_ = (x3_1.set ((rd l0 x11_1) : Int).toNat x11_1) := ⟨_, rfl⟩
                    replace H : (sc_back.l0 k1 y126 l0 (l0.length : Int) (wrap64 (x11_1 + 1))) = some r := by first | (rw [hy126]; with_reducible exact H) | (have H2_ := (Option.bind_some _ _).symm.trans H; rw [hy126]; with_reducible exact H2_) | (have H2_ := (Option.bind_some _ _).symm.trans H; with_reducible exact H2_) | with_reducible exact H | (rw [hy126]; exact H) | exact H
                    have Ny126 := Aside0.mk hy126; clear hy126; have H' := Aside0.mk H; clear H; have p125 : 0 ≤ (x11_1 : Int) := of_decide_eq_true (by first | (with_reducible assumption) | assumption); have q125 : x11_1 < (l0.length : Int) := of_decide_eq_true (by first | (with_reducible assumption) | assumption); obtain ⟨ad125, e125, hx125_0⟩ := Kd.at_int HR0.out x11_1 p125 q125; cases e125; replace hx125_0 := (HB.out.cell (World.block_lt_of_cell? w _ hx125_0)).trans hx125_0; replace p125 := eq_true p125; replace q125 := eq_true q125; have p11 : 0 ≤ ((rd l0 x11_1) : Int) := of_decide_eq_true (by first | (with_reducible assumption) | assumption); have q11 : ((rd l0 x11_1) : Int) < ((x3_1.length : Int) : Int) := of_decide_eq_true (by first | (with_reducible assumption) | assumption); obtain ⟨go11, co11, eo11, gb11, gl11, cl11, HG11⟩ := Kd.R_form HO_3.out (by omega)
                    (first | cases eo11 | (injection eo11 with ea_ en_ ec_; (first | subst ea_ | (injection ea_ with ea_; subst ea_)); subst ec_; clear en_))
                    have GB11 := Aside0.mk gb11; have GG11 := Aside0.mk HG11; clear gb11 gl11 HG11; obtain ⟨hx11_0, hf11_0⟩ := Kd.R_celln 0 HO_3.out ((rd l0 x11_1) : Int) p11 q11; replace p11 := eq_true p11; replace q11 := eq_true q11; have HP12 := Kd.R_putg HO_3.out ((rd l0 x11_1) : Int) x11_1
                    go_wp2_with (first | ((with_reducible refine gate_store (t := 3) (p := 19) rfl ?_); refine store_event (t := 3) (p := 19) (v := ?vo_w13) (w1 := (wr.setCell ⟨go11, ((rd l0 x11_1) : Int).toNat, none⟩ (.int .i64 x11_1))) ?hg ?ho ?hn ?hr ?_; (case ho => rfl); (case hg => rfl); (case hn => rfl); (case hr => first | (go_simp; done) | (go_simp; rfl)); intro w13 hw; have hg : wr.grownBy w13 (some go11) := (by rw [hw]; exact HP12.2); have hp_ : Kd.R (Kd.int .i64) 3 w13 w.heap.size (fun _ => True) (.slice (some ⟨go11, 0, none⟩) x3_1.length co11) y126 := (by rw [hw, Ny126.out]; exact HP12.1); clear HP12; have n0_ := Aside0.mk (hp_); have n1_ := Aside0.mk ((by rw [hw]; exact pzD (HB.out) GB11.out : Below w.heap.size w w13)); clear HO_3; clear HB; have HO_3 := n0_; have HB := n1_; clear n0_ n1_; clear hg hw hp_))
                    go_roundg k1
                    case measure => have := HK1.out; omega
                    case rel => exact ⟨(y126), (wrap64 (x11_1 + 1)), (by first | rfl | (simp; done) | (simp [*]; done)), H', ⟨by have := HK1.out; omega⟩, ⟨by (with_reducible repeat (first | apply Kd.R_alloc | apply Kd.R_drewN | apply Kd.R_drew)); exact HO_3.out⟩, ⟨by repeat (first | (with_reducible first | exact HB.out | apply pzB | apply pzA | apply pzC) | exact HB.out)⟩⟩
                  · rw [if_neg c10] at H
                    exact absurd H (by simp)
                · rw [if_neg c9] at H
                  exact absurd H (by simp)
              · rw [if_neg c8] at H
                exact absurd H (by simp)
            · rw [if_neg c7] at H
              exact absurd H (by simp)
          · rw [if_neg c6] at H
            have c6b0 : decide (x11_1 < (l0.length : Int)) = false := decide_eq_false c6; clear c6; obtain rfl := Option.some.inj H
            go_wp2
            go_ret
            exact ⟨_, by first | rfl | (simp [pzN, pzM] <;> rfl) | (simp [*, pzN, pzM] <;> rfl), by (with_reducible repeat (first | apply Kd.R_alloc | apply Kd.R_drewN | apply Kd.R_drew)); exact HO_3.out, by repeat (first | (with_reducible first | exact HB.out | apply pzB | apply pzA | apply pzC) | exact HB.out)⟩
    · rw [if_neg c3] at H
      exact absurd H (by simp)
  · rw [if_neg c2] at H
    exact absurd H (by simp)
end Go.Proofs.Ytpkgckccfanchaa.M

namespace Go.Proofs.Ytpkgckccfanchaa.M
open Go.RowKit YtpkgckccfanchaaW.PrintWords YtpkgckccfanchaaW.PrintLast YtpkgckccfanchaaW.PrintMore
attribute [local go_sem] pzW pzX pzY pzZ pzS pzT pzU pzV
set_option linter.unusedVariables false
set_option linter.unusedSimpArgs false
def sc_moved.l0 : Nat → List Int → Int → Int → Option (Int)
  | 0, _, _, _ => none
  | k + 1, x5, x6, x7 => if x7 < x6 then (if 0 ≤ x7 then (if x7 < (x5.length : Int) then (if (rd x5 x7) = x7 then (sc_moved.l0 k x5 x6 (wrap64 (x7 + 1))) else (some x7)) else (none)) else (none)) else (some (-1))
def sc_moved.f (k : Nat) (l0 : List Int) : Option (Int) := sc_moved.l0 k l0 (l0.length : Int) 0
theorem sc_moved.mono_l : ∀ k, (∀ y0 y1 y2, LeO (sc_moved.l0 k y0 y1 y2) (sc_moved.l0 (k + 1) y0 y1 y2))
  | 0 => fun _ _ _ r h => by simp [sc_moved.l0] at h
  | k + 1 => by
    have ih0 := sc_moved.mono_l k
    · intro y0 y1 y2
      unfold sc_moved.l0
      repeat' first
      | (with_reducible exact ih0 _ _ _)
      | (with_reducible exact LeO.refl _)
      | (with_reducible exact LeO.none _)
      | (with_reducible refine LeO.ite ?_ ?_)
      | (with_reducible refine LeO.bind ?_ (fun _ => ?_))
      | exact ih0 _ _ _
      | exact LeO.none _
      | refine LeO.ite ?_ ?_
      | refine LeO.bind ?_ (fun _ => ?_)
theorem sc_moved.mono : ∀ a0 k, LeO (sc_moved.f k a0) (sc_moved.f (k + 1) a0) := by
  intro a0 k; have ih0 := sc_moved.mono_l k
  unfold sc_moved.f
  repeat' first
      | (with_reducible exact ih0 _ _ _)
      | (with_reducible exact LeO.refl _)
      | (with_reducible exact LeO.none _)
      | (with_reducible refine LeO.ite ?_ ?_)
      | (with_reducible refine LeO.bind ?_ (fun _ => ?_))
      | exact ih0 _ _ _
      | exact LeO.none _
      | refine LeO.ite ?_ ?_
      | refine LeO.bind ?_ (fun _ => ?_)
set_option maxHeartbeats 8000000 in
set_option maxRecDepth 100000 in
theorem sc_moved.calls (k : Nat) (A0 : Option Addr) (c0 : Nat) (l0 : List Int) (r : Int) (w : World) (hr0 : Kd.C (Kd.int .i64) w A0 l0.length l0) (hc0 : l0.length ≤ c0) (h : sc_moved.f k l0 = some r) :
    Calls Try.prog 92 #[.slice A0 l0.length c0] w fun e w' => e = .returned (.int .i64 r) ∧ Drawn0 w w' := by
  have HR0 := Aside0.mk hr0; have HC0 := Aside0.mk hc0; clear hr0 hc0; have H : (sc_moved.l0 k l0 (l0.length : Int) 0) = some r := h; clear h; have H' := Aside0.mk H; clear H
  go_enter Try.func92, Try.ntmps92
  go_wp2
  go_loopg [7] k (fun kq v7 w' => ∃ (x7_1 : Int), v7 = .int .i64 x7_1 ∧ Aside0 (sc_moved.l0 kq l0 (l0.length : Int) x7_1 = some r) ∧ Aside0 (kq ≤ k) ∧ Drawn0 w w')
  case atStart => exact ⟨(0), (by first | rfl | (simp; done) | (simp [*]; done)), H', ⟨Nat.le_refl _⟩, by repeat (first | exact Drawn0.refl _ | apply Drawn0.step)⟩
  case round =>
    clear H'; obtain ⟨x7_1, rfl, HA, HK1, ⟨m1, rfl⟩⟩ := hrel; cases gk with
    | zero => exact absurd HA.out (by simp [sc_moved.l0])
    | succ k1 =>
      have H := HA.out; clear HA
      simp only [sc_moved.l0] at H
      by_cases c2 : x7_1 < (l0.length : Int)
      · rw [if_pos c2] at H
        have c2b0 : decide (x7_1 < (l0.length : Int)) = true := decide_eq_true c2; clear c2
        by_cases c3 : 0 ≤ x7_1
        · rw [if_pos c3] at H
          have c3b0 : decide (0 ≤ x7_1) = true := decide_eq_true c3; clear c3
          by_cases c4 : x7_1 < (l0.length : Int)
          · rw [if_pos c4] at H
            have c4b0 : decide (x7_1 < (l0.length : Int)) = true := decide_eq_true c4; clear c4
            by_cases c5 : (rd l0 x7_1) = x7_1
            · rw [if_pos c5] at H
              have c5b0 : ((rd l0 x7_1) == x7_1) = true := beq_iff_eq.mpr c5; have c5b1 : ((rd l0 x7_1) != x7_1) = false := bne_eq_false_iff_eq.mpr c5; clear c5; have H' := Aside0.mk H; clear H; have p121 : 0 ≤ (x7_1 : Int) := of_decide_eq_true (by first | (with_reducible assumption) | assumption); have q121 : x7_1 < (l0.length : Int) := of_decide_eq_true (by first | (with_reducible assumption) | assumption); obtain ⟨ad121, e121, hx121_0⟩ := Kd.at_int HR0.out x7_1 p121 q121; cases e121; replace p121 := eq_true p121; replace q121 := eq_true q121
              go_wp2
              go_roundg k1
              case measure => have := HK1.out; omega
              case rel => exact ⟨(wrap64 (x7_1 + 1)), (by first | rfl | (simp; done) | (simp [*]; done)), H', ⟨by have := HK1.out; omega⟩, by repeat (first | exact Drawn0.refl _ | apply Drawn0.step)⟩
            · rw [if_neg c5] at H
              have c5b0 : ((rd l0 x7_1) == x7_1) = false := beq_eq_false_iff_ne.mpr c5; have c5b1 : ((rd l0 x7_1) != x7_1) = true := bne_iff_ne.mpr c5; obtain rfl := Option.some.inj H; have p121 : 0 ≤ (x7_1 : Int) := of_decide_eq_true (by first | (with_reducible assumption) | assumption); have q121 : x7_1 < (l0.length : Int) := of_decide_eq_true (by first | (with_reducible assumption) | assumption); obtain ⟨ad121, e121, hx121_0⟩ := Kd.at_int HR0.out x7_1 p121 q121; cases e121; replace p121 := eq_true p121; replace q121 := eq_true q121
              go_wp2
              go_ret
              exact ⟨by first | rfl | (simp; done) | (simp [*]; done), by repeat (first | exact Drawn0.refl _ | apply Drawn0.step)⟩
          · rw [if_neg c4] at H
            exact absurd H (by simp)
        · rw [if_neg c3] at H
          exact absurd H (by simp)
      · rw [if_neg c2] at H
        have c2b0 : decide (x7_1 < (l0.length : Int)) = false := decide_eq_false c2; clear c2; obtain rfl := Option.some.inj H
        go_wp2
        go_ret
        exact ⟨by first | rfl | (simp; done) | (simp [*]; done), by repeat (first | exact Drawn0.refl _ | apply Drawn0.step)⟩
end Go.Proofs.Ytpkgckccfanchaa.M

namespace Go.Proofs.Ytpkgckccfanchaa.M
open Go.RowKit YtpkgckccfanchaaW.PrintWords YtpkgckccfanchaaW.PrintLast YtpkgckccfanchaaW.PrintMore
attribute [local go_sem] pzW pzX pzY pzZ pzS pzT pzU pzV
set_option linter.unusedVariables false
set_option linter.unusedSimpArgs false
def pm_Identity.f (a0 : Int) : Option (List Int × Bool) := if a0 < 1 ∨ a0 > 512 then some ([], false) else some (rangeI a0.toNat, true)
theorem pm_Identity.calls (a0 : Int) (r1 : List Int) (r2 : Bool) (w : World) (h : pm_Identity.f a0 = some (r1, r2)) :
    Calls Try.prog 77 #[.int .i64 a0] w fun e w' => ∃ v0_ : Value, e = .returned (.tuple #[v0_, .bool r2]) ∧ Kd.R (Kd.int .i64) 3 w' w.heap.size (fun _ => True) v0_ r1 ∧ Below w.heap.size w w' := by
  unfold pm_Identity.f at h
  split at h
  case isTrue hx =>
    have hr := Option.some.inj h
    simp only [Prod.mk.injEq] at hr
    obtain ⟨rfl, rfl⟩ := hr; clear h
    by_cases h1 : a0 < 1
    · go_enter Try.func77, Try.ntmps77
      go_wp2
      go_ret2
      exact ⟨_, rfl, Kd.R_nil _ _ _ _ _, Below.refl _ _⟩
    · have h2 : 512 < a0 := by omega
      clear hx
      go_enter Try.func77, Try.ntmps77
      go_wp2
      go_ret2
      exact ⟨_, rfl, Kd.R_nil _ _ _ _ _, Below.refl _ _⟩
  case isFalse hx =>
    have hr := Option.some.inj h
    simp only [Prod.mk.injEq] at hr
    obtain ⟨hr1, rfl⟩ := hr; clear h; obtain ⟨n, rfl⟩ := Int.eq_ofNat_of_zero_le (show 0 ≤ a0 by omega)
    have hn1 : 1 ≤ (n : Int) := by omega
    have hn2 : (n : Int) ≤ 512 := by omega
    have hn3 : 1 ≤ n := by omega
    have hn4 : n ≤ 512 := by omega
    rw [Int.toNat_natCast] at hr1
    have H := Aside0.mk hr1; clear hr1 hx
    go_enter Try.func77, Try.ntmps77
    go_wp2_with ((with_reducible refine pzQ (N := 13) rfl ?_); go_must (refine Kd.R_make (Kd.int .i64) w.heap.size 3 rfl (N := 13) rfl 28 _ _ rfl (n : Int) rfl rfl Try.underlying28 (.int .i64 0) 8 info3 rfl (by decide) (by omega) 0 (ok := fun _ => True) (okp := fun _ => True) rfl (fun _ hk => hk) trivial (by omega) (by omega) (Below.refl _ _) (Nat.le_refl _) ?_); intro v w1 ho hb hg hnew; obtain ⟨g, c1, e1, hgb, hgl, _⟩ := Kd.R_form ho (by simp; omega); subst e1; rw [show (List.replicate ((n : Int)).toNat (0 : Int)).length = n from by simp])
    have HO := Aside0.mk (show Kd.R (Kd.int .i64) 3 w1 w.heap.size (fun _ => True) (.slice (some ⟨g, 0, none⟩) (fillI 0 (List.replicate n 0)).length c1) (fillI 0 (List.replicate n 0)) from by simpa [fillI, rangeI] using ho); have HB := Aside0.mk hb; clear ho hb hg hnew
    go_loopw [5, 16] (fun _ v wr => ∃ k : Nat, k ≤ n ∧ v = .int .i64 k ∧ Aside0 (Kd.R (Kd.int .i64) 3 wr w.heap.size (fun _ => True) (.slice (some ⟨g, 0, none⟩) (fillI k (List.replicate n 0)).length c1) (fillI k (List.replicate n 0))) ∧ Aside0 (Below w.heap.size w wr)) (fun _ v _ => n - (intOf v).toNat)
    case atStart => exact ⟨0, by omega, rfl, HO, HB⟩
    case round =>
      obtain ⟨k, hk, rfl, HO, HB⟩ := hrel
      have hlen : (fillI k (List.replicate n 0)).length = n := by rw [fillI_length _ _ (by simpa using hk)]; simp
      by_cases hlt : k < n
      · have hlt2 : (k : Int) < n := by omega
        obtain ⟨hc, hf⟩ := Kd.R_cell (enc := Value.int .i64) (h1 := fun _ => rfl) 0 HO.out (k : Int) (by omega) (by omega); have hput := Kd.R_put (enc := Value.int .i64) (h1 := fun _ => rfl) HO.out (k : Int) (k : Int)
        rw [Int.toNat_natCast] at hc hf hput
        rw [fillI_set _ _ (by simpa using hlt)] at hput
        have HP := Aside0.mk hput; clear hput
        go_wp2
        go_roundw
        case rel => exact ⟨k + 1, by omega, by go_num, ⟨by have h1 := HP.out.1; rw [hlen] at h1; rw [fillI_length _ _ (by rw [List.length_replicate]; omega), List.length_replicate]; exact h1⟩, ⟨pzD HB.out hgb⟩⟩
        case measure => simp [intOf]; omega
      · obtain rfl : k = n := by omega
        have hfin : fillI k (List.replicate k 0) = rangeI k := by simp [fillI]
        have HF := Aside0.mk (show Kd.R (Kd.int .i64) 3 wr w.heap.size (fun _ => True) (.slice (some ⟨g, 0, none⟩) k c1) r1 from by have h1 := HO.out; rw [hlen] at h1; rw [hfin, H.out] at h1; exact h1); clear HO hfin hlen H
        go_wp2
        go_ret2
        exact ⟨_, rfl, HF.out, HB.out⟩
end Go.Proofs.Ytpkgckccfanchaa.M

namespace Go.Proofs.Ytpkgckccfanchaa.M
open Go.RowKit YtpkgckccfanchaaW.PrintWords YtpkgckccfanchaaW.PrintLast YtpkgckccfanchaaW.PrintMore
open Sims
set_option linter.unusedVariables false
theorem rd_rdl (p : List Int) (x : Int) : rd p x = rdl p x := rfl
theorem wrap_small {i : Int} (h0 : 0 ≤ i) (h1 : i ≤ 35184372088832) : wrap64 (i + 1) = i + 1 := by unfold wrap64; omega
theorem rdl_set {l : List Int} {i x v : Int} (hi0 : 0 ≤ i) (hi : i < l.length) (h0 : 0 ≤ x) (h1 : x < l.length) : rdl (l.set i.toNat v) x = if x = i then v else rdl l x := by
  rw [rdl_eq h0 (by rw [List.length_set]; exact h1), rdl_eq h0 h1, List.getElem_set]
  by_cases e : x = i
  · rw [if_pos (by omega), if_pos e]
  · rw [if_neg (by omega), if_neg e]
theorem then_loop {p q : List Int} (hp : p.length ≤ 35184372088832) (hq : ∀ x ∈ p, 0 ≤ x ∧ x < q.length) : ∀ (d k : Nat) (out : List Int) (i : Int), 0 ≤ i → i ≤ p.length → (p.length : Int) - i = d → d < k → out.length = p.length → (∀ x : Int, 0 ≤ x → x < i → rdl out x = rdl (thenL p q) x) →
    sc_then.l0 k q out p (p.length : Int) i = some (thenL p q)
  | d, 0, _, _, _, _, _, hk, _, _ => by omega
  | 0, k + 1, out, i, h0, h1, hd, _, hl, ho => by
    simp only [sc_then.l0]
    rw [if_neg (by omega)]
    rw [list_ext hl (thenL_length p q) (fun x k0 k1 => ho x k0 (by omega))]
  | d + 1, k + 1, out, i, h0, h1, hd, hk, hl, ho => by
    have hlt : i < (p.length : Int) := by omega
    have hm := hq _ (rdl_mem h0 hlt)
    simp only [sc_then.l0]
    rw [if_pos hlt, if_pos h0, if_pos hlt, if_pos (show 0 ≤ rd p i from hm.1), if_pos (show rd p i < (q.length : Int) from hm.2), if_pos (by rw [hl]; exact hlt), wrap_small h0 (by omega)]
    refine then_loop hp hq d k _ (i + 1) (by omega) (by omega) (by omega) (by omega) (by rw [List.length_set, hl]) (fun x k0 k1 => ?_)
    rw [rdl_set h0 (by rw [hl]; exact hlt) k0 (by rw [hl]; omega)]
    by_cases e : x = i
    · rw [if_pos e, e, rdl_then h0 hlt]
      rfl
    · rw [if_neg e]
      exact ho x k0 (by omega)
theorem then_f {p q : List Int} (hp : p.length ≤ 35184372088832) (hq : ∀ x ∈ p, 0 ≤ x ∧ x < q.length) : sc_then.f (p.length + 1) p q = some (thenL p q) := by
  unfold sc_then.f
  rw [if_pos (by omega), if_pos (by omega)]
  exact then_loop hp hq p.length _ _ 0 (by omega) (by omega) (by omega) (by omega) (by simp) (fun x k0 k1 => by omega)
theorem back_loop {n : Nat} {p : List Int} (hn : n ≤ 35184372088832) (hp : IsP n p) : ∀ (d k : Nat) (out : List Int) (i : Int), 0 ≤ i → i ≤ n → (n : Int) - i = d → d < k → out.length = n → (∀ x : Int, 0 ≤ x → x < i → rdl out (rdl p x) = x) →
    sc_back.l0 k out p (p.length : Int) i = some (backL p)
  | d, 0, _, _, _, _, _, hk, _, _ => by omega
  | 0, k + 1, out, i, h0, h1, hd, _, hl, ho => by
    have hpl := hp.len
    simp only [sc_back.l0]
    rw [if_neg (by omega)]
    rw [list_ext hl (by rw [backL_length, hpl]) (fun x k0 k1 => ?_)]
    have hi := idx_lt hp k0 k1
    have := ho (p.idxOf x : Int) (by omega) (by omega)
    rw [rdl_idx hp k0 k1] at this
    rw [this, rdl_back hp k0 k1]
  | d + 1, k + 1, out, i, h0, h1, hd, hk, hl, ho => by
    have hpl := hp.len
    have hlt : i < (n : Int) := by omega
    have hm := hp.rd h0 hlt
    simp only [sc_back.l0]
    rw [if_pos (by omega), if_pos h0, if_pos (by omega), if_pos (show 0 ≤ rd p i from hm.1), if_pos (by rw [hl]; exact hm.2), wrap_small h0 (by omega)]
    refine back_loop hn hp d k _ (i + 1) (by omega) (by omega) (by omega) (by omega) (by rw [List.length_set, hl]) (fun x k0 k1 => ?_)
    have hx := hp.rd k0 (show x < n by omega)
    rw [rd_rdl, rdl_set hm.1 (by rw [hl]; exact hm.2) hx.1 (by rw [hl]; exact hx.2)]
    by_cases e : rdl p x = rdl p i
    · rw [if_pos e]
      exact (hp.inj k0 (by omega) h0 hlt e).symm
    · rw [if_neg e]
      refine ho x k0 ?_
      have : x ≠ i := fun e' => e (by rw [e'])
      omega
theorem back_f {n : Nat} {p : List Int} (hn : n ≤ 35184372088832) (hp : IsP n p) : sc_back.f (n + 1) p = some (backL p) := by
  have hpl := hp.len
  unfold sc_back.f
  rw [if_pos (by omega), if_pos (by omega)]
  exact back_loop hn hp n _ _ 0 (by omega) (by omega) (by omega) (by omega) (by simp [hpl]) (fun x k0 k1 => by omega)
theorem moved_loop {p : List Int} (hp : p.length ≤ 35184372088832) : ∀ (d k : Nat) (i : Int), 0 ≤ i → i ≤ p.length → (p.length : Int) - i = d → d < k → sc_moved.l0 k p (p.length : Int) i = some (movedFrom i (p.drop i.toNat))
  | d, 0, _, _, _, _, hk => by omega
  | 0, k + 1, i, h0, h1, hd, _ => by
    simp only [sc_moved.l0]
    rw [if_neg (by omega), List.drop_eq_nil_of_le (by omega)]
    rfl
  | d + 1, k + 1, i, h0, h1, hd, hk => by
    have hlt : i < (p.length : Int) := by omega
    have e1 : p.drop i.toNat = rdl p i :: p.drop (i + 1).toNat := by
      rw [List.drop_eq_getElem_cons (show i.toNat < p.length by omega), rdl_eq h0 hlt, show (i + 1).toNat = i.toNat + 1 from by omega]
    simp only [sc_moved.l0]
    rw [if_pos hlt, if_pos h0, if_pos hlt, e1, wrap_small h0 (by omega)]
    unfold movedFrom
    by_cases e : rd p i = i
    · rw [if_pos e, if_pos (show rdl p i = i from e)]
      exact moved_loop hp d k (i + 1) (by omega) (by omega) (by omega) (by omega)
    · rw [if_neg e, if_neg (show ¬ rdl p i = i from e)]
theorem moved_f {p : List Int} (hp : p.length ≤ 35184372088832) : sc_moved.f (p.length + 1) p = some (movedL p) := by
  unfold sc_moved.f
  exact moved_loop hp p.length _ 0 (by omega) (by omega) (by omega) (by omega)
variable {n : Nat} {ok ok' : Nat → Prop} {w : World} {v u : Value} {p q : List Int}
theorem then_pv (hn : 0 < n) (hn' : n ≤ 512) (hv : PV w ok v p) (hu : PV w ok' u q) (hp : IsP n p) (hq : IsP n q) : Calls Try.prog 78 #[v, u] w fun e w' => ∃ r, e = .returned r ∧ PN w.heap.size w' r (thenL p q) ∧ Below w.heap.size w w' := by
  obtain ⟨A, c, rfl, hc, hC⟩ := PV.read hv
  obtain ⟨A', c', rfl, hc', hC'⟩ := PV.read hu
  refine (sc_then.calls _ A c p A' c' q _ w hC hc hC' hc' (then_f (by rw [hp.len]; omega) (fun x hx => by rw [hq.len]; exact hp.rng x hx))).mono ?_
  rintro e w' ⟨r, rfl, hR, hb⟩
  exact ⟨r, rfl, PN.of_R hR (by rw [thenL_length, hp.len]; exact hn), hb⟩
theorem back_pv (hn : 0 < n) (hn' : n ≤ 512) (hv : PV w ok v p) (hp : IsP n p) : Calls Try.prog 108 #[v] w fun e w' => ∃ r, e = .returned r ∧ PN w.heap.size w' r (backL p) ∧ Below w.heap.size w w' := by
  obtain ⟨A, c, rfl, hc, hC⟩ := PV.read hv
  refine (sc_back.calls _ A c p _ w hC hc (back_f (by omega) hp)).mono ?_
  rintro e w' ⟨r, rfl, hR, hb⟩
  exact ⟨r, rfl, PN.of_R hR (by rw [backL_length, hp.len]; exact hn), hb⟩
theorem moved_pv (hn' : p.length ≤ 512) (hv : PV w ok v p) : Calls Try.prog 92 #[v] w fun e w' => e = .returned (.int .i64 (movedL p)) ∧ Drawn0 w w' := by
  obtain ⟨A, c, rfl, hc, hC⟩ := PV.read hv
  exact sc_moved.calls _ A c p _ w hC hc (moved_f (by omega))
theorem identity_pv (hn : 0 < n) (hn' : n ≤ 512) : Calls Try.prog 77 #[.int .i64 (n : Int)] w fun e w' => ∃ r, e = .returned (.tuple #[r, .bool true]) ∧ PN w.heap.size w' r (oneL n) ∧ Below w.heap.size w w' := by
  refine (pm_Identity.calls (n : Int) (oneL n) true w ?_).mono ?_
  · unfold pm_Identity.f
    rw [if_neg (by omega), Int.toNat_natCast]
    rfl
  · rintro e w' ⟨r, rfl, hR, hb⟩
    exact ⟨r, rfl, PN.of_R hR (by rw [oneL_length]; exact hn), hb⟩
end Go.Proofs.Ytpkgckccfanchaa.M

namespace Go.Proofs.Ytpkgckccfanchaa.M
open Go.RowKit YtpkgckccfanchaaW.PrintWords YtpkgckccfanchaaW.PrintLast YtpkgckccfanchaaW.PrintMore
open Sims
open Go.ChangeMaps (setBlock)
set_option linter.unusedVariables false
set_option linter.unusedSimpArgs false
variable {n : Nat} {ok ok' : Nat → Prop} {w : World} {v u : Value} {p q : List Int}
theorem PV.cells {ad : Addr} (h : Kd.C (Kd.int .i64) w (some ad) p.length p) : ∀ j u, (nums .i64 p)[j]? = some u → w.cell? (ad.add j) = some u := by
  intro j u hu
  have hj : j < p.length := by
    rcases Nat.lt_or_ge j p.length with h1 | h1
    · exact h1
    · simp [nums, List.getElem?_eq_none h1] at hu
  have hr := Kd.reads_of_C (enc := Value.int .i64) (d := (0 : Int)) (h1 := fun _ => rfl) h
  obtain ⟨ad', e, hc⟩ := hr.2.2 (by omega)
  cases e
  rw [hc j hj]
  simp [nums, List.getElem?_eq_getElem hj] at hu
  rw [← hu]
  simp [List.getD_eq_getElem?_getD, List.getElem?_eq_getElem hj]
theorem PV.addr {A : Option Addr} {m : Nat} (h : Kd.C (Kd.int .i64) w A m p) (hp : 0 < m) : ∃ ad, A = some ad := by
  obtain ⟨ad, e, _⟩ := h.2.2 hp
  exact ⟨ad, e⟩
theorem PN.of_own {N : Nat} (h : w.ownsRow N 3 1 v p.length (nums .i64 p)) (hp : 0 < p.length) : PN N w v p :=
  PN.of_R (Kd.R_of_own (enc := Value.int .i64) (h1 := fun _ => rfl) (ok := fun _ => True) h (fun _ _ => trivial)) hp
set_option maxHeartbeats 1000000 in
set_option maxRecDepth 100000 in
theorem clone_pv (hn : 0 < p.length) (hn' : p.length ≤ 512) (hv : PV w ok v p) : Calls Try.prog 76 #[v] w fun e w' => ∃ r, e = .returned r ∧ PN w.heap.size w' r p ∧ Below w.heap.size w w' := by
  obtain ⟨A, c, rfl, hc, hC⟩ := PV.read hv
  obtain ⟨ad, rfl⟩ := PV.addr hC hn
  have HC := Aside0.mk (PV.cells hC)
  have HN := Aside0.mk hn
  obtain ⟨i0, hi, hz0, hz1, hz2⟩ := info_parts info3
  have HI := Aside0.mk hi
  have HZ := Aside0.mk hz0
  have HZ1 := Aside0.mk hz1
  have HZ2 := Aside0.mk hz2
  clear hC hv hn hi hz0 hz1 hz2
  have heq : ∀ W : World, (binOp BinOp.eql 28 (.slice (some ad) p.length c) (.slice none 0 0)).run Try.prog W = .ok (.bool false) W := fun W => by kernel_rfl
  go_enter Try.func76, Try.ntmps76
  go_wp2_with (first | (at_builtin; go_must (refine wpList_append_own_at _ rfl (.tmp 5) (.tmp 6) 28 rfl w.heap.size 3 i0 (.int .i64 0) 1 8 Try.underlying28 HI.out HZ.out HZ1.out HZ2.out rfl (by decide) _ 0 [] rfl (World.ownsRow_lit (e := 3) (size := 1) w #[] 0 (Nat.le_refl _) (by decide) rfl) ad p.length c (nums .i64 p) rfl (by simp [nums]) ?cc ?c1 ?c2 ?c3 ?c4 ?_); (case cc => (intro j u hu; exact pyA (pzB (Below.refl _ _) _) (HC.out j u hu))); (case c1 => (intro u hu; simp only [nums, List.mem_map] at hu; obtain ⟨q, _, rfl⟩ := hu; rfl)); (case c2 => (unfold maxLen; omega)); (case c3 => omega); (case c4 => simp); rintro v' w1 hown hg - -; have HO := Aside0.mk hown; have HG := Aside0.mk hg; clear hown hg))
  go_ret
  have ho := HO.out
  rw [Nat.zero_add, List.nil_append] at ho
  refine ⟨v', rfl, PN.of_own ho HN.out, pw_below_grown (pzB (Below.refl _ _) _) _ (by simp) HG.out ?_⟩
  intro k hk
  have e : some w.heap.size = some k := hk
  cases e
  exact Nat.le_refl _
theorem newMap_at (w1 : World) (o : Obj) : ((w1.alloc o).alloc (.map #[] 0)).heap[w1.heap.size + 1]? = some (.map #[] 0) := by
  have := heap_alloc_new (w1.alloc o) (.map #[] 0)
  rwa [World.size_alloc] at this
theorem newLevel_lv {w1 w2 : World} {r : Value} {b : Int} (hb : Below w.heap.size w w1) (hR : PN w.heap.size w1 r (oneL n)) (hW : w2 = setBlock ((w1.alloc (.cells #[.int .i64 b] 3)).alloc (.map #[] 0)) (w1.heap.size + 1) (.map #[⟨.int .i64 b, r, 0⟩] 1)) :
    LvAt ((w2.alloc (.map #[] 0)).alloc (.cells #[.int .i64 b, .slice none 0 0, .slice (some ⟨w1.heap.size, 0, none⟩) 1 1, .map (some (w1.heap.size + 1)), .map (some w2.heap.size)] 111)) w.heap.size (fun k => w.heap.size ≤ k ∧ k < w1.heap.size)
      ⟨w2.heap.size + 1, .slice none 0 0, .slice (some ⟨w1.heap.size, 0, none⟩) 1 1, w1.heap.size + 1, w2.heap.size⟩ (newLv n b) ∧
    Below w.heap.size w ((w2.alloc (.map #[] 0)).alloc (.cells #[.int .i64 b, .slice none 0 0, .slice (some ⟨w1.heap.size, 0, none⟩) 1 1, .map (some (w1.heap.size + 1)), .map (some w2.heap.size)] 111)) := by
  generalize hC : Obj.cells #[.int .i64 b, .slice none 0 0, .slice (some ⟨w1.heap.size, 0, none⟩) 1 1, .map (some (w1.heap.size + 1)), .map (some w2.heap.size)] 111 = C
  have hs2 : w2.heap.size = w1.heap.size + 2 := by rw [hW]; simp [setBlock]
  have g1 : w2.heap[w1.heap.size + 1]? = some (.map #[⟨.int .i64 b, r, 0⟩] 1) := by
    rw [hW]
    simp [setBlock]
  have g0 : w2.heap[w1.heap.size]? = some (.cells #[.int .i64 b] 3) := by
    rw [hW]
    simp only [setBlock]
    rw [Array.getElem?_setIfInBounds_ne (by omega)]
    exact heap_alloc2_old w1 _ _
  have gold : ∀ k, k < w1.heap.size → w2.heap[k]? = w1.heap[k]? := fun k hk => by
    rw [hW]
    simp only [setBlock]
    rw [Array.getElem?_setIfInBounds_ne (by omega), heap_alloc_old _ _ (by rw [World.size_alloc]; omega), heap_alloc_old _ _ hk]
  have f : ∀ k, k < w2.heap.size → ((w2.alloc (.map #[] 0)).alloc C).heap[k]? = w2.heap[k]? := fun k hk => by
    rw [heap_alloc_old _ _ (by rw [World.size_alloc]; omega), heap_alloc_old _ _ hk]
  have fC : ((w2.alloc (.map #[] 0)).alloc C).heap[w2.heap.size + 1]? = some C := heap_alloc2_new w2 _ _
  have fM : ((w2.alloc (.map #[] 0)).alloc C).heap[w2.heap.size]? = some (.map #[] 0) := heap_alloc2_old w2 _ _
  have hsz := hb.size
  have hkeep : ∀ k, k < w1.heap.size → ((w2.alloc (.map #[] 0)).alloc C).heap[k]? = w1.heap[k]? := fun k hk => (f k (by omega)).trans (gold k hk)
  have hfree : ∀ k, (⟨w2.heap.size + 1, .slice none 0 0, .slice (some ⟨w1.heap.size, 0, none⟩) 1 1, w1.heap.size + 1, w2.heap.size⟩ : LC).Blk k → w1.heap.size ≤ k := by
    intro k hk
    rcases hk with hk | hk | hk | hk | hk
    · have e : k = w2.heap.size + 1 := hk
      omega
    · cases hk
    · have e : some w1.heap.size = some k := hk
      cases e
      exact Nat.le_refl _
    · have e : k = w1.heap.size + 1 := hk
      omega
    · have e : k = w2.heap.size := hk
      omega
  refine ⟨⟨by rw [fC, ← hC]; rfl, ⟨[], ⟨rfl, .inl ⟨rfl, rfl⟩⟩, fun j p hj => by simp [newLv] at hj⟩, ⟨rfl, .inr ⟨w1.heap.size, 1, _, rfl, hsz, (f _ (by omega)).trans g0, Nat.le_refl _, by decide, rfl, rfl⟩⟩,
    ⟨_, _, (f (w1.heap.size + 1) (by omega)).trans g1, rfl, fun j q hq => ?_⟩, ⟨_, _, fM, rfl⟩, ⟨by show w.heap.size ≤ w2.heap.size + 1; omega, by show w.heap.size ≤ w1.heap.size + 1; omega, by show w.heap.size ≤ w2.heap.size; omega⟩, fun k hk hp => by have := hfree k hk; omega, by show w1.heap.size + 1 ≠ w2.heap.size; omega⟩, ?_⟩
  · cases j with
    | zero =>
      have e : q = (b, oneL n) := by simpa [newLv] using hq.symm
      subst e
      refine ⟨⟨.int .i64 b, r, 0⟩, rfl, ?_⟩
      obtain ⟨k, h1, h2, h3⟩ := hR
      exact PV.mono (Kd.V_step h3 (fun i hi hlt => hkeep i hlt)) (fun i hi => by subst hi; exact ⟨h1, h2⟩)
    | succ j => simp [newLv] at hq
  · refine ⟨?_, ?_, ?_, ?_, fun k hk => (hkeep k (by omega)).trans (hb.block k hk)⟩
    · rw [← hb.os]; rw [hW]; rfl
    · rw [← hb.tape]; rw [hW]; rfl
    · rw [← hb.output]; rw [hW]; rfl
    · simp only [World.size_alloc]; omega
set_option maxHeartbeats 1000000 in
set_option maxRecDepth 100000 in
theorem newLevel_calls {b : Int} (hn : 0 < n) (hn' : n ≤ 512) (h0 : 0 ≤ b) (h1 : b < n) : Calls Try.prog 83 #[.int .i64 (n : Int), .int .i64 b] w fun e w' => ∃ (c : LC) (PB : Nat → Prop), e = .returned c.ptr ∧ LvAt w' w.heap.size PB c (newLv n b) ∧ Below w.heap.size w w' ∧ ∀ k, PB k → w.heap.size ≤ k := by
  have hmm := @run_makeMap Try.prog
  go_enter Try.func83, Try.ntmps83
  go_wp2_with (first | (go_at_call 77; (with_reducible refine (identity_pv hn hn').mono ?_); rintro e w1 ⟨r, rfl, hR, hb⟩; obtain ⟨w2, HW, hst⟩ : ∃ w2, Aside0 (w2 = setBlock ((w1.alloc (.cells #[.int .i64 b] 3)).alloc (.map #[] 0)) (w1.heap.size + 1) (.map #[⟨.int .i64 b, r, 0⟩] 1)) ∧ (Instr.mapUpdate 108 (.map (some (w1.heap.size + 1))) (.int .i64 b) r).run Try.prog ((w1.alloc (.cells #[.int .i64 b] 3)).alloc (.map #[] 0)) = .ok () w2 := ⟨_, ⟨rfl⟩, gm_store_new law_int Try.underlying108 (newMap_at w1 _) (fun x hx => by simp at hx) (key_int (by omega) (by omega)) (fun x hx => by simp at hx) r⟩; have HR := Aside0.mk hR; have HB := Aside0.mk hb; clear hR hb))
  go_ret
  obtain ⟨h1, h2⟩ := newLevel_lv (b := b) HB.out HR.out HW.out
  exact ⟨_, _, rfl, h1, h2, fun k hk => hk.1⟩
theorem reps_look {PB : Nat → Prop} {b : Nat} {reps : List (Int × List Int)} (h : RepsAt w PB b reps) (hr : ∀ x : Int, x ∈ reps.map (·.1) → 0 ≤ x ∧ x < n) (hn : n ≤ 512) (hnd : (reps.map (·.1)).Nodup) {x : Int} (h0 : 0 ≤ x) (h1 : x < n) :
    ∃ (u : Value) (r : List Int) (f : Bool), (∀ (W : World) (c : Bool), W.heap[b]? = w.heap[b]? → (Instr.lookup 108 (.map (some b)) (.int .i64 x) c).run Try.prog W = .ok (if c then .tuple #[u, .bool f] else u) W) ∧ ((f = true ∧ lookA x reps = some r ∧ PV w PB u r) ∨ (f = false ∧ lookA x reps = none ∧ u = .slice none 0 0)) := by
  obtain ⟨es, ck, hb, hk, hv⟩ := h
  have hlen : es.toList.length = reps.length := by have := congrArg List.length hk; simpa using this
  have hkey : ∀ (j : Nat) e, es.toList[j]? = some e → ∃ q, reps[j]? = some q ∧ e.key = .int .i64 q.1 := by
    intro j e he
    have h2 : (es.toList.map (·.key))[j]? = some e.key := by rw [List.getElem?_map, he]; rfl
    rw [hk, List.getElem?_map] at h2
    obtain ⟨q, hq, e2⟩ := Option.map_eq_some_iff.1 h2
    exact ⟨q, hq, e2.symm⟩
  have hok : KeysOk Try.prog 3 es := fun e he => by
    obtain ⟨j, hj, e2⟩ := List.getElem_of_mem he
    obtain ⟨q, hq, e3⟩ := hkey j e (by rw [List.getElem?_eq_getElem hj, e2])
    have := hr q.1 (List.mem_map.2 ⟨q, List.mem_of_getElem? hq, rfl⟩)
    exact ⟨_, by rw [e3]; exact key_int (by omega) (by omega)⟩
  have hz : ∀ W : World, (zeroValue 28).run Try.prog W = .ok (.slice none 0 0) W := fun W => by kernel_rfl
  cases hl : lookA x reps with
  | none =>
    refine ⟨.slice none 0 0, [], false, fun W c hW => ?_, .inr ⟨rfl, rfl, rfl⟩⟩
    refine gm_look_none law_int Try.underlying108 (hz W) (hW.trans hb) hok (key_int (by omega) (by omega)) (fun e he hx => ?_) c
    obtain ⟨j, hj, e2⟩ := List.getElem_of_mem he
    obtain ⟨q, hq, e3⟩ := hkey j e (by rw [List.getElem?_eq_getElem hj, e2])
    rw [hx] at e3
    have e4 : x = q.1 := by injection e3
    exact lookA_none.1 hl (List.mem_map.2 ⟨q, List.mem_of_getElem? hq, e4.symm⟩)
  | some r =>
    obtain ⟨j, hj, e2⟩ := List.getElem_of_mem (lookA_mem hl)
    obtain ⟨e, he, hpv⟩ := hv j (x, r) (by rw [List.getElem?_eq_getElem hj, e2])
    obtain ⟨q, hq, e3⟩ := hkey j e he
    have hqx : q = (x, r) := by
      rw [List.getElem?_eq_getElem hj, e2] at hq
      exact (Option.some.inj hq).symm
    rw [hqx] at e3
    have hd : es.toList.Pairwise (fun a b => a.key ≠ b.key) := by
      have h5 : (reps.map (fun q => Value.int .i64 q.1)).Pairwise (· ≠ ·) := by
        have := List.nodup_iff_pairwise_ne.1 hnd
        rw [List.pairwise_map] at this ⊢
        exact this.imp (fun hne e => hne (by injection e))
      rw [← hk] at h5
      exact List.pairwise_map.1 h5
    exact ⟨e.val, r, true, fun W c hW => gm_look_some law_int Try.underlying108 (hW.trans hb) hok hd (key_int (by omega) (by omega)) he e3 c, .inl ⟨rfl, rfl, hpv⟩⟩
end Go.Proofs.Ytpkgckccfanchaa.M

namespace Go.Proofs.Ytpkgckccfanchaa.M
open Go.RowKit YtpkgckccfanchaaW.PrintWords YtpkgckccfanchaaW.PrintLast YtpkgckccfanchaaW.PrintMore
open Sims
open Go.ChangeMaps (setBlock)
set_option linter.unusedVariables false
set_option linter.unusedSimpArgs false
variable {n : Nat} {ok ok' : Nat → Prop} {w : World} {v u : Value} {p q : List Int}
theorem LvX.cell {B : Nat} {PB : Nat → Prop} {c : LC} {pt : Int} {gens : List (List Int)} {orb : List Int} {reps : List (Int × List Int)} {todo : List (Int × Int)} (h : LvX w B PB c pt gens orb reps todo) :
    w.cell? ⟨c.lb, 0, none⟩ = some (.int .i64 pt) ∧ w.cell? ⟨c.lb, 1, none⟩ = some c.gv ∧ w.cell? ⟨c.lb, 2, none⟩ = some c.ov ∧ w.cell? ⟨c.lb, 3, none⟩ = some (.map (some c.rb)) ∧ w.cell? ⟨c.lb, 4, none⟩ = some (.map (some c.tb)) := by
  simp [World.cell?, h.cells]
theorem PV.at_ {ad : Addr} (h : Kd.C (Kd.int .i64) w (some ad) p.length p) {x : Int} (h0 : 0 ≤ x) (h1 : x < p.length) : w.cell? (ad.add x.toNat) = some (.int .i64 (rdl p x)) := by
  refine PV.cells h x.toNat _ ?_
  simp [nums, rdl, List.getElem?_eq_getElem (show x.toNat < p.length by omega), List.getD_eq_getElem?_getD]
set_option maxHeartbeats 1000000 in
set_option maxRecDepth 100000 in
theorem divide_yes {B : Nat} {PB : Nat → Prop} {c : LC} {l : Lv} (hn : 0 < n) (hn' : n ≤ 512) (hl : LvAt w B PB c l) (ho : LvOk n l) (hv : PV w ok v p) (hp : IsP n p) {r : List Int} (hr : lookA (rdl p l.point) l.reps = some r) :
    Calls Try.prog 111 #[c.ptr, v] w fun e w' => ∃ u, e = .returned (.tuple #[u, .bool true]) ∧ PN w.heap.size w' u (thenL p (backL r)) ∧ Below w.heap.size w w' := by
  have hx := hp.rd ho.pt.1 ho.pt.2
  obtain ⟨uu, r', f, hlook, hcase⟩ := reps_look hl.reps ho.rng hn' ho.nd hx.1 hx.2
  obtain ⟨A, cc, rfl, hcc, hC⟩ := PV.read hv
  obtain ⟨ad, rfl⟩ := PV.addr hC (by rw [hp.len]; exact hn)
  have hpl := hp.len
  have hi0 : 0 ≤ l.point := ho.pt.1
  have hi1 : l.point < (p.length : Int) := by rw [hpl]; exact ho.pt.2
  have hcell := PV.at_ hC hi0 hi1
  obtain ⟨hc0, -, -, hc3, -⟩ := hl.cell
  rcases hcase with ⟨rfl, h2, hu⟩ | ⟨rfl, h2, _⟩
  · rw [hr] at h2
    obtain rfl : r = r' := Option.some.inj h2
    have hl1 : ∀ m, (Instr.lookup 108 (.map (some c.rb)) (.int .i64 (rdl p l.point)) true).run Try.prog (w.drewN m) = .ok (.tuple #[uu, .bool true]) (w.drewN m) := fun m => hlook (w.drewN m) true rfl
    have hrp : IsP n r := by
      have := (ho.rep _ (List.mem_map.2 ⟨_, lookA_mem hr, rfl⟩)).1
      unfold repL at this
      rwa [hr] at this
    have HRP := Aside0.mk hrp
    have HU := Aside0.mk hu
    have HV := Aside0.mk hv
    have HP := Aside0.mk hp
    have HN := Aside0.mk hn
    clear hlook h2 hrp hr hu hv hp hn hC hl hpl hx ho hcc
    unfold LC.ptr
    go_enter Try.func111, Try.ntmps111
    go_wp2_with (fail)
    go_quiet (fail)
    go_wp2_with (first | (go_at_call 108; (with_reducible refine (back_pv HN.out hn' (Kd.V_drewN HU.out nq) HRP.out).mono ?_); rintro e w1 ⟨rb, rfl, hRB, hb1⟩; have HRB := Aside0.mk hRB; have HB1 := Aside0.mk hb1; clear hRB hb1) | (go_at_call 78; (with_reducible refine (then_pv HN.out hn' (PV.below (Kd.V_drewN HV.out nq) HB1.out) HRB.out.any HP.out (backL_isP HRP.out)).mono ?_); rintro e w2 ⟨rt, rfl, hRT, hb2⟩; have HRT := Aside0.mk hRT; have HB2 := Aside0.mk hb2; clear hRT hb2))
    go_ret2
    have hs : w.heap.size ≤ w1.heap.size := HB1.out.size
    exact ⟨rt, rfl, HRT.out.lower hs, pyD (pyD (pzA (Below.refl _ _) nq) (Nat.le_refl _) HB1.out) hs HB2.out⟩
  · rw [hr] at h2
    cases h2
set_option maxHeartbeats 1000000 in
set_option maxRecDepth 100000 in
theorem divide_no {B : Nat} {PB : Nat → Prop} {c : LC} {l : Lv} (hn : 0 < n) (hn' : n ≤ 512) (hl : LvAt w B PB c l) (ho : LvOk n l) (hv : PV w ok v p) (hp : IsP n p) (hr : lookA (rdl p l.point) l.reps = none) :
    Calls Try.prog 111 #[c.ptr, v] w fun e w' => e = .returned (.tuple #[v, .bool false]) ∧ Below w.heap.size w w' := by
  have hx := hp.rd ho.pt.1 ho.pt.2
  obtain ⟨uu, r', f, hlook, hcase⟩ := reps_look hl.reps ho.rng hn' ho.nd hx.1 hx.2
  obtain ⟨A, cc, rfl, hcc, hC⟩ := PV.read hv
  obtain ⟨ad, rfl⟩ := PV.addr hC (by rw [hp.len]; exact hn)
  have hpl := hp.len
  have hi0 : 0 ≤ l.point := ho.pt.1
  have hi1 : l.point < (p.length : Int) := by rw [hpl]; exact ho.pt.2
  have hcell := PV.at_ hC hi0 hi1
  obtain ⟨hc0, -, -, hc3, -⟩ := hl.cell
  rcases hcase with ⟨rfl, h2, hu⟩ | ⟨rfl, h2, _⟩
  · rw [hr] at h2
    cases h2
  · have hl1 : ∀ m, (Instr.lookup 108 (.map (some c.rb)) (.int .i64 (rdl p l.point)) true).run Try.prog (w.drewN m) = .ok (.tuple #[uu, .bool false]) (w.drewN m) := fun m => hlook (w.drewN m) true rfl
    clear hlook h2 hr hv hp hn hC hl hpl hx ho hcc
    unfold LC.ptr
    go_enter Try.func111, Try.ntmps111
    go_wp2_with (fail)
    go_quiet (fail)
    go_wp2_with (fail)
    go_ret2
    exact ⟨rfl, pzA (Below.refl _ _) nq⟩
end Go.Proofs.Ytpkgckccfanchaa.M

namespace Go.Proofs.Ytpkgckccfanchaa.M
open Go.RowKit YtpkgckccfanchaaW.PrintWords YtpkgckccfanchaaW.PrintLast YtpkgckccfanchaaW.PrintMore
open Sims
open Go.ChangeMaps (setBlock)
set_option linter.unusedVariables false
set_option linter.unusedSimpArgs false
variable {w w0 w1 : World} {B : Nat} {PB : Nat → Prop} {c : LC} {pt : Int} {gens : List (List Int)} {orb : List Int} {reps : List (Int × List Int)} {todo : List (Int × Int)} {v v' : Value} {p : List Int}
structure Sep (c : LC) : Prop where
  gl : c.gv.ownBlock ≠ some c.lb
  ol : c.ov.ownBlock ≠ some c.lb
  go : ∀ b, c.gv.ownBlock = some b → c.ov.ownBlock ≠ some b
  lr : c.lb ≠ c.rb
  lt : c.lb ≠ c.tb
  gr : c.gv.ownBlock ≠ some c.rb
  gt : c.gv.ownBlock ≠ some c.tb
  or_ : c.ov.ownBlock ≠ some c.rb
  ot : c.ov.ownBlock ≠ some c.tb
  rt : c.rb ≠ c.tb
theorem LvX.sep (h : LvX w B PB c pt gens orb reps todo) : Sep c := by
  have hl := h.cells
  obtain ⟨es, ck, hr, _⟩ := h.reps
  obtain ⟨et, ct, ht, _⟩ := h.todo
  obtain ⟨gs, hgo, _⟩ := h.gens
  have kg := fun b (hb : c.gv.ownBlock = some b) => (own_kind hgo hb).2
  have ko := fun b (hb : c.ov.ownBlock = some b) => (own_kind h.orb hb).2
  refine ⟨fun e => ?_, fun e => ?_, fun b e e' => ?_, fun e => ?_, fun e => ?_, fun e => ?_, fun e => ?_, fun e => ?_, fun e => ?_, h.ne⟩
  · obtain ⟨cs, h1⟩ := kg _ e
    rw [hl] at h1; simp at h1
  · obtain ⟨cs, h1⟩ := ko _ e
    rw [hl] at h1; simp at h1
  · obtain ⟨cs, h1⟩ := kg _ e
    obtain ⟨cs', h2⟩ := ko _ e'
    rw [h1] at h2; simp at h2
  · rw [e, hr] at hl; simp at hl
  · rw [e, ht] at hl; simp at hl
  · obtain ⟨cs, h1⟩ := kg _ e
    rw [hr] at h1; simp at h1
  · obtain ⟨cs, h1⟩ := kg _ e
    rw [ht] at h1; simp at h1
  · obtain ⟨cs, h1⟩ := ko _ e
    rw [hr] at h1; simp at h1
  · obtain ⟨cs, h1⟩ := ko _ e
    rw [ht] at h1; simp at h1
theorem cells_set {w : World} {b : Nat} {cs : Array Value} {t : TypeId} (h : w.heap[b]? = some (.cells cs t (0, 0))) (i : Nat) (v : Value) : (w.setCell ⟨b, i, none⟩ v).heap[b]? = some (.cells (cs.setIfInBounds i v) t (0, 0)) := by
  obtain ⟨hlt, e⟩ := Array.getElem?_eq_some_iff.1 h
  simp [World.setCell, Array.getElem?_modify, h]
theorem lvx_gens (h : LvX w B PB c pt gens orb reps todo) (hb : ∀ b, PB b → b < w.heap.size) (hB : B ≤ w.heap.size) (hv : PV w PB v p) {gs : List Value} (hgl : gs.length = gens.length) (hgs : ∀ (j : Nat) q, gens[j]? = some q → ∃ u, gs[j]? = some u ∧ PV w PB u q)
    (ho : w1.ownsRow B 28 1 v' (gens.length + 1) (gs ++ [v])) (hg : (w.alloc (.cells #[v] 28)).grownBy w1 c.gv.ownBlock) (hat : v'.ownBlock = c.gv.ownBlock ∨ v'.ownBlock = some (w.heap.size + 1)) :
    LvX (w1.setCell ⟨c.lb, 1, none⟩ v') B PB { c with gv := v' } pt (gens ++ [p]) orb reps todo ∧ Chg c.Blk w (w1.setCell ⟨c.lb, 1, none⟩ v') ∧ ∀ b, LC.Blk { c with gv := v' } b → c.Blk b ∨ w.heap.size ≤ b := by
  have s := h.sep
  have hlt : ∀ b, c.Blk b → b < w.heap.size := fun b hb => h.lt hb
  have h1 : ∀ b, b < w.heap.size → c.gv.ownBlock ≠ some b → w1.heap[b]? = w.heap[b]? := fun b hb hne =>
    (hg.block b (by rw [World.size_alloc]; omega) (fun e => hne e.symm)).trans (heap_alloc_old _ _ hb)
  have hs1 : w.heap.size + 1 ≤ w1.heap.size := by have := hg.size; rwa [World.size_alloc] at this
  have h2 : ∀ b, b < w.heap.size → c.gv.ownBlock ≠ some b → b ≠ c.lb → (w1.setCell ⟨c.lb, 1, none⟩ v').heap[b]? = w.heap[b]? := fun b hb hne hl => (Below.heap_setCell w1 _ _ b hl).trans (h1 b hb hne)
  have hlb := hlt c.lb (.inl rfl)
  have hvne : v'.ownBlock ≠ some c.lb := by
    rcases hat with e | e
    · rw [e]; exact s.gl
    · rw [e]; intro e'; have := Option.some.inj e'; omega
  have hnew : ∀ b, LC.Blk { c with gv := v' } b → c.Blk b ∨ w.heap.size ≤ b := by
    rintro b (e | e | e | e | e)
    · exact .inl (.inl e)
    · rcases hat with e' | e'
      · exact .inl (.inr (.inl (e'.symm.trans e)))
      · have e2 : some (w.heap.size + 1) = some b := e'.symm.trans e
        cases e2
        exact .inr (Nat.le_succ _)
    · exact .inl (.inr (.inr (.inl e)))
    · exact .inl (.inr (.inr (.inr (.inl e))))
    · exact .inl (.inr (.inr (.inr (.inr e))))
  have hPB : ∀ b, PB b → b < w.heap.size → (w1.setCell ⟨c.lb, 1, none⟩ v').heap[b]? = w.heap[b]? := fun b hp hlt' => h2 b hlt' (fun e => h.free b (.inr (.inl e)) hp) (fun e => h.free b (.inl e) hp)
  refine ⟨⟨?_, ⟨gs ++ [v], ?_, fun j q hj => ?_⟩, own_same h.orb (fun b hb => h2 b (hlt b (.inr (.inr (.inl hb)))) (fun e => s.go b e hb) (fun e => s.ol (by rw [hb, e]))), h.reps.keep (h2 _ (hlt _ (.inr (.inr (.inr (.inl rfl))))) s.gr (fun e => s.lr e.symm)) hPB, ?_, h.base, fun b hb' hp => ?_, h.ne⟩, ?_, hnew⟩
  · have := cells_set ((h1 c.lb hlb s.gl).trans h.cells) 1 v'
    rw [this]
    rfl
  · rw [List.length_append, List.length_singleton]
    exact own_same ho (fun b hb => Below.heap_setCell w1 _ _ b (fun e => hvne (by rw [hb]; exact congrArg some e)))
  · rcases Nat.lt_or_ge j gens.length with hj' | hj'
    · rw [List.getElem?_append_left hj'] at hj
      obtain ⟨u, hu, hpv⟩ := hgs j q hj
      exact ⟨u, by rw [List.getElem?_append_left (by omega)]; exact hu, Kd.V_step hpv hPB⟩
    · rw [List.getElem?_append_right hj'] at hj
      have hj0 : j - gens.length = 0 := by
        have := (List.getElem?_eq_some_iff.1 hj).1
        simp at this
        omega
      rw [hj0] at hj
      have e : p = q := by simpa using hj
      subst e
      refine ⟨v, ?_, Kd.V_step hv hPB⟩
      rw [List.getElem?_append_right (by omega), show j - gs.length = 0 from by omega]
      rfl
  · obtain ⟨et, ct, e1, e2⟩ := h.todo
    exact ⟨et, ct, (h2 _ (hlt _ (.inr (.inr (.inr (.inr rfl))))) s.gt (fun e => s.lt e.symm)).trans e1, e2⟩
  · rcases hnew b hb' with h3 | h3
    · exact h.free b h3 hp
    · have := hb b hp; omega
  · refine ⟨?_, ?_, ?_, ?_, fun b hb' hn => h2 b hb' (fun e => hn (.inr (.inl e))) (fun e => hn (.inl e))⟩
    · exact hg.os
    · exact hg.tape
    · exact hg.output
    · show w.heap.size ≤ (w1.setCell _ _).heap.size
      simp [World.setCell]; omega
theorem lvx_orb (h : LvX w B PB c pt gens orb reps todo) (hb : ∀ b, PB b → b < w.heap.size) (hB : B ≤ w.heap.size) {x : Int}
    (ho : w1.ownsRow B 3 1 v' (orb.length + 1) (nums .i64 orb ++ [.int .i64 x])) (hg : (w.alloc (.cells #[.int .i64 x] 3)).grownBy w1 c.ov.ownBlock) (hat : v'.ownBlock = c.ov.ownBlock ∨ v'.ownBlock = some (w.heap.size + 1)) :
    LvX (w1.setCell ⟨c.lb, 2, none⟩ v') B PB { c with ov := v' } pt gens (orb ++ [x]) reps todo ∧ Chg c.Blk w (w1.setCell ⟨c.lb, 2, none⟩ v') ∧ ∀ b, LC.Blk { c with ov := v' } b → c.Blk b ∨ w.heap.size ≤ b := by
  have s := h.sep
  have hlt : ∀ b, c.Blk b → b < w.heap.size := fun b hb => h.lt hb
  have h1 : ∀ b, b < w.heap.size → c.ov.ownBlock ≠ some b → w1.heap[b]? = w.heap[b]? := fun b hb hne =>
    (hg.block b (by rw [World.size_alloc]; omega) (fun e => hne e.symm)).trans (heap_alloc_old _ _ hb)
  have hs1 : w.heap.size + 1 ≤ w1.heap.size := by have := hg.size; rwa [World.size_alloc] at this
  have h2 : ∀ b, b < w.heap.size → c.ov.ownBlock ≠ some b → b ≠ c.lb → (w1.setCell ⟨c.lb, 2, none⟩ v').heap[b]? = w.heap[b]? := fun b hb hne hl => (Below.heap_setCell w1 _ _ b hl).trans (h1 b hb hne)
  have hlb := hlt c.lb (.inl rfl)
  have hvne : v'.ownBlock ≠ some c.lb := by
    rcases hat with e | e
    · rw [e]; exact s.ol
    · rw [e]; intro e'; have := Option.some.inj e'; omega
  have hnew : ∀ b, LC.Blk { c with ov := v' } b → c.Blk b ∨ w.heap.size ≤ b := by
    rintro b (e | e | e | e | e)
    · exact .inl (.inl e)
    · exact .inl (.inr (.inl e))
    · rcases hat with e' | e'
      · exact .inl (.inr (.inr (.inl (e'.symm.trans e))))
      · have e2 : some (w.heap.size + 1) = some b := e'.symm.trans e
        cases e2
        exact .inr (Nat.le_succ _)
    · exact .inl (.inr (.inr (.inr (.inl e))))
    · exact .inl (.inr (.inr (.inr (.inr e))))
  have hPB : ∀ b, PB b → b < w.heap.size → (w1.setCell ⟨c.lb, 2, none⟩ v').heap[b]? = w.heap[b]? := fun b hp hlt' => h2 b hlt' (fun e => h.free b (.inr (.inr (.inl e))) hp) (fun e => h.free b (.inl e) hp)
  refine ⟨⟨?_, h.gens.keep (fun b hb => h2 b (hlt b (.inr (.inl hb))) (fun e => s.go b hb e) (fun e => s.gl (by rw [hb, e]))) hPB, ?_, h.reps.keep (h2 _ (hlt _ (.inr (.inr (.inr (.inl rfl))))) s.or_ (fun e => s.lr e.symm)) hPB, ?_, h.base, fun b hb' hp => ?_, h.ne⟩, ?_, hnew⟩
  · have := cells_set ((h1 c.lb hlb s.ol).trans h.cells) 2 v'
    rw [this]
    rfl
  · rw [List.length_append, List.length_singleton, nums_append]
    exact own_same ho (fun b hb => Below.heap_setCell w1 _ _ b (fun e => hvne (by rw [hb]; exact congrArg some e)))
  · obtain ⟨et, ct, e1, e2⟩ := h.todo
    exact ⟨et, ct, (h2 _ (hlt _ (.inr (.inr (.inr (.inr rfl))))) s.ot (fun e => s.lt e.symm)).trans e1, e2⟩
  · rcases hnew b hb' with h3 | h3
    · exact h.free b h3 hp
    · have := hb b hp; omega
  · refine ⟨?_, ?_, ?_, ?_, fun b hb' hn => h2 b hb' (fun e => hn (.inr (.inr (.inl e)))) (fun e => hn (.inl e))⟩
    · exact hg.os
    · exact hg.tape
    · exact hg.output
    · show w.heap.size ≤ (w1.setCell _ _).heap.size
      simp [World.setCell]; omega
theorem pair_keys {et : Array MapEntry} {todo : List (Int × Int)} (he : et.toList.map (fun x => (x.key, x.val)) = todo.map (fun q => (Value.agg #[.int .i64 q.1, .int .i64 q.2], Value.bool true))) :
    et.toList.length = todo.length ∧ (∀ (j : Nat) e, et.toList[j]? = some e → ∃ q, todo[j]? = some q ∧ e.key = .agg #[.int .i64 q.1, .int .i64 q.2] ∧ e.val = .bool true) ∧ ∀ (j : Nat) q, todo[j]? = some q → ∃ e, et.toList[j]? = some e ∧ e.key = .agg #[.int .i64 q.1, .int .i64 q.2] ∧ e.val = .bool true := by
  have hl : et.toList.length = todo.length := by have := congrArg List.length he; simpa using this
  refine ⟨hl, fun j e h => ?_, fun j q h => ?_⟩
  · have h2 : (et.toList.map (fun x => (x.key, x.val)))[j]? = some (e.key, e.val) := by rw [List.getElem?_map, h]; rfl
    rw [he, List.getElem?_map] at h2
    obtain ⟨q, hq, e2⟩ := Option.map_eq_some_iff.1 h2
    simp only [Prod.mk.injEq] at e2
    exact ⟨q, hq, e2.1.symm, e2.2.symm⟩
  · have h2 : (todo.map (fun q => (Value.agg #[.int .i64 q.1, .int .i64 q.2], Value.bool true)))[j]? = some (.agg #[.int .i64 q.1, .int .i64 q.2], .bool true) := by rw [List.getElem?_map, h]; rfl
    rw [← he, List.getElem?_map] at h2
    obtain ⟨e, hq, e2⟩ := Option.map_eq_some_iff.1 h2
    simp only [Prod.mk.injEq] at e2
    exact ⟨e, hq, e2.1, e2.2⟩
def Small (t : List (Int × Int)) : Prop := ∀ q ∈ t, 0 ≤ q.1 ∧ q.1 ≤ 1000000000000 ∧ 0 ≤ q.2 ∧ q.2 ≤ 1000000000000
theorem pairs_ok {et : Array MapEntry} {todo : List (Int × Int)} (he : et.toList.map (fun x => (x.key, x.val)) = todo.map (fun q => (Value.agg #[.int .i64 q.1, .int .i64 q.2], Value.bool true))) (hs : Small todo) : KeysOk Try.prog 139 et := by
  intro e hm
  obtain ⟨j, hj, e2⟩ := List.getElem_of_mem hm
  obtain ⟨q, hq, hk, _⟩ := (pair_keys he).2.1 j e (by rw [List.getElem?_eq_getElem hj, e2])
  have := hs q (List.mem_of_getElem? hq)
  rw [hk]
  exact key_pair (by omega) (by omega) (by omega) (by omega)
theorem pairs_distinct {et : Array MapEntry} {todo : List (Int × Int)} (he : et.toList.map (fun x => (x.key, x.val)) = todo.map (fun q => (Value.agg #[.int .i64 q.1, .int .i64 q.2], Value.bool true))) (hn : todo.Nodup) : et.toList.Pairwise (fun a b => a.key ≠ b.key) := by
  refine List.pairwise_iff_getElem.2 (fun i j hi hj hij e => ?_)
  obtain ⟨q, hq, hk, _⟩ := (pair_keys he).2.1 i _ (List.getElem?_eq_getElem hi)
  obtain ⟨r, hr, hk', _⟩ := (pair_keys he).2.1 j _ (List.getElem?_eq_getElem hj)
  rw [hk, hk'] at e
  simp only [Value.agg.injEq, Array.mk.injEq, List.cons.injEq, Value.int.injEq, true_and, and_true] at e
  have e3 : q = r := Prod.ext e.1 e.2
  obtain ⟨h1, h2⟩ := List.getElem?_eq_some_iff.1 hq
  obtain ⟨h3, h4⟩ := List.getElem?_eq_some_iff.1 hr
  have := nodup_inj hn h1 h3 (by rw [h2, h4, e3])
  omega
theorem pair_key_inj {a b x y : Int} (e : Value.agg #[.int .i64 a, .int .i64 b] = Value.agg #[.int .i64 x, .int .i64 y]) : (a, b) = (x, y) := by
  simp only [Value.agg.injEq, Array.mk.injEq, List.cons.injEq, Value.int.injEq, true_and, and_true] at e
  exact Prod.ext e.1 e.2
theorem setBlock_at (w : World) (b : Nat) (o : Obj) (h : b < w.heap.size) : (setBlock w b o).heap[b]? = some o := by
  simp [setBlock, h]
theorem todo_put {b : Nat} (h : TodoAt w b todo) (hs : Small todo) (hn : todo.Nodup) {k : Int × Int} (hk : 0 ≤ k.1 ∧ k.1 ≤ 1000000000000 ∧ 0 ≤ k.2 ∧ k.2 ≤ 1000000000000) :
    ∃ w1, (Instr.mapUpdate 109 (.map (some b)) (.agg #[.int .i64 k.1, .int .i64 k.2]) (.bool true)).run Try.prog w = .ok () w1 ∧ TodoAt w1 b (setT todo k) ∧ Chg (fun i => i = b) w w1 := by
  obtain ⟨et, ct, h1, h2⟩ := h
  obtain ⟨l, hl⟩ := key_pair (x := k.1) (y := k.2) (by omega) (by omega) (by omega) (by omega)
  have hlt := lt_of_some h1
  unfold setT
  split
  · rename_i hm
    obtain ⟨j, hj, e⟩ := List.getElem_of_mem hm
    obtain ⟨e0, he0, hk0, hv0⟩ := (pair_keys h2).2.2 j k (by rw [List.getElem?_eq_getElem hj, e])
    refine ⟨_, gm_store_old law_pair Try.underlying109 h1 (pairs_ok h2 hs) (pairs_distinct h2 hn) hl he0 hk0 (.bool true), ⟨_, ct, setBlock_at w b _ hlt, ?_⟩, Chg.block w b _⟩
    rw [← h2]
    refine List.ext_getElem (by simp) (fun i h3 h4 => ?_)
    simp only [List.getElem_map, Array.getElem_toList, Array.getElem_modify]
    split
    · rename_i eij
      subst eij
      have : et.toList[j]? = some e0 := he0
      have e5 : et[j]'(by simpa using h4) = e0 := by
        have := (List.getElem?_eq_some_iff.1 he0).2
        simpa using this
      rw [e5, hk0, hv0]
    · rfl
  · rename_i hm
    refine ⟨_, gm_store_new law_pair Try.underlying109 h1 (pairs_ok h2 hs) hl (fun e he hke => ?_) (.bool true), ⟨_, ct + 1, setBlock_at w b _ hlt, ?_⟩, Chg.block w b _⟩
    · obtain ⟨j, hj, e2⟩ := List.getElem_of_mem he
      obtain ⟨q, hq, hkq, _⟩ := (pair_keys h2).2.1 j e (by rw [List.getElem?_eq_getElem hj, e2])
      rw [hkq] at hke
      have : q = k := pair_key_inj hke
      exact hm (this ▸ List.mem_of_getElem? hq)
    · rw [Array.toList_push, List.map_append, h2, List.map_append]
      rfl
theorem todo_look {b : Nat} (h : TodoAt w b todo) (hs : Small todo) (hn : todo.Nodup) {k : Int × Int} (hk : 0 ≤ k.1 ∧ k.1 ≤ 1000000000000 ∧ 0 ≤ k.2 ∧ k.2 ≤ 1000000000000) :
    ∀ W : World, W.heap[b]? = w.heap[b]? → (Instr.lookup 109 (.map (some b)) (.agg #[.int .i64 k.1, .int .i64 k.2]) false).run Try.prog W = .ok (.bool (decide (k ∈ todo))) W := by
  intro W hW
  obtain ⟨et, ct, h1, h2⟩ := h
  obtain ⟨l, hl⟩ := key_pair (x := k.1) (y := k.2) (by omega) (by omega) (by omega) (by omega)
  have hz : (zeroValue 4).run Try.prog W = .ok (.bool false) W := by kernel_rfl
  by_cases hm : k ∈ todo
  · obtain ⟨j, hj, e⟩ := List.getElem_of_mem hm
    obtain ⟨e0, he0, hk0, hv0⟩ := (pair_keys h2).2.2 j k (by rw [List.getElem?_eq_getElem hj, e])
    rw [gm_look_some law_pair Try.underlying109 (hW.trans h1) (pairs_ok h2 hs) (pairs_distinct h2 hn) hl he0 hk0 false, hv0, decide_eq_true hm]
    rfl
  · rw [gm_look_none law_pair Try.underlying109 hz (hW.trans h1) (pairs_ok h2 hs) hl (fun e he hke => by
      obtain ⟨j, hj, e2⟩ := List.getElem_of_mem he
      obtain ⟨q, hq, hkq, _⟩ := (pair_keys h2).2.1 j e (by rw [List.getElem?_eq_getElem hj, e2])
      rw [hkq] at hke
      have : q = k := pair_key_inj hke
      exact hm (this ▸ List.mem_of_getElem? hq)) false, decide_eq_false hm]
    rfl
theorem erase_at {α : Type} [BEq α] [LawfulBEq α] : ∀ {l : List α} {j : Nat} {k : α}, l.Nodup → l[j]? = some k → l.erase k = l.eraseIdx j
  | [], j, k, _, h => by simp at h
  | x :: t, 0, k, _, h => by
    have e : x = k := by simpa using h
    subst e
    simp
  | x :: t, j + 1, k, hn, h => by
    obtain ⟨hx, ht⟩ := List.nodup_cons.1 hn
    have hj : t[j]? = some k := by simpa using h
    have hne : x ≠ k := fun e => hx (e ▸ List.mem_of_getElem? hj)
    rw [List.erase_cons_tail (by simpa using hne), erase_at ht hj]
    rfl
theorem todo_drop {b : Nat} (h : TodoAt w b todo) (hs : Small todo) (hn : todo.Nodup) {k : Int × Int} (hk : 0 ≤ k.1 ∧ k.1 ≤ 1000000000000 ∧ 0 ≤ k.2 ∧ k.2 ≤ 1000000000000) (hm : k ∈ todo) (ty : TypeId) :
    ∃ w1, (Builtin.delete_ #[109, 139] ty #[.map (some b), .agg #[.int .i64 k.1, .int .i64 k.2]]).run Try.prog w = .ok (.tuple #[]) w1 ∧ TodoAt w1 b (todo.erase k) ∧ Chg (fun i => i = b) w w1 := by
  obtain ⟨et, ct, h1, h2⟩ := h
  obtain ⟨l, hl⟩ := key_pair (x := k.1) (y := k.2) (by omega) (by omega) (by omega) (by omega)
  have hlt := lt_of_some h1
  obtain ⟨j, hj, e⟩ := List.getElem_of_mem hm
  have hjk : todo[j]? = some k := by rw [List.getElem?_eq_getElem hj, e]
  obtain ⟨e0, he0, hk0, hv0⟩ := (pair_keys h2).2.2 j k hjk
  refine ⟨_, gm_delete law_pair Try.underlying109 h1 (pairs_ok h2 hs) (pairs_distinct h2 hn) hl he0 hk0 ty, ⟨_, ct, setBlock_at w b _ hlt, ?_⟩, Chg.block w b _⟩
  have e5 : (et.eraseIdxIfInBounds j).toList = et.toList.eraseIdx j := by simp
  rw [erase_at hn hjk, e5, ChangeMaps.map_eraseIdx, ChangeMaps.map_eraseIdx, h2]
theorem reps_put {n b : Nat} (h : RepsAt w PB b reps) (hr : ∀ x : Int, x ∈ reps.map (·.1) → 0 ≤ x ∧ x < n) (hn : n ≤ 512) {x : Int} (h0 : 0 ≤ x) (h1 : x < n) (hno : x ∉ reps.map (·.1)) {v : Value} {r : List Int} (hv : PV w PB v r) (hb : ¬ PB b) :
    ∃ w1, (Instr.mapUpdate 108 (.map (some b)) (.int .i64 x) v).run Try.prog w = .ok () w1 ∧ RepsAt w1 PB b (reps ++ [(x, r)]) ∧ Chg (fun i => i = b) w w1 := by
  obtain ⟨es, ck, h1', h2, h3⟩ := h
  have hlt := lt_of_some h1'
  have hkey : ∀ (j : Nat) e, es.toList[j]? = some e → ∃ q, reps[j]? = some q ∧ e.key = .int .i64 q.1 := by
    intro j e he
    have h2' : (es.toList.map (·.key))[j]? = some e.key := by rw [List.getElem?_map, he]; rfl
    rw [h2, List.getElem?_map] at h2'
    obtain ⟨q, hq, e2⟩ := Option.map_eq_some_iff.1 h2'
    exact ⟨q, hq, e2.symm⟩
  have hok : KeysOk Try.prog 3 es := fun e he => by
    obtain ⟨j, hj, e2⟩ := List.getElem_of_mem he
    obtain ⟨q, hq, e3⟩ := hkey j e (by rw [List.getElem?_eq_getElem hj, e2])
    have := hr q.1 (List.mem_map.2 ⟨q, List.mem_of_getElem? hq, rfl⟩)
    exact ⟨_, by rw [e3]; exact key_int (by omega) (by omega)⟩
  have hlen : es.toList.length = reps.length := by have := congrArg List.length h2; simpa using this
  have hkeep : ∀ o : Obj, ∀ i, PB i → i < w.heap.size → (setBlock w b o).heap[i]? = w.heap[i]? := fun o i hp hi => (Chg.block w b o).keep i hi (fun e => hb (e ▸ hp))
  refine ⟨_, gm_store_new law_int Try.underlying108 h1' hok (key_int (by omega) (by omega)) (fun e he hx => ?_) v, ⟨_, ck + 1, setBlock_at w b _ hlt, ?_, fun j q hq => ?_⟩, Chg.block w b _⟩
  · obtain ⟨j, hj, e2⟩ := List.getElem_of_mem he
    obtain ⟨q, hq, e3⟩ := hkey j e (by rw [List.getElem?_eq_getElem hj, e2])
    rw [hx] at e3
    have e4 : x = q.1 := by injection e3
    exact hno (List.mem_map.2 ⟨q, List.mem_of_getElem? hq, e4.symm⟩)
  · rw [Array.toList_push, List.map_append, h2, List.map_append]
    rfl
  · rw [Array.toList_push]
    rcases Nat.lt_or_ge j reps.length with hj | hj
    · rw [List.getElem?_append_left hj] at hq
      obtain ⟨e, he, hpv⟩ := h3 j q hq
      exact ⟨e, by rw [List.getElem?_append_left (by omega)]; exact he, Kd.V_step hpv (hkeep _)⟩
    · rw [List.getElem?_append_right hj] at hq
      have hj0 : j - reps.length = 0 := by
        have := (List.getElem?_eq_some_iff.1 hq).1
        simp at this
        omega
      rw [hj0] at hq
      have e : (x, r) = q := by simpa using hq
      subst e
      refine ⟨⟨.int .i64 x, v, ck⟩, ?_, Kd.V_step hv (hkeep _)⟩
      rw [List.getElem?_append_right (by omega), show j - es.toList.length = 0 from by omega]
      rfl
theorem lvx_todo (h : LvX w B PB c pt gens orb reps todo) {todo' : List (Int × Int)} (ht : TodoAt w1 c.tb todo') (hc : Chg (fun i => i = c.tb) w w1) : LvX w1 B PB c pt gens orb reps todo' := by
  have s := h.sep
  have hk : ∀ b, b < w.heap.size → b ≠ c.tb → w1.heap[b]? = w.heap[b]? := fun b hb hne => hc.keep b hb hne
  have hPB : ∀ b, PB b → b < w.heap.size → w1.heap[b]? = w.heap[b]? := fun b hp hlt => hk b hlt (fun e => h.free b (.inr (.inr (.inr (.inr e)))) hp)
  exact ⟨(hk _ (h.lt (.inl rfl)) s.lt).trans h.cells, h.gens.keep (fun b hb => hk b (h.lt (.inr (.inl hb))) (fun e => s.gt (by rw [hb, e]))) hPB, own_same h.orb (fun b hb => hk b (h.lt (.inr (.inr (.inl hb)))) (fun e => s.ot (by rw [hb, e]))),
    h.reps.keep (hk _ (h.lt (.inr (.inr (.inr (.inl rfl))))) s.rt) hPB, ht, h.base, h.free, h.ne⟩
theorem lvx_reps (h : LvX w B PB c pt gens orb reps todo) {reps' : List (Int × List Int)} (hr : RepsAt w1 PB c.rb reps') (hc : Chg (fun i => i = c.rb) w w1) : LvX w1 B PB c pt gens orb reps' todo := by
  have s := h.sep
  have hk : ∀ b, b < w.heap.size → b ≠ c.rb → w1.heap[b]? = w.heap[b]? := fun b hb hne => hc.keep b hb hne
  have hPB : ∀ b, PB b → b < w.heap.size → w1.heap[b]? = w.heap[b]? := fun b hp hlt => hk b hlt (fun e => h.free b (.inr (.inr (.inr (.inl e)))) hp)
  refine ⟨(hk _ (h.lt (.inl rfl)) s.lr).trans h.cells, h.gens.keep (fun b hb => hk b (h.lt (.inr (.inl hb))) (fun e => s.gr (by rw [hb, e]))) hPB, own_same h.orb (fun b hb => hk b (h.lt (.inr (.inr (.inl hb)))) (fun e => s.or_ (by rw [hb, e]))),
    hr, ?_, h.base, h.free, h.ne⟩
  obtain ⟨et, ct, e1, e2⟩ := h.todo
  exact ⟨et, ct, (hk _ (h.lt (.inr (.inr (.inr (.inr rfl))))) (fun e => s.rt e.symm)).trans e1, e2⟩
end Go.Proofs.Ytpkgckccfanchaa.M
