/- Part of the proof of StabchainSymmetric, merged by wip/tools/merge.py. -/
import Derived.Test.YtpkgckccfanchaaProg
import Derived.Below
import Derived.Deep.Draws
import Derived.Deep.AppendLies
import Derived.Maps.AppendAt
import Derived.OwnWalk
import Derived.Laws.BytesArg
import Derived.Laws.MakeOwn
import Derived.Laws.OwnMore
import Derived.Deep.OwnRows
import Derived.Tactics
import Derived.Lib.ConvBytes
import Derived.Laws.Slices
import Derived.WalkKit
import Derived.KernelRfl
import Derived.RowKit3
import Derived.Deep.LoopGhost
import Derived.Deep.QuietTactic
import Derived.BigQuiet
import Derived.WideLaws
import Derived.Deep.DeepCutAuto
import Derived.Deep.CutBlock
import Derived.Deep.RegionHeld3
import Derived.Laws.Rows
import Derived.Lib.AppendStr
import Derived.ArgAppend
import Derived.Laws.IdiomCopy
import Derived.OrdersHeld
import Derived.Laws.BitsLemmas
import Derived.RowKit
import Derived.RegionTactic
import Derived.ChangeAlike
import Derived.LoopTactic
import Derived.Deep.DeepMust
import Derived.Laws.CopyOwn
import Derived.Test.YtpkgckccfanchaaWWords
import Derived.Test.YtpkgckccfanchaaWLast
import Derived.Test.YtpkgckccfanchaaWTab
import Derived.Test.YtpkgckccfanchaaWFour
import Derived.Test.YtpkgckccfanchaaWQPut
import Derived.Test.YtpkgckccfanchaaWApart
import Derived.Test.YtpkgckccfanchaaWArr
import Derived.Test.YtpkgckccfanchaaWZeros
import Derived.Test.YtpkgckccfanchaaWFoot
import Derived.Test.YtpkgckccfanchaaWKept
import Derived.Test.YtpkgckccfanchaaWShare
import Derived.Test.YtpkgckccfanchaaWN
import Derived.Test.YtpkgckccfanchaaWFootNe
import Derived.Test.YtpkgckccfanchaaWAt
import Derived.Test.YtpkgckccfanchaaWEqStruct
import Derived.Test.YtpkgckccfanchaaWRepsOne
import Derived.Test.YtpkgckccfanchaaWInv
import Derived.Test.YtpkgckccfanchaaWInvWords
import Derived.Test.YtpkgckccfanchaaWGuard
import Derived.Test.YtpkgckccfanchaaWNEv
import Derived.Test.YtpkgckccfanchaaWMore
import Derived.Maps.OwnSet
import Derived.DeepKeys4
import Derived.Test.YtpkgckccfanchaaBStabchainSymmetric1

/- ## M0 -/
-- Written by wip/tools/pp.py (a driver round the kit's printer, with patches of this session): not a printed file.
namespace Go.Proofs.Ytpkgckccfanchaa.M
open Go.RowKit Go.Proofs.YtpkgckccfanchaaW.PrintWords Go.Proofs.YtpkgckccfanchaaW.PrintLast Go.Proofs.YtpkgckccfanchaaW.PrintMore
attribute [local go_sem] max2_int min2_int max_two min_two max_three min_three max_four min_four   -- for this text's walks alone
set_option linter.unusedVariables false
set_option linter.unusedSimpArgs false



def errW : Option Int → Value
  | none => .nilIface
  | some c => .iface 0 (.int .i64 c)
theorem errW_none : errW none = .nilIface := rfl
theorem errW_some (c : Int) : errW (some c) = .iface 0 (.int .i64 c) := rfl

theorem info3 : (Try.prog.info? 3).map (fun i => (i.zero, i.size, i.bytes)) = some (some (.int .i64 0), 1, 8) := by kernel_rfl
theorem info4 : (Try.prog.info? 4).map (fun i => (i.zero, i.size, i.bytes)) = some (some (.bool false), 1, 1) := by kernel_rfl
theorem info28 : (Try.prog.info? 28).map (fun i => (i.zero, i.size, i.bytes)) = some (some (.slice none 0 0), 1, 24) := by kernel_rfl
theorem info98 : (Try.prog.info? 98).map (fun i => (i.zero, i.size, i.bytes)) = some (some (.int .u32 0), 1, 4) := by kernel_rfl
-- the values' own types
def rd_L1 (xs : List (List Int)) (i : Int) : (List Int) := xs.getD i.toNat ([] : List Int)
theorem at_L1 {w : World} {A : Option Addr} {n : Nat} {xs : List (List Int)} (h : Kd.C (Kd.slice 3 (Kd.int .i64)) w A n xs) (i : Int) (h0 : 0 ≤ i) (h1 : i < n) : ∃ ad A0 c0, A = some ad ∧ w.cell? (ad.add i.toNat) = some (.slice A0 (rd_L1 xs i).length c0) ∧ (rd_L1 xs i).length ≤ c0 ∧ (Kd.int .i64).C w A0 (rd_L1 xs i).length (rd_L1 xs i) := by
  obtain ⟨ad, c, e, _, hK, hc0⟩ := Kd.C_get h ([] : List Int) i h0 h1
  have hc : ∀ j u, c[j]? = some u → w.cell? (ad.add (i.toNat * 1 + j)) = some u := hc0
  obtain ⟨A0, c0, rfl, l0, g0⟩ := hK
  exact ⟨ad, A0, c0, e, by have hq := hc 0 _ rfl; rwa [Nat.mul_one, Nat.add_zero] at hq, l0, g0⟩

def rd_L4 (xs : List (List Int)) (i : Int) : (List Int) := xs.getD i.toNat ([] : List Int)
theorem at_L4 {w : World} {A : Option Addr} {n : Nat} {xs : List (List Int)} (h : Kd.C (Kd.slice 140 (Kd.int .i8)) w A n xs) (i : Int) (h0 : 0 ≤ i) (h1 : i < n) : ∃ ad A0 c0, A = some ad ∧ w.cell? (ad.add i.toNat) = some (.slice A0 (rd_L4 xs i).length c0) ∧ (rd_L4 xs i).length ≤ c0 ∧ (Kd.int .i8).C w A0 (rd_L4 xs i).length (rd_L4 xs i) := by
  obtain ⟨ad, c, e, _, hK, hc0⟩ := Kd.C_get h ([] : List Int) i h0 h1
  have hc : ∀ j u, c[j]? = some u → w.cell? (ad.add (i.toNat * 1 + j)) = some u := hc0
  obtain ⟨A0, c0, rfl, l0, g0⟩ := hK
  exact ⟨ad, A0, c0, e, by have hq := hc 0 _ rfl; rwa [Nat.mul_one, Nat.add_zero] at hq, l0, g0⟩

def rd_L6 (xs : List (List (List Int))) (i : Int) : (List (List Int)) := xs.getD i.toNat ([] : List (List Int))
theorem at_L6 {w : World} {A : Option Addr} {n : Nat} {xs : List (List (List Int))} (h : Kd.C (Kd.slice 28 (Kd.slice 3 (Kd.int .i64))) w A n xs) (i : Int) (h0 : 0 ≤ i) (h1 : i < n) : ∃ ad A0 c0, A = some ad ∧ w.cell? (ad.add i.toNat) = some (.slice A0 (rd_L6 xs i).length c0) ∧ (rd_L6 xs i).length ≤ c0 ∧ (Kd.slice 3 (Kd.int .i64)).C w A0 (rd_L6 xs i).length (rd_L6 xs i) := by
  obtain ⟨ad, c, e, _, hK, hc0⟩ := Kd.C_get h ([] : List (List Int)) i h0 h1
  have hc : ∀ j u, c[j]? = some u → w.cell? (ad.add (i.toNat * 1 + j)) = some u := hc0
  obtain ⟨A0, c0, rfl, l0, g0⟩ := hK
  exact ⟨ad, A0, c0, e, by have hq := hc 0 _ rfl; rwa [Nat.mul_one, Nat.add_zero] at hq, l0, g0⟩

/-! #### struct type 96 -/
structure S96 where
  f0 : Int
  f1 : (List (List Int))
  f2 : (List (List Int))
def z96 : S96 := ⟨(0 : Int), ([] : List (List Int)), ([] : List (List Int))⟩
def k96 : Kd S96 := Kd.iso (Kd.pair (Kd.int .i64) (Kd.pair (Kd.slice 28 (Kd.slice 3 (Kd.int .i64))) (Kd.slice 28 (Kd.slice 3 (Kd.int .i64))))) (fun x : S96 => (x.f0, x.f1, x.f2))
theorem k96_heap : Kd.Heap k96 := Kd.heap_iso _ (Kd.heap_pair (Kd.heap_int .i64) (Kd.heap_pair (Kd.heap_slice 28 (Kd.heap_slice 3 (Kd.heap_int .i64))) (Kd.heap_slice 28 (Kd.heap_slice 3 (Kd.heap_int .i64)))))
theorem k96_open {w : World} {x : S96} {cs : List Value} (h : k96.K w x cs) : ∃ A1 c1 A2 c2, cs = [.int .i64 x.f0, .slice A1 x.f1.length c1, .slice A2 x.f2.length c2] ∧ x.f1.length ≤ c1 ∧ (Kd.slice 3 (Kd.int .i64)).C w A1 x.f1.length x.f1 ∧ x.f2.length ≤ c2 ∧ (Kd.slice 3 (Kd.int .i64)).C w A2 x.f2.length x.f2 := by
  obtain ⟨_, _, rfl, rfl, ⟨_, _, rfl, ⟨A1, c1, rfl, l1, g1⟩, ⟨A2, c2, rfl, l2, g2⟩⟩⟩ := h
  exact ⟨A1, c1, A2, c2, rfl, l1, g1, l2, g2⟩
theorem k96_openM {w : World} {base : Nat} {ok : Nat → Prop} {x : S96} {cs : List Value} (h : k96.M w base ok x cs) : ∃ v1 v2, cs = [.int .i64 x.f0, v1, v2] ∧ (Kd.slice 3 (Kd.int .i64)).R 28 w base ok v1 x.f1 ∧ (Kd.slice 3 (Kd.int .i64)).R 28 w base ok v2 x.f2 := by
  obtain ⟨_, _, rfl, rfl, ⟨_, _, rfl, ⟨v1, rfl, g1⟩, ⟨v2, rfl, g2⟩⟩⟩ := h
  exact ⟨v1, v2, rfl, g1, g2⟩
theorem k96_mk (w : World) (x : S96) {A1 : Option Addr} {c1 : Nat} (l1 : x.f1.length ≤ c1) (g1 : (Kd.slice 3 (Kd.int .i64)).C w A1 x.f1.length x.f1) {A2 : Option Addr} {c2 : Nat} (l2 : x.f2.length ≤ c2) (g2 : (Kd.slice 3 (Kd.int .i64)).C w A2 x.f2.length x.f2) : k96.K w x [.int .i64 x.f0, .slice A1 x.f1.length c1, .slice A2 x.f2.length c2] := ⟨[.int .i64 x.f0], [.slice A1 x.f1.length c1, .slice A2 x.f2.length c2], rfl, rfl, ⟨[.slice A1 x.f1.length c1], [.slice A2 x.f2.length c2], rfl, ⟨A1, c1, rfl, l1, g1⟩, ⟨A2, c2, rfl, l2, g2⟩⟩⟩
theorem k96_mkM (w : World) (base : Nat) (ok : Nat → Prop) (x : S96) {v1 : Value} (g1 : (Kd.slice 3 (Kd.int .i64)).R 28 w base ok v1 x.f1) {v2 : Value} (g2 : (Kd.slice 3 (Kd.int .i64)).R 28 w base ok v2 x.f2) : k96.M w base ok x [.int .i64 x.f0, v1, v2] := ⟨[.int .i64 x.f0], [v1, v2], rfl, rfl, ⟨[v1], [v2], rfl, ⟨v1, rfl, g1⟩, ⟨v2, rfl, g2⟩⟩⟩
theorem k96_openF {W : World} {ok : Nat → Prop} {x : S96} {cs : List Value} (h : Kd.FK k96 W ok x cs) : ∃ A1 c1 A2 c2, cs = [.int .i64 x.f0, .slice A1 x.f1.length c1, .slice A2 x.f2.length c2] ∧ x.f1.length ≤ c1 ∧ Kd.F (Kd.slice 3 (Kd.int .i64)) W ok A1 x.f1.length x.f1 ∧ x.f2.length ≤ c2 ∧ Kd.F (Kd.slice 3 (Kd.int .i64)) W ok A2 x.f2.length x.f2 := by
  obtain ⟨A1, c1, A2, c2, rfl, l1, _, l2, _⟩ := k96_open (Kd.FK_now h)
  exact ⟨A1, c1, A2, c2, rfl, l1, (fun W' hW => by obtain ⟨A1_, c1_, A2_, c2_, he, l1_, g1_, l2_, g2_⟩ := k96_open (h W' hW); injection (Option.some.inj (show some (Value.slice A1 x.f1.length c1) = some (Value.slice A1_ x.f1.length c1_) from congrArg (fun l => l[1]?) he)) with ha_ _ _; rw [ha_]; exact g1_), l2, (fun W' hW => by obtain ⟨A1_, c1_, A2_, c2_, he, l1_, g1_, l2_, g2_⟩ := k96_open (h W' hW); injection (Option.some.inj (show some (Value.slice A2 x.f2.length c2) = some (Value.slice A2_ x.f2.length c2_) from congrArg (fun l => l[2]?) he)) with ha_ _ _; rw [ha_]; exact g2_)⟩
theorem k96_mkF (W : World) (ok : Nat → Prop) (x : S96) {A1 : Option Addr} {c1 : Nat} (l1 : x.f1.length ≤ c1) (g1 : Kd.F (Kd.slice 3 (Kd.int .i64)) W ok A1 x.f1.length x.f1) {A2 : Option Addr} {c2 : Nat} (l2 : x.f2.length ≤ c2) (g2 : Kd.F (Kd.slice 3 (Kd.int .i64)) W ok A2 x.f2.length x.f2) : Kd.FK k96 W ok x [.int .i64 x.f0, .slice A1 x.f1.length c1, .slice A2 x.f2.length c2] := fun W2 hW => k96_mk W2 x l1 (g1 W2 hW) l2 (g2 W2 hW)
def rd_T96 (xs : List S96) (i : Int) : S96 := xs.getD i.toNat z96
theorem at_T96 {w : World} {A : Option Addr} {n : Nat} {xs : List S96} (h : Kd.C k96 w A n xs) (i : Int) (h0 : 0 ≤ i) (h1 : i < n) : ∃ ad A1 c1 A2 c2, A = some ad ∧ w.cell? (ad.add (i.toNat * 3)) = some (.int .i64 (rd_T96 xs i).f0) ∧ w.cell? ⟨(ad.add (i.toNat * 3)).block, (ad.add (i.toNat * 3)).off + 1, none⟩ = some (.slice A1 (rd_T96 xs i).f1.length c1) ∧ w.cell? ⟨(ad.add (i.toNat * 3)).block, (ad.add (i.toNat * 3)).off + 2, none⟩ = some (.slice A2 (rd_T96 xs i).f2.length c2) ∧ (rd_T96 xs i).f1.length ≤ c1 ∧ (Kd.slice 3 (Kd.int .i64)).C w A1 (rd_T96 xs i).f1.length (rd_T96 xs i).f1 ∧ (rd_T96 xs i).f2.length ≤ c2 ∧ (Kd.slice 3 (Kd.int .i64)).C w A2 (rd_T96 xs i).f2.length (rd_T96 xs i).f2 := by
  obtain ⟨ad, c, e, _, hK, hc0⟩ := Kd.C_get h z96 i h0 h1
  have hc : ∀ j u, c[j]? = some u → w.cell? (ad.add (i.toNat * 3 + j)) = some u := hc0
  obtain ⟨A1, c1, A2, c2, rfl, l1, g1, l2, g2⟩ := k96_open hK
  exact ⟨ad, A1, c1, A2, c2, e, hc 0 _ rfl, by rw [← add_field _ _ 1 (by omega)]; exact hc 1 _ rfl, by rw [← add_field _ _ 2 (by omega)]; exact hc 2 _ rfl, l1, g1, l2, g2⟩

def trimZ (l : List Int) : List Int := (l.reverse.dropWhile (· == 0)).reverse
theorem trimZ_snoc0 (l : List Int) : trimZ (l ++ [0]) = trimZ l := by simp [trimZ]
theorem trimZ_snoc (l : List Int) (x : Int) (h : x ≠ 0) : trimZ (l ++ [x]) = l ++ [x] := by simp [trimZ, h]
theorem trimZ_nil : trimZ [] = [] := rfl
theorem take_snoc_rd (l : List Int) (k : Nat) (h : k + 1 ≤ l.length) : l.take (k + 1) = l.take k ++ [rd l (k : Int)] := by
  rw [List.take_succ_eq_append_getElem (by omega)]
  simp [rd, List.getD_eq_getElem?_getD, List.getElem?_eq_getElem (show k < l.length by omega)]
/-- 0, 1, .., n - 1. -/
def rangeI (n : Nat) : List Int := (List.range n).map (fun x : Nat => (x : Int))
theorem rangeI_length (n : Nat) : (rangeI n).length = n := by simp [rangeI]
theorem rangeI_succ (n : Nat) : rangeI (n + 1) = rangeI n ++ [(n : Int)] := by simp [rangeI, List.range_succ]
/-- The first k places of l are 0, 1, .., k - 1. -/
def fillI (k : Nat) (l : List Int) : List Int := rangeI k ++ l.drop k
theorem fillI_length (k : Nat) (l : List Int) (h : k ≤ l.length) : (fillI k l).length = l.length := by simp [fillI, rangeI_length]; omega
theorem fillI_set (k : Nat) (l : List Int) (h : k < l.length) : (fillI k l).set k (k : Int) = fillI (k + 1) l := by
  unfold fillI
  rw [List.set_append_right _ _ (by rw [rangeI_length]; exact Nat.le_refl _), rangeI_length, Nat.sub_self, rangeI_succ, List.append_assoc]
  congr 1
  rw [List.drop_eq_getElem_cons h, List.set_cons_zero]
  rfl
theorem int_mag (b : Bool) (x : Value) (W : World) : Sem.run Try.prog (Instr.field 24 (.agg #[.bool b, x]) 1) W = .ok x W := by kernel_rfl
attribute [go_sem] int_mag
theorem cell_heap {w w1 : World} {a : Addr} (e : w1.heap[a.block]? = w.heap[a.block]?) : w1.cell? a = w.cell? a := by simp only [World.cell?, e]
theorem setCell_undef {w : World} {a : Addr} {v : Value} (h : w.cell? a = some v) (u : Value) : (w.setCell a u).cell? a = some u := by
  unfold World.cell? at h ⊢
  split at h
  case h_2 => simp at h
  case h_1 c t f hb =>
    split at h
    case isTrue => simp at h
    case isFalse hs =>
      have hlt : a.off < c.size := by
        rcases Nat.lt_or_ge a.off c.size with h2 | h2
        · exact h2
        · rw [Array.getElem?_eq_none h2] at h; simp at h
      simp [World.setCell, hb, hs, hlt, Array.getElem?_modify]
/-- What a row of numbers says hangs on its own block alone: a variable of another form may be written. -/
theorem V_cells {e base g : Nat} {ok : Nat → Prop} {W : World} {v : Value} {xs : List Int} {cs : Array Value} {T : TypeId} (h : Kd.V (Kd.int .u32) e W base ok v xs) (hg : W.heap[g]? = some (.cells cs T (0, 0))) (hcs : ∀ (j : Nat) (x : Int), cs[j]? ≠ some (.int .u32 x)) (i : Nat) (u : Value) :
    Kd.V (Kd.int .u32) e (W.setCell ⟨g, i, none⟩ u) base ok v xs := by
  obtain ⟨A, c, hv, hl, hf⟩ := h
  refine ⟨A, c, hv, hl, fun W' hW => ?_⟩
  have hr := Kd.reads_of_C (enc := Value.int .u32) (d := (0 : Int)) (h1 := fun _ => rfl) (Kd.F_now hf)
  refine Kd.C_of_reads (enc := Value.int .u32) (d := (0 : Int)) (h1 := fun _ => rfl) ⟨hr.1, hr.2.1, fun hn => ?_⟩
  obtain ⟨ad, e1, hc⟩ := hr.2.2 hn
  refine ⟨ad, e1, ?_⟩
  have hb : ∀ j, (ad.add j).block = ad.block := by intro j; unfold Addr.add; split <;> rfl
  have hne : ad.block ≠ g := by
    intro e2
    have h0 := hc 0 hn
    unfold World.cell? at h0
    rw [hb, e2, hg] at h0
    dsimp only at h0
    split at h0
    · simp at h0
    · exact hcs _ _ h0
  have hok : ok ad.block := Classical.byContradiction fun hno => by
    have h2 := Kd.reads_of_C (enc := Value.int .u32) (d := (0 : Int)) (h1 := fun _ => rfl) (hf (W.setCell (ad.add 0) (.bool true)) (fun k hk _ => Below.heap_setCell W _ _ k (fun e3 => hno (by rw [← hb 0, ← e3]; exact hk))))
    obtain ⟨ad2, e4, hc2⟩ := h2.2.2 hn
    rw [e1] at e4
    cases e4
    have h5 := hc2 0 hn
    rw [setCell_undef (hc 0 hn)] at h5
    cases h5
  intro j hj
  rw [← hc j hj]
  refine cell_heap ?_
  rw [hb]
  have hlt : ad.block < W.heap.size := by
    have h0 := hc 0 hn
    unfold World.cell? at h0
    rw [hb] at h0
    rcases Nat.lt_or_ge ad.block W.heap.size with h2 | h2
    · exact h2
    · rw [Array.getElem?_eq_none h2] at h0; simp at h0
  have e5 : (W.setCell ⟨g, i, none⟩ u).heap[ad.block]? = W.heap[ad.block]? := Below.heap_setCell W _ _ _ hne
  exact (hW _ hok (by have := heap_lt e5 hlt; exact this)).trans e5
/-- A variable that holds a flag and a slice is no row of numbers. -/
theorem flag_cells (b : Bool) (A : Option Addr) (n c : Nat) : ∀ (j : Nat) (x : Int), (#[.bool b, .slice A n c] : Array Value)[j]? ≠ some (.int .u32 x)
  | 0, _ => by simp
  | 1, _ => by simp
  | j + 2, _ => by simp

end Go.Proofs.Ytpkgckccfanchaa.M

/- ## M26 -/
-- Written by wip/tools/pp.py (a driver round the kit's printer, with patches of this session): not a printed file.
namespace Go.Proofs.Ytpkgckccfanchaa.M
open Go.RowKit Go.Proofs.YtpkgckccfanchaaW.PrintWords Go.Proofs.YtpkgckccfanchaaW.PrintLast Go.Proofs.YtpkgckccfanchaaW.PrintMore
attribute [local go_sem] max2_int min2_int max_two min_two max_three min_three max_four min_four   -- for this text's walks alone
set_option linter.unusedVariables false
set_option linter.unusedSimpArgs false

/-! ### quadformref01_cmp: function 50 -/
def quadformref01_cmp.l0 : Nat → List Int → List Int → Int → Option (Int)
  | 0, _, _, _ => none
  | k + 1, x0, x1, x5 => if x5 ≥ 0 then (if 0 ≤ x5 then (if x5 < (x0.length : Int) then (if x5 < (x1.length : Int) then (if (rd x0 x5) = (rd x1 x5) then (quadformref01_cmp.l0 k x0 x1 (wrap64 (x5 - 1))) else (if (rd x0 x5) < (rd x1 x5) then (some (-1)) else (some 1))) else (none)) else (none)) else (none)) else (some 0)
def quadformref01_cmp.f (k : Nat) (l0 : List Int) (l1 : List Int) : Option (Int) := if (l0.length : Int) = (l1.length : Int) then (quadformref01_cmp.l0 k l0 l1 (wrap64 ((l0.length : Int) - 1))) else (if (l0.length : Int) < (l1.length : Int) then (some (-1)) else (some 1))
theorem quadformref01_cmp.mono_l : ∀ k, (∀ y0 y1 y2, LeO (quadformref01_cmp.l0 k y0 y1 y2) (quadformref01_cmp.l0 (k + 1) y0 y1 y2))
  | 0 => fun _ _ _ r h => by simp [quadformref01_cmp.l0] at h
  | k + 1 => by
    have ih0 := quadformref01_cmp.mono_l k
    · intro y0 y1 y2
      unfold quadformref01_cmp.l0
      repeat' first
      | (with_reducible exact ih0 _ _ _)
      | (with_reducible exact LeO.refl _)
      | (with_reducible exact LeO.none _)
      | (with_reducible refine LeO.ite ?_ ?_)
      | (with_reducible refine LeO.bind ?_ (fun _ => ?_))
      | exact ih0 _ _ _
      | exact LeO.none _
      | refine LeO.ite ?_ ?_
      | refine LeO.bind ?_ (fun _ => ?_)
theorem quadformref01_cmp.mono : ∀ a0 a1 k, LeO (quadformref01_cmp.f k a0 a1) (quadformref01_cmp.f (k + 1) a0 a1) := by
  intro a0 a1 k
  have ih0 := quadformref01_cmp.mono_l k
  unfold quadformref01_cmp.f
  repeat' first
      | (with_reducible exact ih0 _ _ _)
      | (with_reducible exact LeO.refl _)
      | (with_reducible exact LeO.none _)
      | (with_reducible refine LeO.ite ?_ ?_)
      | (with_reducible refine LeO.bind ?_ (fun _ => ?_))
      | exact ih0 _ _ _
      | exact LeO.none _
      | refine LeO.ite ?_ ?_
      | refine LeO.bind ?_ (fun _ => ?_)
set_option maxHeartbeats 8000000 in
set_option maxRecDepth 100000 in
theorem quadformref01_cmp.calls (k : Nat) (A0 : Option Addr) (c0 : Nat) (l0 : List Int) (A1 : Option Addr) (c1 : Nat) (l1 : List Int) (r : Int) (w : World) (hr0 : Kd.C (Kd.int .u32) w A0 l0.length l0) (hc0 : l0.length ≤ c0) (hr1 : Kd.C (Kd.int .u32) w A1 l1.length l1) (hc1 : l1.length ≤ c1) (h : quadformref01_cmp.f k l0 l1 = some r) :
    Calls Try.prog 50 #[.slice A0 l0.length c0, .slice A1 l1.length c1] w fun e w' => e = .returned (.int .i64 r) ∧ Drawn0 w w' := by
  have HR0 := Aside0.mk hr0
  have HC0 := Aside0.mk hc0
  clear hr0 hc0
  have HR1 := Aside0.mk hr1
  have HC1 := Aside0.mk hc1
  clear hr1 hc1
  have H : (if (l0.length : Int) = (l1.length : Int) then (quadformref01_cmp.l0 k l0 l1 (wrap64 ((l0.length : Int) - 1))) else (if (l0.length : Int) < (l1.length : Int) then (some (-1)) else (some 1))) = some r := h
  clear h
  by_cases c3 : (l0.length : Int) = (l1.length : Int)
  · rw [if_pos c3] at H
    have c3b0 : ((l0.length : Int) == (l1.length : Int)) = true := beq_iff_eq.mpr c3
    have c3b1 : ((l0.length : Int) != (l1.length : Int)) = false := bne_eq_false_iff_eq.mpr c3
    have c3b2 : (l0.length == l1.length) = true := by first | simpa using c3 | (simp at c3 ⊢; omega)
    clear c3
    have H' := Aside0.mk H
    clear H
    go_enter Try.func50, Try.ntmps50
    go_wp2
    repeat (go_quiet (fail); try go_wp2)
    go_loopg [5] k (fun kq v5 w' => ∃ (x5_1 : Int), v5 = .int .i64 x5_1 ∧ Aside0 (quadformref01_cmp.l0 kq l0 l1 x5_1 = some r) ∧ Aside0 (kq ≤ k) ∧ Drawn0 w w')
    case atStart => exact ⟨(wrap64 ((l0.length : Int) - 1)), (by first | rfl | (simp; done) | (simp [*]; done)), H', ⟨Nat.le_refl _⟩, by repeat (first | exact Drawn0.refl _ | apply Drawn0.step)⟩
    case round =>
      clear H'
      try clear c1
      try clear p2
      try clear c3
      try clear c3b0
      try clear c3b1
      try clear c3b2
      obtain ⟨x5_1, rfl, HA, HK1, ⟨m1, rfl⟩⟩ := hrel
      cases gk with
      | zero => exact absurd HA.out (by simp [quadformref01_cmp.l0])
      | succ k1 =>
        have H := HA.out
        clear HA
        simp only [quadformref01_cmp.l0] at H
        by_cases c4 : x5_1 ≥ 0
        · rw [if_pos c4] at H
          have c4b0 : decide (0 ≤ x5_1) = true := decide_eq_true c4
          clear c4
          by_cases c5 : 0 ≤ x5_1
          · rw [if_pos c5] at H
            have c5b0 : decide (0 ≤ x5_1) = true := decide_eq_true c5
            clear c5
            by_cases c6 : x5_1 < (l0.length : Int)
            · rw [if_pos c6] at H
              have c6b0 : decide (x5_1 < (l0.length : Int)) = true := decide_eq_true c6
              clear c6
              by_cases c7 : x5_1 < (l1.length : Int)
              · rw [if_pos c7] at H
                have c7b0 : decide (x5_1 < (l1.length : Int)) = true := decide_eq_true c7
                clear c7
                by_cases c8 : (rd l0 x5_1) = (rd l1 x5_1)
                · rw [if_pos c8] at H
                  have c8b0 : ((rd l0 x5_1) == (rd l1 x5_1)) = true := beq_iff_eq.mpr c8
                  have c8b1 : ((rd l0 x5_1) != (rd l1 x5_1)) = false := bne_eq_false_iff_eq.mpr c8
                  clear c8
                  have H' := Aside0.mk H
                  clear H
                  have p179 : 0 ≤ (x5_1 : Int) := of_decide_eq_true (by first | (with_reducible assumption) | assumption)
                  have q179 : x5_1 < (l0.length : Int) := of_decide_eq_true (by first | (with_reducible assumption) | assumption)
                  obtain ⟨ad179, e179, hx179_0⟩ := Kd.at_int HR0.out x5_1 p179 q179
                  cases e179
                  replace p179 := eq_true p179
                  replace q179 := eq_true q179
                  have p180 : 0 ≤ (x5_1 : Int) := of_decide_eq_true (by first | (with_reducible assumption) | assumption)
                  have q180 : x5_1 < (l1.length : Int) := of_decide_eq_true (by first | (with_reducible assumption) | assumption)
                  obtain ⟨ad180, e180, hx180_0⟩ := Kd.at_int HR1.out x5_1 p180 q180
                  cases e180
                  replace p180 := eq_true p180
                  replace q180 := eq_true q180
                  go_wp2
                  repeat (go_quiet (fail); try go_wp2)
                  go_roundg k1
                  case measure => have := HK1.out; omega
                  case rel => exact ⟨(wrap64 (x5_1 - 1)), (by first | rfl | (simp; done) | (simp [*]; done)), H', ⟨by have := HK1.out; omega⟩, by repeat (first | exact Drawn0.refl _ | apply Drawn0.step)⟩
                · rw [if_neg c8] at H
                  have c8b0 : ((rd l0 x5_1) == (rd l1 x5_1)) = false := beq_eq_false_iff_ne.mpr c8
                  have c8b1 : ((rd l0 x5_1) != (rd l1 x5_1)) = true := bne_iff_ne.mpr c8
                  by_cases c9 : (rd l0 x5_1) < (rd l1 x5_1)
                  · rw [if_pos c9] at H
                    have c9b0 : decide ((rd l0 x5_1) < (rd l1 x5_1)) = true := decide_eq_true c9
                    clear c9
                    obtain rfl := Option.some.inj H
                    have p179 : 0 ≤ (x5_1 : Int) := of_decide_eq_true (by first | (with_reducible assumption) | assumption)
                    have q179 : x5_1 < (l0.length : Int) := of_decide_eq_true (by first | (with_reducible assumption) | assumption)
                    obtain ⟨ad179, e179, hx179_0⟩ := Kd.at_int HR0.out x5_1 p179 q179
                    cases e179
                    replace p179 := eq_true p179
                    replace q179 := eq_true q179
                    have p180 : 0 ≤ (x5_1 : Int) := of_decide_eq_true (by first | (with_reducible assumption) | assumption)
                    have q180 : x5_1 < (l1.length : Int) := of_decide_eq_true (by first | (with_reducible assumption) | assumption)
                    obtain ⟨ad180, e180, hx180_0⟩ := Kd.at_int HR1.out x5_1 p180 q180
                    cases e180
                    replace p180 := eq_true p180
                    replace q180 := eq_true q180
                    have p181 : 0 ≤ (x5_1 : Int) := of_decide_eq_true (by first | (with_reducible assumption) | assumption)
                    have q181 : x5_1 < (l0.length : Int) := of_decide_eq_true (by first | (with_reducible assumption) | assumption)
                    obtain ⟨ad181, e181, hx181_0⟩ := Kd.at_int HR0.out x5_1 p181 q181
                    obtain rfl : ad179 = ad181 := (by injection e181)
                    replace p181 := eq_true p181
                    replace q181 := eq_true q181
                    have p182 : 0 ≤ (x5_1 : Int) := of_decide_eq_true (by first | (with_reducible assumption) | assumption)
                    have q182 : x5_1 < (l1.length : Int) := of_decide_eq_true (by first | (with_reducible assumption) | assumption)
                    obtain ⟨ad182, e182, hx182_0⟩ := Kd.at_int HR1.out x5_1 p182 q182
                    obtain rfl : ad180 = ad182 := (by injection e182)
                    replace p182 := eq_true p182
                    replace q182 := eq_true q182
                    go_wp2
                    repeat (go_quiet (fail); try go_wp2)
                    go_ret
                    exact ⟨by first | rfl | (simp; done) | (simp [*]; done), by repeat (first | exact Drawn0.refl _ | apply Drawn0.step)⟩
                  · rw [if_neg c9] at H
                    have c9b0 : decide ((rd l0 x5_1) < (rd l1 x5_1)) = false := decide_eq_false c9
                    clear c9
                    obtain rfl := Option.some.inj H
                    have p179 : 0 ≤ (x5_1 : Int) := of_decide_eq_true (by first | (with_reducible assumption) | assumption)
                    have q179 : x5_1 < (l0.length : Int) := of_decide_eq_true (by first | (with_reducible assumption) | assumption)
                    obtain ⟨ad179, e179, hx179_0⟩ := Kd.at_int HR0.out x5_1 p179 q179
                    cases e179
                    replace p179 := eq_true p179
                    replace q179 := eq_true q179
                    have p180 : 0 ≤ (x5_1 : Int) := of_decide_eq_true (by first | (with_reducible assumption) | assumption)
                    have q180 : x5_1 < (l1.length : Int) := of_decide_eq_true (by first | (with_reducible assumption) | assumption)
                    obtain ⟨ad180, e180, hx180_0⟩ := Kd.at_int HR1.out x5_1 p180 q180
                    cases e180
                    replace p180 := eq_true p180
                    replace q180 := eq_true q180
                    have p181 : 0 ≤ (x5_1 : Int) := of_decide_eq_true (by first | (with_reducible assumption) | assumption)
                    have q181 : x5_1 < (l0.length : Int) := of_decide_eq_true (by first | (with_reducible assumption) | assumption)
                    obtain ⟨ad181, e181, hx181_0⟩ := Kd.at_int HR0.out x5_1 p181 q181
                    obtain rfl : ad179 = ad181 := (by injection e181)
                    replace p181 := eq_true p181
                    replace q181 := eq_true q181
                    have p182 : 0 ≤ (x5_1 : Int) := of_decide_eq_true (by first | (with_reducible assumption) | assumption)
                    have q182 : x5_1 < (l1.length : Int) := of_decide_eq_true (by first | (with_reducible assumption) | assumption)
                    obtain ⟨ad182, e182, hx182_0⟩ := Kd.at_int HR1.out x5_1 p182 q182
                    obtain rfl : ad180 = ad182 := (by injection e182)
                    replace p182 := eq_true p182
                    replace q182 := eq_true q182
                    go_wp2
                    repeat (go_quiet (fail); try go_wp2)
                    go_ret
                    exact ⟨by first | rfl | (simp; done) | (simp [*]; done), by repeat (first | exact Drawn0.refl _ | apply Drawn0.step)⟩
              · rw [if_neg c7] at H
                exact absurd H (by simp)
            · rw [if_neg c6] at H
              exact absurd H (by simp)
          · rw [if_neg c5] at H
            exact absurd H (by simp)
        · rw [if_neg c4] at H
          have c4b0 : decide (0 ≤ x5_1) = false := decide_eq_false c4
          clear c4
          obtain rfl := Option.some.inj H
          go_wp2
          repeat (go_quiet (fail); try go_wp2)
          go_ret
          exact ⟨by first | rfl | (simp; done) | (simp [*]; done), by repeat (first | exact Drawn0.refl _ | apply Drawn0.step)⟩
  · rw [if_neg c3] at H
    have c3b0 : ((l0.length : Int) == (l1.length : Int)) = false := beq_eq_false_iff_ne.mpr c3
    have c3b1 : ((l0.length : Int) != (l1.length : Int)) = true := bne_iff_ne.mpr c3
    have c3b2 : (l0.length == l1.length) = false := by first | simpa using c3 | (simp at c3 ⊢; omega)
    by_cases c10 : (l0.length : Int) < (l1.length : Int)
    · rw [if_pos c10] at H
      have c10b0 : decide ((l0.length : Int) < (l1.length : Int)) = true := decide_eq_true c10
      have c10b1 : decide (l0.length < l1.length) = true := decide_eq_true (Int.ofNat_lt.mp c10)
      clear c10
      obtain rfl := Option.some.inj H
      go_enter Try.func50, Try.ntmps50
      go_wp2
      repeat (go_quiet (fail); try go_wp2)
      go_ret
      exact ⟨by first | rfl | (simp; done) | (simp [*]; done), by repeat (first | exact Drawn0.refl _ | apply Drawn0.step)⟩
    · rw [if_neg c10] at H
      have c10b0 : decide ((l0.length : Int) < (l1.length : Int)) = false := decide_eq_false c10
      have c10b1 : decide (l0.length < l1.length) = false := decide_eq_false (fun h => c10 (Int.ofNat_lt.mpr h))
      clear c10
      obtain rfl := Option.some.inj H
      go_enter Try.func50, Try.ntmps50
      go_wp2
      repeat (go_quiet (fail); try go_wp2)
      go_ret
      exact ⟨by first | rfl | (simp; done) | (simp [*]; done), by repeat (first | exact Drawn0.refl _ | apply Drawn0.step)⟩

end Go.Proofs.Ytpkgckccfanchaa.M

/- ## M27 -/
-- Written by wip/tools/pp.py (a driver round the kit's printer, with patches of this session): not a printed file.
namespace Go.Proofs.Ytpkgckccfanchaa.M
open Go.RowKit Go.Proofs.YtpkgckccfanchaaW.PrintWords Go.Proofs.YtpkgckccfanchaaW.PrintLast Go.Proofs.YtpkgckccfanchaaW.PrintMore
attribute [local go_sem] max2_int min2_int max_two min_two max_three min_three max_four min_four   -- for this text's walks alone
set_option linter.unusedVariables false
set_option linter.unusedSimpArgs false

/-! ### quadformref01_Same: function 16 -/
def quadformref01_Same.f (k : Nat) (a0_0 : Bool) (l0_1 : List Int) (a1_0 : Bool) (l1_1 : List Int) : Option (Bool) := if (a0_0 == a1_0) = true then (if (l0_1.length : Int) = (l1_1.length : Int) then ((quadformref01_cmp.f k l0_1 l1_1).bind fun t185 => (some (t185 == 0))) else (some false)) else (some false)
theorem quadformref01_Same.mono : ∀ a0 a1 a2 a3 k, LeO (quadformref01_Same.f k a0 a1 a2 a3) (quadformref01_Same.f (k + 1) a0 a1 a2 a3) := by
  intro a0 a1 a2 a3 k
  unfold quadformref01_Same.f
  repeat' first
      | (with_reducible exact quadformref01_cmp.mono _ _ _)
      | (with_reducible exact LeO.refl _)
      | (with_reducible exact LeO.none _)
      | (with_reducible refine LeO.ite ?_ ?_)
      | (with_reducible refine LeO.bind ?_ (fun _ => ?_))
      | exact quadformref01_cmp.mono _ _ _
      | exact LeO.none _
      | refine LeO.ite ?_ ?_
      | refine LeO.bind ?_ (fun _ => ?_)
set_option maxHeartbeats 8000000 in
set_option maxRecDepth 100000 in
theorem quadformref01_Same.calls (k : Nat) (a0_0 : Bool) (A0_1 : Option Addr) (c0_1 : Nat) (l0_1 : List Int) (a1_0 : Bool) (A1_1 : Option Addr) (c1_1 : Nat) (l1_1 : List Int) (r : Bool) (w : World) (hr0_1 : Kd.C (Kd.int .u32) w A0_1 l0_1.length l0_1) (hc0_1 : l0_1.length ≤ c0_1) (hr1_1 : Kd.C (Kd.int .u32) w A1_1 l1_1.length l1_1) (hc1_1 : l1_1.length ≤ c1_1) (h : quadformref01_Same.f k a0_0 l0_1 a1_0 l1_1 = some r) :
    Calls Try.prog 16 #[.agg #[.bool a0_0, .slice A0_1 l0_1.length c0_1], .agg #[.bool a1_0, .slice A1_1 l1_1.length c1_1]] w fun e w' => e = .returned (.bool r) ∧ Below w.heap.size w w' := by
  have hu24 := Try.underlying24
  have HR0_1 := Aside0.mk hr0_1
  have HC0_1 := Aside0.mk hc0_1
  clear hr0_1 hc0_1
  have HR1_1 := Aside0.mk hr1_1
  have HC1_1 := Aside0.mk hc1_1
  clear hr1_1 hc1_1
  have HB := Aside0.mk (Below.refl w.heap.size w)
  have H : (if (a0_0 == a1_0) = true then (if (l0_1.length : Int) = (l1_1.length : Int) then ((quadformref01_cmp.f k l0_1 l1_1).bind fun t185 => (some (t185 == 0))) else (some false)) else (some false)) = some r := h
  clear h
  by_cases c3 : (a0_0 == a1_0) = true
  · rw [if_pos c3] at H
    have c3b0 : (a0_0 == a1_0) = true := c3
    (try (have c3b1 : decide (a0_0 = a1_0) = true := by simpa using c3))
    (try (have c3b2 : (a0_0 == a1_0) = true := by simpa using c3))
    clear c3
    by_cases c4 : (l0_1.length : Int) = (l1_1.length : Int)
    · rw [if_pos c4] at H
      have c4b0 : ((l0_1.length : Int) == (l1_1.length : Int)) = true := beq_iff_eq.mpr c4
      have c4b1 : ((l0_1.length : Int) != (l1_1.length : Int)) = false := bne_eq_false_iff_eq.mpr c4
      have c4b2 : (l0_1.length == l1_1.length) = true := by first | simpa using c4 | (simp at c4 ⊢; omega)
      clear c4
      replace H := Option.bind_eq_some_iff.mp H
      obtain ⟨t185, A50, H⟩ := H
      replace H : (some (t185 == 0)) = some r := H
      have A5 := Aside0.mk A50
      clear A50
      obtain rfl := Option.some.inj H
      go_enter Try.func16, Try.ntmps16
      go_wp2_with (first | ((with_reducible refine gate_dst (N := 2) rfl ?_); (try (refine gate_guard (by rfl) ?_; dsimp only)); refine box_event ?hg (N := 2) ?hd (cs := #[.bool a0_0, .slice A0_1 l0_1.length c0_1]) (t := 24) ?hr ?_; (case hd => rfl); (case hg => rfl); (case hr => first | (go_simp; done) | (go_simp; rfl)); intro gb183 hg w6 hbox hb; have n0_ := Aside0.mk (below_step (by repeat (first | (with_reducible first | exact HB.out | apply below_alloc | apply pw_below_drewN | apply below_drew1) | exact HB.out)) hb); have n1_ := Aside0.mk (hbox); have n2_ := Aside0.mk ((by rw [hg]; exact (below_size (by repeat (first | (with_reducible first | exact HB.out | apply below_alloc | apply pw_below_drewN | apply below_drew1) | exact HB.out))) : w.heap.size ≤ gb183)); have n3_ := Aside0.mk ((by rw [hg]; exact (below_size (by repeat (first | (with_reducible first | exact HB.out | apply below_alloc | apply pw_below_drewN | apply below_drew1) | exact HB.out))) : w.heap.size ≤ gb183)); clear HB; have HB := n0_; have BK183 := n1_; have GW183 := n2_; have GE183 := n3_; clear n0_ n1_ n2_ n3_; clear hb hbox hg) | ((with_reducible refine gate_dst (N := 3) rfl ?_); (try (refine gate_guard (by rfl) ?_; dsimp only)); refine box_event ?hg (N := 3) ?hd (cs := #[.bool a1_0, .slice A1_1 l1_1.length c1_1]) (t := 24) ?hr ?_; (case hd => rfl); (case hg => rfl); (case hr => first | (go_simp; done) | (go_simp; rfl)); intro gb184 hg w7 hbox hb; have n0_ := Aside0.mk (blk_below (g := gb183) (o := .cells #[.bool a0_0, .slice A0_1 l0_1.length c0_1] 24 (0, 0)) (by (with_reducible repeat (first | refine blk_drewN ?_ _ | refine blk_drew ?_ | refine blk_alloc ?_ _)); exact BK183.out) hb); have n1_ := Aside0.mk (below_step (by repeat (first | (with_reducible first | exact HB.out | apply below_alloc | apply pw_below_drewN | apply below_drew1 | refine below_set ?_ GE183.out) | exact HB.out)) hb); have n2_ := Aside0.mk (hbox); have n3_ := Aside0.mk ((by rw [hg]; exact (below_size (by repeat (first | (with_reducible first | exact HB.out | apply below_alloc | apply pw_below_drewN | apply below_drew1 | refine below_set ?_ GE183.out) | exact HB.out))) : w.heap.size ≤ gb184)); have n4_ := Aside0.mk ((by rw [hg]; exact (below_size (by repeat (first | (with_reducible first | exact HB.out | apply below_alloc | apply pw_below_drewN | apply below_drew1 | refine below_set ?_ GE183.out) | exact HB.out))) : w.heap.size ≤ gb184)); have n5_ := Aside0.mk ((by rw [hg]; exact Nat.ne_of_lt (blk_lt (g := gb183) (o := .cells #[.bool a0_0, .slice A0_1 l0_1.length c0_1] 24 (0, 0)) (by (with_reducible repeat (first | refine blk_drewN ?_ _ | refine blk_drew ?_ | refine blk_alloc ?_ _)); exact BK183.out)) : gb183 ≠ gb184)); have n6_ := Aside0.mk ((by rw [hg]; exact Nat.ne_of_gt (blk_lt (g := gb183) (o := .cells #[.bool a0_0, .slice A0_1 l0_1.length c0_1] 24 (0, 0)) (by (with_reducible repeat (first | refine blk_drewN ?_ _ | refine blk_drew ?_ | refine blk_alloc ?_ _)); exact BK183.out)) : gb184 ≠ gb183)); clear BK183; clear HB; have BK183 := n0_; have HB := n1_; have BK184 := n2_; have GW184 := n3_; have GE184 := n4_; have NB183_184 := n5_; have NB184_183 := n6_; clear n0_ n1_ n2_ n3_ n4_ n5_ n6_; clear hb hbox hg; have hnb8 := NB183_184.out; have hnc8 := NB184_183.out; have hcz9_0 : w7.cell? ⟨gb183, 0, none⟩ = some (.bool a0_0) := (blk_cell BK183.out 0).trans rfl; have hcz9_1 : w7.cell? ⟨gb183, 1, none⟩ = some (.slice A0_1 l0_1.length c0_1) := (blk_cell BK183.out 1).trans rfl; have hfz9_0 := blk_frozen BK183.out 0; have hfz9_1 := blk_frozen BK183.out 1; have hcz10_0 : w7.cell? ⟨gb184, 0, none⟩ = some (.bool a1_0) := (blk_cell BK184.out 0).trans rfl; have hcz10_1 : w7.cell? ⟨gb184, 1, none⟩ = some (.slice A1_1 l1_1.length c1_1) := (blk_cell BK184.out 1).trans rfl; have hfz10_0 := blk_frozen BK184.out 0; have hfz10_1 := blk_frozen BK184.out 1) | (go_at_call 50; (with_reducible refine (quadformref01_cmp.calls k _ _ l0_1 _ _ l1_1 t185 _ ?side1 ?side2 ?side3 ?side4 A5.out).mono ?_); (case side1 => repeat (first | exact (Kd.C_below HR0_1.out HB.out) | (with_reducible refine Kd.C_alloc ?_ _) | (with_reducible refine Kd.C_drewN ?_ _) | (with_reducible refine Kd.C_drew ?_))); (case side2 => exact HC0_1.out); (case side3 => repeat (first | exact (Kd.C_below HR1_1.out HB.out) | (with_reducible refine Kd.C_alloc ?_ _) | (with_reducible refine Kd.C_drewN ?_ _) | (with_reducible refine Kd.C_drew ?_))); (case side4 => exact HC1_1.out); rintro e w' ⟨rfl, ⟨nd, rfl⟩⟩))
      go_ret
      exact ⟨by first | rfl | (simp [errW_none, errW_some] <;> rfl) | (simp [*, errW_none, errW_some] <;> rfl), by repeat (first | (with_reducible first | exact HB.out | apply below_alloc | apply pw_below_drewN | apply below_drew1 | refine below_set ?_ GE183.out | refine below_set ?_ GE184.out) | exact HB.out)⟩
    · rw [if_neg c4] at H
      have c4b0 : ((l0_1.length : Int) == (l1_1.length : Int)) = false := beq_eq_false_iff_ne.mpr c4
      have c4b1 : ((l0_1.length : Int) != (l1_1.length : Int)) = true := bne_iff_ne.mpr c4
      have c4b2 : (l0_1.length == l1_1.length) = false := by first | simpa using c4 | (simp at c4 ⊢; omega)
      obtain rfl := Option.some.inj H
      go_enter Try.func16, Try.ntmps16
      go_wp2_with (first | ((with_reducible refine gate_dst (N := 2) rfl ?_); (try (refine gate_guard (by rfl) ?_; dsimp only)); refine box_event ?hg (N := 2) ?hd (cs := #[.bool a0_0, .slice A0_1 l0_1.length c0_1]) (t := 24) ?hr ?_; (case hd => rfl); (case hg => rfl); (case hr => first | (go_simp; done) | (go_simp; rfl)); intro gb183 hg w11 hbox hb; have n0_ := Aside0.mk (below_step (by repeat (first | (with_reducible first | exact HB.out | apply below_alloc | apply pw_below_drewN | apply below_drew1) | exact HB.out)) hb); have n1_ := Aside0.mk (hbox); have n2_ := Aside0.mk ((by rw [hg]; exact (below_size (by repeat (first | (with_reducible first | exact HB.out | apply below_alloc | apply pw_below_drewN | apply below_drew1) | exact HB.out))) : w.heap.size ≤ gb183)); have n3_ := Aside0.mk ((by rw [hg]; exact (below_size (by repeat (first | (with_reducible first | exact HB.out | apply below_alloc | apply pw_below_drewN | apply below_drew1) | exact HB.out))) : w.heap.size ≤ gb183)); clear HB; have HB := n0_; have BK183 := n1_; have GW183 := n2_; have GE183 := n3_; clear n0_ n1_ n2_ n3_; clear hb hbox hg) | ((with_reducible refine gate_dst (N := 3) rfl ?_); (try (refine gate_guard (by rfl) ?_; dsimp only)); refine box_event ?hg (N := 3) ?hd (cs := #[.bool a1_0, .slice A1_1 l1_1.length c1_1]) (t := 24) ?hr ?_; (case hd => rfl); (case hg => rfl); (case hr => first | (go_simp; done) | (go_simp; rfl)); intro gb184 hg w12 hbox hb; have n0_ := Aside0.mk (blk_below (g := gb183) (o := .cells #[.bool a0_0, .slice A0_1 l0_1.length c0_1] 24 (0, 0)) (by (with_reducible repeat (first | refine blk_drewN ?_ _ | refine blk_drew ?_ | refine blk_alloc ?_ _)); exact BK183.out) hb); have n1_ := Aside0.mk (below_step (by repeat (first | (with_reducible first | exact HB.out | apply below_alloc | apply pw_below_drewN | apply below_drew1 | refine below_set ?_ GE183.out) | exact HB.out)) hb); have n2_ := Aside0.mk (hbox); have n3_ := Aside0.mk ((by rw [hg]; exact (below_size (by repeat (first | (with_reducible first | exact HB.out | apply below_alloc | apply pw_below_drewN | apply below_drew1 | refine below_set ?_ GE183.out) | exact HB.out))) : w.heap.size ≤ gb184)); have n4_ := Aside0.mk ((by rw [hg]; exact (below_size (by repeat (first | (with_reducible first | exact HB.out | apply below_alloc | apply pw_below_drewN | apply below_drew1 | refine below_set ?_ GE183.out) | exact HB.out))) : w.heap.size ≤ gb184)); have n5_ := Aside0.mk ((by rw [hg]; exact Nat.ne_of_lt (blk_lt (g := gb183) (o := .cells #[.bool a0_0, .slice A0_1 l0_1.length c0_1] 24 (0, 0)) (by (with_reducible repeat (first | refine blk_drewN ?_ _ | refine blk_drew ?_ | refine blk_alloc ?_ _)); exact BK183.out)) : gb183 ≠ gb184)); have n6_ := Aside0.mk ((by rw [hg]; exact Nat.ne_of_gt (blk_lt (g := gb183) (o := .cells #[.bool a0_0, .slice A0_1 l0_1.length c0_1] 24 (0, 0)) (by (with_reducible repeat (first | refine blk_drewN ?_ _ | refine blk_drew ?_ | refine blk_alloc ?_ _)); exact BK183.out)) : gb184 ≠ gb183)); clear BK183; clear HB; have BK183 := n0_; have HB := n1_; have BK184 := n2_; have GW184 := n3_; have GE184 := n4_; have NB183_184 := n5_; have NB184_183 := n6_; clear n0_ n1_ n2_ n3_ n4_ n5_ n6_; clear hb hbox hg; have hnb13 := NB183_184.out; have hnc13 := NB184_183.out; have hcz14_0 : w12.cell? ⟨gb183, 0, none⟩ = some (.bool a0_0) := (blk_cell BK183.out 0).trans rfl; have hcz14_1 : w12.cell? ⟨gb183, 1, none⟩ = some (.slice A0_1 l0_1.length c0_1) := (blk_cell BK183.out 1).trans rfl; have hfz14_0 := blk_frozen BK183.out 0; have hfz14_1 := blk_frozen BK183.out 1; have hcz15_0 : w12.cell? ⟨gb184, 0, none⟩ = some (.bool a1_0) := (blk_cell BK184.out 0).trans rfl; have hcz15_1 : w12.cell? ⟨gb184, 1, none⟩ = some (.slice A1_1 l1_1.length c1_1) := (blk_cell BK184.out 1).trans rfl; have hfz15_0 := blk_frozen BK184.out 0; have hfz15_1 := blk_frozen BK184.out 1))
      go_ret
      exact ⟨by first | rfl | (simp [errW_none, errW_some] <;> rfl) | (simp [*, errW_none, errW_some] <;> rfl), by repeat (first | (with_reducible first | exact HB.out | apply below_alloc | apply pw_below_drewN | apply below_drew1 | refine below_set ?_ GE183.out | refine below_set ?_ GE184.out) | exact HB.out)⟩
  · rw [if_neg c3] at H
    have c3b0 : (a0_0 == a1_0) = false := by simpa using c3
    (try (have c3b1 : decide (a0_0 = a1_0) = false := by simpa using c3))
    (try (have c3b2 : (a0_0 == a1_0) = false := by simpa using c3))
    (try (have c3b3 : ¬ (a0_0 = a1_0) := by simpa using c3))
    clear c3
    obtain rfl := Option.some.inj H
    go_enter Try.func16, Try.ntmps16
    go_wp2_with (first | ((with_reducible refine gate_dst (N := 2) rfl ?_); (try (refine gate_guard (by rfl) ?_; dsimp only)); refine box_event ?hg (N := 2) ?hd (cs := #[.bool a0_0, .slice A0_1 l0_1.length c0_1]) (t := 24) ?hr ?_; (case hd => rfl); (case hg => rfl); (case hr => first | (go_simp; done) | (go_simp; rfl)); intro gb183 hg w16 hbox hb; have n0_ := Aside0.mk (below_step (by repeat (first | (with_reducible first | exact HB.out | apply below_alloc | apply pw_below_drewN | apply below_drew1) | exact HB.out)) hb); have n1_ := Aside0.mk (hbox); have n2_ := Aside0.mk ((by rw [hg]; exact (below_size (by repeat (first | (with_reducible first | exact HB.out | apply below_alloc | apply pw_below_drewN | apply below_drew1) | exact HB.out))) : w.heap.size ≤ gb183)); have n3_ := Aside0.mk ((by rw [hg]; exact (below_size (by repeat (first | (with_reducible first | exact HB.out | apply below_alloc | apply pw_below_drewN | apply below_drew1) | exact HB.out))) : w.heap.size ≤ gb183)); clear HB; have HB := n0_; have BK183 := n1_; have GW183 := n2_; have GE183 := n3_; clear n0_ n1_ n2_ n3_; clear hb hbox hg) | ((with_reducible refine gate_dst (N := 3) rfl ?_); (try (refine gate_guard (by rfl) ?_; dsimp only)); refine box_event ?hg (N := 3) ?hd (cs := #[.bool a1_0, .slice A1_1 l1_1.length c1_1]) (t := 24) ?hr ?_; (case hd => rfl); (case hg => rfl); (case hr => first | (go_simp; done) | (go_simp; rfl)); intro gb184 hg w17 hbox hb; have n0_ := Aside0.mk (blk_below (g := gb183) (o := .cells #[.bool a0_0, .slice A0_1 l0_1.length c0_1] 24 (0, 0)) (by (with_reducible repeat (first | refine blk_drewN ?_ _ | refine blk_drew ?_ | refine blk_alloc ?_ _)); exact BK183.out) hb); have n1_ := Aside0.mk (below_step (by repeat (first | (with_reducible first | exact HB.out | apply below_alloc | apply pw_below_drewN | apply below_drew1 | refine below_set ?_ GE183.out) | exact HB.out)) hb); have n2_ := Aside0.mk (hbox); have n3_ := Aside0.mk ((by rw [hg]; exact (below_size (by repeat (first | (with_reducible first | exact HB.out | apply below_alloc | apply pw_below_drewN | apply below_drew1 | refine below_set ?_ GE183.out) | exact HB.out))) : w.heap.size ≤ gb184)); have n4_ := Aside0.mk ((by rw [hg]; exact (below_size (by repeat (first | (with_reducible first | exact HB.out | apply below_alloc | apply pw_below_drewN | apply below_drew1 | refine below_set ?_ GE183.out) | exact HB.out))) : w.heap.size ≤ gb184)); have n5_ := Aside0.mk ((by rw [hg]; exact Nat.ne_of_lt (blk_lt (g := gb183) (o := .cells #[.bool a0_0, .slice A0_1 l0_1.length c0_1] 24 (0, 0)) (by (with_reducible repeat (first | refine blk_drewN ?_ _ | refine blk_drew ?_ | refine blk_alloc ?_ _)); exact BK183.out)) : gb183 ≠ gb184)); have n6_ := Aside0.mk ((by rw [hg]; exact Nat.ne_of_gt (blk_lt (g := gb183) (o := .cells #[.bool a0_0, .slice A0_1 l0_1.length c0_1] 24 (0, 0)) (by (with_reducible repeat (first | refine blk_drewN ?_ _ | refine blk_drew ?_ | refine blk_alloc ?_ _)); exact BK183.out)) : gb184 ≠ gb183)); clear BK183; clear HB; have BK183 := n0_; have HB := n1_; have BK184 := n2_; have GW184 := n3_; have GE184 := n4_; have NB183_184 := n5_; have NB184_183 := n6_; clear n0_ n1_ n2_ n3_ n4_ n5_ n6_; clear hb hbox hg; have hnb18 := NB183_184.out; have hnc18 := NB184_183.out; have hcz19_0 : w17.cell? ⟨gb183, 0, none⟩ = some (.bool a0_0) := (blk_cell BK183.out 0).trans rfl; have hcz19_1 : w17.cell? ⟨gb183, 1, none⟩ = some (.slice A0_1 l0_1.length c0_1) := (blk_cell BK183.out 1).trans rfl; have hfz19_0 := blk_frozen BK183.out 0; have hfz19_1 := blk_frozen BK183.out 1; have hcz20_0 : w17.cell? ⟨gb184, 0, none⟩ = some (.bool a1_0) := (blk_cell BK184.out 0).trans rfl; have hcz20_1 : w17.cell? ⟨gb184, 1, none⟩ = some (.slice A1_1 l1_1.length c1_1) := (blk_cell BK184.out 1).trans rfl; have hfz20_0 := blk_frozen BK184.out 0; have hfz20_1 := blk_frozen BK184.out 1))
    go_ret
    exact ⟨by first | rfl | (simp [errW_none, errW_some] <;> rfl) | (simp [*, errW_none, errW_some] <;> rfl), by repeat (first | (with_reducible first | exact HB.out | apply below_alloc | apply pw_below_drewN | apply below_drew1 | refine below_set ?_ GE183.out | refine below_set ?_ GE184.out) | exact HB.out)⟩

end Go.Proofs.Ytpkgckccfanchaa.M

/- ## M1 -/
-- Written by wip/tools/pp.py (a driver round the kit's printer, with patches of this session): not a printed file.
namespace Go.Proofs.Ytpkgckccfanchaa.M
open Go.RowKit Go.Proofs.YtpkgckccfanchaaW.PrintWords Go.Proofs.YtpkgckccfanchaaW.PrintLast Go.Proofs.YtpkgckccfanchaaW.PrintMore
attribute [local go_sem] max2_int min2_int max_two min_two max_three min_three max_four min_four   -- for this text's walks alone
set_option linter.unusedVariables false
set_option linter.unusedSimpArgs false

/-! ### permutation_set_has: function 109 (by hand) -/
def w8 (a0 a1 a2 a3 a4 a5 a6 a7 : Int) (i : Nat) : Int := [a0, a1, a2, a3, a4, a5, a6, a7].getD i 0
theorem w8_at (a0 a1 a2 a3 a4 a5 a6 a7 : Int) (i : Nat) (h : i < 8) : [Value.int .u64 a0, .int .u64 a1, .int .u64 a2, .int .u64 a3, .int .u64 a4, .int .u64 a5, .int .u64 a6, .int .u64 a7][i]? = some (.int .u64 (w8 a0 a1 a2 a3 a4 a5 a6 a7 i)) := by
  match i, h with
  | 0, _ | 1, _ | 2, _ | 3, _ | 4, _ | 5, _ | 6, _ | 7, _ => rfl
/-- The bit of x in the word v that holds it. -/
def bit8 (v x : Int) : Bool := bits BinOp.and .u64 (v / 2 ^ (x % 64).toNat) 1 == 1
def permutation_set_has.f (a0_0 a0_1 a0_2 a0_3 a0_4 a0_5 a0_6 a0_7 a1 : Int) : Option Bool := if 0 ≤ a1 ∧ a1 < 512 then some (bit8 (w8 a0_0 a0_1 a0_2 a0_3 a0_4 a0_5 a0_6 a0_7 (a1 / 64).toNat) a1) else none
theorem permutation_set_has.calls (a0_0 : Int) (a0_1 : Int) (a0_2 : Int) (a0_3 : Int) (a0_4 : Int) (a0_5 : Int) (a0_6 : Int) (a0_7 : Int) (a1 : Int) (r : Bool) (w : World) (h : permutation_set_has.f a0_0 a0_1 a0_2 a0_3 a0_4 a0_5 a0_6 a0_7 a1 = some r) :
    Calls Try.prog 109 #[.agg #[.int .u64 a0_0, .int .u64 a0_1, .int .u64 a0_2, .int .u64 a0_3, .int .u64 a0_4, .int .u64 a0_5, .int .u64 a0_6, .int .u64 a0_7], .int .i64 a1] w fun e w' => e = .returned (.bool r) ∧ Below w.heap.size w w' := by
  unfold permutation_set_has.f at h
  split at h
  case isFalse => simp at h
  case isTrue hx =>
  obtain ⟨h0, h1⟩ := hx
  have hr := Option.some.inj h
  clear h
  subst hr
  unfold bit8
  have hw := w8_at a0_0 a0_1 a0_2 a0_3 a0_4 a0_5 a0_6 a0_7 (a1 / 64).toNat (by omega)
  generalize w8 a0_0 a0_1 a0_2 a0_3 a0_4 a0_5 a0_6 a0_7 (a1 / 64).toNat = v at hw
  have hs0 : 0 ≤ a1 % 64 := by omega
  have hs1 : a1 % 64 < 64 := by omega
  go_enter Try.func109, Try.ntmps109
  go_wp2
  go_ret
  exact ⟨rfl, below_alloc (Below.refl _ _) _⟩

end Go.Proofs.Ytpkgckccfanchaa.M

/- ## M28 -/
-- Written by wip/tools/pp.py (a driver round the kit's printer, with patches of this session): not a printed file.
namespace Go.Proofs.Ytpkgckccfanchaa.M
open Go.RowKit Go.Proofs.YtpkgckccfanchaaW.PrintWords Go.Proofs.YtpkgckccfanchaaW.PrintLast Go.Proofs.YtpkgckccfanchaaW.PrintMore
attribute [local go_sem] max2_int min2_int max_two min_two max_three min_three max_four min_four   -- for this text's walks alone
set_option linter.unusedVariables false
set_option linter.unusedSimpArgs false

/-! ### quadformref01_trim: function 61 (by hand) -/
def quadformref01_trim.f (l0 : List Int) : Option (List Int) := if l0.length < 35184372088832 then some (trimZ l0) else none
theorem quadformref01_trim.calls (A0 : Option Addr) (c0 : Nat) (l0 : List Int) (r : List Int) (w : World) (hr0 : Kd.C (Kd.int .u32) w A0 l0.length l0) (hc0 : l0.length ≤ c0) (h : quadformref01_trim.f l0 = some r) :
    Calls Try.prog 61 #[.slice A0 l0.length c0] w fun e w' => ∃ v0_ : Value, e = .returned (v0_) ∧ Kd.R (Kd.int .u32) 98 w' w.heap.size (fun _ => True) v0_ r ∧ Below w.heap.size w w' := by
  have hl : l0.length < 35184372088832 := by unfold quadformref01_trim.f at h; split at h <;> simp_all
  have hr : trimZ l0 = r := by unfold quadformref01_trim.f at h; rw [if_pos hl] at h; exact Option.some.inj h
  clear h
  have HR0 := Aside0.mk hr0
  clear hr0
  have H := Aside0.mk hr
  clear hr
  go_enter Try.func61, Try.ntmps61
  go_wp2
  go_loop [3] (fun v => ∃ k : Nat, k ≤ l0.length ∧ v = .int .i64 k ∧ Aside0 (trimZ (l0.take k) = r)) (fun v => (intOf v).toNat)
  case atStart => exact ⟨l0.length, Nat.le_refl _, rfl, ⟨by rw [List.take_length]; exact H.out⟩⟩
  case round =>
    obtain ⟨k, hk, rfl, HE⟩ := hrel
    by_cases h0 : 0 < k
    · obtain ⟨k, rfl⟩ : ∃ j, k = j + 1 := ⟨k - 1, by omega⟩
      obtain ⟨ad, e1, hx⟩ := Kd.at_int HR0.out (k : Int) (by omega) (by omega)
      cases e1
      simp only [Int.toNat_natCast] at hx
      have ht := take_snoc_rd l0 k hk
      by_cases hz : rd l0 (k : Int) = 0
      · have hz0 : (rd l0 (k : Int) == 0) = true := by simp [hz]
        have HE2 : Aside0 (trimZ (l0.take k) = r) := ⟨by have := HE.out; rw [ht, hz, trimZ_snoc0] at this; exact this⟩
        clear HE ht hz
        go_wp2
        exact ⟨⟨k, by omega, rfl, HE2⟩, by simp [intOf]⟩
      · have hz0 : (rd l0 (k : Int) == 0) = false := by simp [hz]
        have HE2 : Aside0 (l0.take (k + 1) = r) := ⟨by have := HE.out; rw [ht, trimZ_snoc _ _ hz, ← ht] at this; exact this⟩
        clear HE ht hz
        obtain ⟨i0, hi, hz0', hz1, hz2⟩ := info_parts info98
        obtain ⟨hrun, hcut, hcl⟩ := print_take_int (P := Try.prog) (k := .u32) 22 98 Try.underlying22 hi hz1 (some ad) c0 l0 ((k : Int) + 1) (by omega) (by omega) hc0
        have e2 : ((k : Int) + 1).toNat = k + 1 := by omega
        rw [e2] at hrun hcut hcl
        clear e2
        have hC := hcut w (Kd.reads_of_C HR0.out)
        rw [HE2.out] at hrun hC hcl
        have hrl : r.length ≤ l0.length := by rw [← HE2.out, List.length_take]; omega
        have HC := Aside0.mk hC
        clear hC hcut HE2 hi hz0' hz1 hz2 H h0
        go_wp2_with ((with_reducible refine gate_builtin (b := .append) (xs := #[.const (.slice none 0 0), .tmp 20]) rfl ?_); at_builtin; go_must (refine Kd.R_append_row (Value.int .u32) 0 (h1 := fun _ => rfl) (w0 := w) w.heap.size rfl (.const (.slice none 0 0)) (.tmp 20) 22 98 (.int .u32 0) 4 rfl Try.underlying22 info98 rfl (by decide) (.slice none 0 0) [] r (some ad) _ c0 (fun _ => True) rfl rfl (fun _ _ => trivial) (Kd.R_nil _ _ _ _ _) ?c1 (Below.refl _ _) (Nat.le_refl _) ?c2 ?_); (case c1 => exact Kd.C_of_reads HC.out); (case c2 => (simp only [List.length_nil]; omega)); intro v1 w1 hown hb hg hat)
        go_ret
        exact ⟨_, rfl, hown, hb⟩
    · obtain rfl : k = 0 := by omega
      have HE2 : Aside0 (l0.take 0 = r) := ⟨by have := HE.out; simpa [trimZ_nil] using this⟩
      clear HE
      obtain ⟨i0, hi, hz0', hz1, hz2⟩ := info_parts info98
      obtain ⟨hrun, hcut, hcl⟩ := print_take_int (P := Try.prog) (k := .u32) 22 98 Try.underlying22 hi hz1 A0 c0 l0 (0 : Int) (by omega) (by omega) hc0
      have e2 : (0 : Int).toNat = 0 := by omega
      rw [e2] at hrun hcut hcl
      clear e2
      have hC := hcut w (Kd.reads_of_C HR0.out)
      rw [HE2.out] at hrun hC hcl
      have hrl : r.length ≤ l0.length := by rw [← HE2.out, List.length_take]; omega
      have HC := Aside0.mk hC
      clear hC hcut HE2 hi hz0' hz1 hz2 H h0
      go_wp2_with ((with_reducible refine gate_builtin (b := .append) (xs := #[.const (.slice none 0 0), .tmp 20]) rfl ?_); at_builtin; go_must (refine Kd.R_append_row (Value.int .u32) 0 (h1 := fun _ => rfl) (w0 := w) w.heap.size rfl (.const (.slice none 0 0)) (.tmp 20) 22 98 (.int .u32 0) 4 rfl Try.underlying22 info98 rfl (by decide) (.slice none 0 0) [] r A0 _ c0 (fun _ => True) rfl rfl (fun _ _ => trivial) (Kd.R_nil _ _ _ _ _) ?c1 (Below.refl _ _) (Nat.le_refl _) ?c2 ?_); (case c1 => exact Kd.C_of_reads HC.out); (case c2 => (simp only [List.length_nil]; omega)); intro v1 w1 hown hb hg hat)
      go_ret
      exact ⟨_, rfl, hown, hb⟩

end Go.Proofs.Ytpkgckccfanchaa.M

/- ## M29 -/
-- Written by wip/tools/pp.py (a driver round the kit's printer, with patches of this session): not a printed file.
namespace Go.Proofs.Ytpkgckccfanchaa.M
open Go.RowKit Go.Proofs.YtpkgckccfanchaaW.PrintWords Go.Proofs.YtpkgckccfanchaaW.PrintLast Go.Proofs.YtpkgckccfanchaaW.PrintMore
attribute [local go_sem] max2_int min2_int max_two min_two max_three min_three max_four min_four   -- for this text's walks alone
set_option linter.unusedVariables false
set_option linter.unusedSimpArgs false

/-! ### quadformref01_Make: function 67 -/
def quadformref01_Make.f (a0 : Bool) (l1 : List Int) : Option (Bool × List Int) := (quadformref01_trim.f l1).bind fun t187 => (if a0 = true then (some (decide (0 < t187.length), t187)) else (some (false, t187)))
set_option maxHeartbeats 8000000 in
set_option maxRecDepth 100000 in
theorem quadformref01_Make.calls (a0 : Bool) (A1 : Option Addr) (c1 : Nat) (l1 : List Int) (r1 : Bool) (r2 : List Int) (w : World) (hr1 : Kd.C (Kd.int .u32) w A1 l1.length l1) (hc1 : l1.length ≤ c1) (h : quadformref01_Make.f a0 l1 = some (r1, r2)) :
    Calls Try.prog 67 #[.bool a0, .slice A1 l1.length c1] w fun e w' => ∃ v1_ : Value, e = .returned (.agg #[.bool r1, v1_]) ∧ Kd.R (Kd.int .u32) 98 w' w.heap.size (fun _ => True) v1_ r2 ∧ Below w.heap.size w w' := by
  have hu24 := Try.underlying24
  have HR1 := Aside0.mk hr1
  have HC1 := Aside0.mk hc1
  clear hr1 hc1
  have HB := Aside0.mk (Below.refl w.heap.size w)
  have H : ((quadformref01_trim.f l1).bind fun t187 => (if a0 = true then (some (decide (0 < t187.length), t187)) else (some (false, t187)))) = some (r1, r2) := h
  clear h
  replace H := Option.bind_eq_some_iff.mp H
  obtain ⟨t187, A30, H⟩ := H
  replace H : (if a0 = true then (some (decide (0 < t187.length), t187)) else (some (false, t187))) = some (r1, r2) := H
  have A3 := Aside0.mk A30
  clear A30
  by_cases c4 : a0 = true
  · subst c4
    have H1 : (some (decide (0 < t187.length), t187)) = some (r1, r2) := by rw [if_pos rfl] at H; exact H
    clear H
    have H := H1
    clear H1
    simp only [Option.some.injEq, Prod.mk.injEq] at H
    obtain ⟨rfl, rfl⟩ := H
    go_enter Try.func67, Try.ntmps67
    go_wp2_with (first | ((with_reducible refine gate_dst (N := 4) rfl ?_); (try (refine gate_guard (by rfl) ?_; dsimp only)); refine box_event ?hg (N := 4) ?hd (cs := #[.bool false, .slice none 0 0]) (t := 24) ?hr ?_; (case hd => rfl); (case hg => rfl); (case hr => first | (go_simp; done) | (go_simp; rfl)); intro gb186 hg w5 hbox hb; have n0_ := Aside0.mk (below_step (by repeat (first | (with_reducible first | exact HB.out | apply below_alloc | apply pw_below_drewN | apply below_drew1) | exact HB.out)) hb); have n1_ := Aside0.mk (hbox); have n2_ := Aside0.mk ((by rw [hg]; exact (below_size (by repeat (first | (with_reducible first | exact HB.out | apply below_alloc | apply pw_below_drewN | apply below_drew1) | exact HB.out))) : w.heap.size ≤ gb186)); have n3_ := Aside0.mk ((by rw [hg]; exact (below_size (by repeat (first | (with_reducible first | exact HB.out | apply below_alloc | apply pw_below_drewN | apply below_drew1) | exact HB.out))) : w.heap.size ≤ gb186)); clear HB; have HB := n0_; have BK186 := n1_; have GW186 := n2_; have GE186 := n3_; clear n0_ n1_ n2_ n3_; clear hb hbox hg) | ((with_reducible refine gate_callee (f := 61) rfl ?_); refine goesL_ (some 7) rfl rfl Try.func61 (by kernel_rfl) rfl #[.slice A1 l1.length c1] rfl (by (try simp only [List.map_toArray, List.map_cons, List.map_nil]); first | done | rfl | (simp only [List.length_drop, List.length_take]; rfl)) ?_; (with_reducible refine (quadformref01_trim.calls _ _ l1 t187 _ ?side1 ?side2 A3.out).mono ?_); (case side1 => repeat (first | exact (Kd.C_below HR1.out HB.out) | (with_reducible refine Kd.C_alloc ?_ _) | (with_reducible refine Kd.C_drewN ?_ _) | (with_reducible refine Kd.C_drew ?_))); (case side2 => exact HC1.out); rintro e w6 ⟨v188, rfl, ho0, hb⟩; refine ⟨_, rfl, ?_⟩; have n0_ := Aside0.mk (Kd.R_lower ho0 (below_size (by repeat (first | (with_reducible first | exact HB.out | apply below_alloc | apply pw_below_drewN | apply below_drew1 | refine below_set ?_ GE186.out) | exact HB.out)))); have n1_ := Aside0.mk (blk_below (g := gb186) (o := .cells #[.bool false, .slice none 0 0] 24 (0, 0)) (by (with_reducible repeat (first | refine blk_drewN ?_ _ | refine blk_drew ?_ | refine blk_alloc ?_ _)); exact BK186.out) hb); have n2_ := Aside0.mk (below_step (by repeat (first | (with_reducible first | exact HB.out | apply below_alloc | apply pw_below_drewN | apply below_drew1 | refine below_set ?_ GE186.out) | exact HB.out)) hb); clear BK186; clear HB; have HO189 := n0_; have BK186 := n1_; have HB := n2_; clear n0_ n1_ n2_; (try clear hb); (try clear hb2); (try clear hk); (try clear hi); (try clear ho0); obtain ⟨Ao7, co7, eo7⟩ := Kd.R_slice HO189.out; subst eo7; have hcz8_0 : w6.cell? ⟨gb186, 0, none⟩ = some (.bool false) := (blk_cell BK186.out 0).trans rfl; have hcz8_1 : w6.cell? ⟨gb186, 1, none⟩ = some (.slice none 0 0) := (blk_cell BK186.out 1).trans rfl; have hfz8_0 := blk_frozen BK186.out 0; have hfz8_1 := blk_frozen BK186.out 1))
    refine bodyPost_ret (results_cell_row rfl _ _ gb186 24 #[.bool (decide (0 < t187.length)), .slice Ao7 t187.length co7] (0, 0) _ rfl (by (with_reducible repeat (first | refine blk_drewN ?_ _ | refine blk_drew ?_ | refine blk_alloc ?_ _)); refine blk_put (cs := #[.bool (decide (0 < t187.length)), .slice none 0 0]) ?_ 1 _ rfl; (with_reducible repeat (first | refine blk_drewN ?_ _ | refine blk_drew ?_ | refine blk_alloc ?_ _)); refine blk_put (cs := #[.bool false, .slice none 0 0]) ?_ 0 _ rfl; (with_reducible repeat (first | refine blk_drewN ?_ _ | refine blk_drew ?_ | refine blk_alloc ?_ _)); exact BK186.out) Try.underlying24 rfl (by kernel_rfl)) rfl ?_
    exact ⟨_, by first | rfl | (simp [errW_none, errW_some] <;> rfl) | (simp [*, errW_none, errW_some] <;> rfl), by (with_reducible repeat (first | apply Kd.R_alloc | apply Kd.R_drewN | apply Kd.R_drew)); exact Kd.R_mono (Kd.R_far (p := ⟨gb186, 1, none⟩) (Kd.R_far (p := ⟨gb186, 0, none⟩) (Kd.R_types HO189.out BK186.out (by decide)) (fun _ hk => hk.2) (.bool (decide (0 < t187.length)))) (fun _ hk => hk.2) (.slice Ao7 t187.length co7)) (fun _ hk => trivial), by repeat (first | (with_reducible first | exact HB.out | apply below_alloc | apply pw_below_drewN | apply below_drew1 | refine below_set ?_ GE186.out) | exact HB.out)⟩
  · replace c4 := Bool.eq_false_iff.mpr c4
    subst c4
    have H1 : (some (false, t187)) = some (r1, r2) := by rw [if_neg (show ¬ (false = true) by decide)] at H; exact H
    clear H
    have H := H1
    clear H1
    simp only [Option.some.injEq, Prod.mk.injEq] at H
    obtain ⟨rfl, rfl⟩ := H
    go_enter Try.func67, Try.ntmps67
    go_wp2_with (first | ((with_reducible refine gate_dst (N := 4) rfl ?_); (try (refine gate_guard (by rfl) ?_; dsimp only)); refine box_event ?hg (N := 4) ?hd (cs := #[.bool false, .slice none 0 0]) (t := 24) ?hr ?_; (case hd => rfl); (case hg => rfl); (case hr => first | (go_simp; done) | (go_simp; rfl)); intro gb186 hg w9 hbox hb; have n0_ := Aside0.mk (below_step (by repeat (first | (with_reducible first | exact HB.out | apply below_alloc | apply pw_below_drewN | apply below_drew1) | exact HB.out)) hb); have n1_ := Aside0.mk (hbox); have n2_ := Aside0.mk ((by rw [hg]; exact (below_size (by repeat (first | (with_reducible first | exact HB.out | apply below_alloc | apply pw_below_drewN | apply below_drew1) | exact HB.out))) : w.heap.size ≤ gb186)); have n3_ := Aside0.mk ((by rw [hg]; exact (below_size (by repeat (first | (with_reducible first | exact HB.out | apply below_alloc | apply pw_below_drewN | apply below_drew1) | exact HB.out))) : w.heap.size ≤ gb186)); clear HB; have HB := n0_; have BK186 := n1_; have GW186 := n2_; have GE186 := n3_; clear n0_ n1_ n2_ n3_; clear hb hbox hg) | ((with_reducible refine gate_callee (f := 61) rfl ?_); refine goesL_ (some 7) rfl rfl Try.func61 (by kernel_rfl) rfl #[.slice A1 l1.length c1] rfl (by (try simp only [List.map_toArray, List.map_cons, List.map_nil]); first | done | rfl | (simp only [List.length_drop, List.length_take]; rfl)) ?_; (with_reducible refine (quadformref01_trim.calls _ _ l1 t187 _ ?side1 ?side2 A3.out).mono ?_); (case side1 => repeat (first | exact (Kd.C_below HR1.out HB.out) | (with_reducible refine Kd.C_alloc ?_ _) | (with_reducible refine Kd.C_drewN ?_ _) | (with_reducible refine Kd.C_drew ?_))); (case side2 => exact HC1.out); rintro e w10 ⟨v188, rfl, ho0, hb⟩; refine ⟨_, rfl, ?_⟩; have n0_ := Aside0.mk (Kd.R_lower ho0 (below_size (by repeat (first | (with_reducible first | exact HB.out | apply below_alloc | apply pw_below_drewN | apply below_drew1 | refine below_set ?_ GE186.out) | exact HB.out)))); have n1_ := Aside0.mk (blk_below (g := gb186) (o := .cells #[.bool false, .slice none 0 0] 24 (0, 0)) (by (with_reducible repeat (first | refine blk_drewN ?_ _ | refine blk_drew ?_ | refine blk_alloc ?_ _)); exact BK186.out) hb); have n2_ := Aside0.mk (below_step (by repeat (first | (with_reducible first | exact HB.out | apply below_alloc | apply pw_below_drewN | apply below_drew1 | refine below_set ?_ GE186.out) | exact HB.out)) hb); clear BK186; clear HB; have HO189 := n0_; have BK186 := n1_; have HB := n2_; clear n0_ n1_ n2_; (try clear hb); (try clear hb2); (try clear hk); (try clear hi); (try clear ho0); obtain ⟨Ao11, co11, eo11⟩ := Kd.R_slice HO189.out; subst eo11; have hcz12_0 : w10.cell? ⟨gb186, 0, none⟩ = some (.bool false) := (blk_cell BK186.out 0).trans rfl; have hcz12_1 : w10.cell? ⟨gb186, 1, none⟩ = some (.slice none 0 0) := (blk_cell BK186.out 1).trans rfl; have hfz12_0 := blk_frozen BK186.out 0; have hfz12_1 := blk_frozen BK186.out 1))
    refine bodyPost_ret (results_cell_row rfl _ _ gb186 24 #[.bool false, .slice Ao11 t187.length co11] (0, 0) _ rfl (by (with_reducible repeat (first | refine blk_drewN ?_ _ | refine blk_drew ?_ | refine blk_alloc ?_ _)); refine blk_put (cs := #[.bool false, .slice none 0 0]) ?_ 1 _ rfl; (with_reducible repeat (first | refine blk_drewN ?_ _ | refine blk_drew ?_ | refine blk_alloc ?_ _)); refine blk_put (cs := #[.bool false, .slice none 0 0]) ?_ 0 _ rfl; (with_reducible repeat (first | refine blk_drewN ?_ _ | refine blk_drew ?_ | refine blk_alloc ?_ _)); exact BK186.out) Try.underlying24 rfl (by kernel_rfl)) rfl ?_
    exact ⟨_, by first | rfl | (simp [errW_none, errW_some] <;> rfl) | (simp [*, errW_none, errW_some] <;> rfl), by (with_reducible repeat (first | apply Kd.R_alloc | apply Kd.R_drewN | apply Kd.R_drew)); exact Kd.R_mono (Kd.R_far (p := ⟨gb186, 1, none⟩) (Kd.R_far (p := ⟨gb186, 0, none⟩) (Kd.R_types HO189.out BK186.out (by decide)) (fun _ hk => hk.2) (.bool false)) (fun _ hk => hk.2) (.slice Ao11 t187.length co11)) (fun _ hk => trivial), by repeat (first | (with_reducible first | exact HB.out | apply below_alloc | apply pw_below_drewN | apply below_drew1 | refine below_set ?_ GE186.out) | exact HB.out)⟩

end Go.Proofs.Ytpkgckccfanchaa.M

/- ## M30 -/
-- Written by wip/tools/pp.py (a driver round the kit's printer, with patches of this session): not a printed file.
namespace Go.Proofs.Ytpkgckccfanchaa.M
open Go.RowKit Go.Proofs.YtpkgckccfanchaaW.PrintWords Go.Proofs.YtpkgckccfanchaaW.PrintLast Go.Proofs.YtpkgckccfanchaaW.PrintMore
attribute [local go_sem] max2_int min2_int max_two min_two max_three min_three max_four min_four   -- for this text's walks alone
set_option linter.unusedVariables false
set_option linter.unusedSimpArgs false

/-! ### quadformref01_word: function 51 -/
def quadformref01_word.f (a0 : Bool) (a1 : Int) : Option (Bool × List Int) := (quadformref01_Make.f a0 (([(a1) % 4294967296, (a1 / 4294967296) % 4294967296] : List Int))).bind fun bt194 => (some (bt194.1, bt194.2))
set_option maxHeartbeats 8000000 in
set_option maxRecDepth 100000 in
theorem quadformref01_word.calls (a0 : Bool) (a1 : Int) (r1 : Bool) (r2 : List Int) (w : World) (h : quadformref01_word.f a0 a1 = some (r1, r2)) :
    Calls Try.prog 51 #[.bool a0, .int .u64 a1] w fun e w' => ∃ v1_ : Value, e = .returned (.agg #[.bool r1, v1_]) ∧ Kd.R (Kd.int .u32) 98 w' w.heap.size (fun _ => True) v1_ r2 ∧ Below w.heap.size w w' := by
  have hu24 := Try.underlying24
  have HB := Aside0.mk (Below.refl w.heap.size w)
  have H : ((quadformref01_Make.f a0 (([(a1) % 4294967296, (a1 / 4294967296) % 4294967296] : List Int))).bind fun bt194 => (some (bt194.1, bt194.2))) = some (r1, r2) := h
  clear h
  obtain ⟨y191, hy191⟩ : ∃ y_ : List Int, y_ = (([(a1) % 4294967296, (a1 / 4294967296) % 4294967296] : List Int)) := ⟨_, rfl⟩
  replace H : ((quadformref01_Make.f a0 y191).bind fun bt194 => (some (bt194.1, bt194.2))) = some (r1, r2) := by first | (rw [hy191]; with_reducible exact H) | (have H2_ := (Option.bind_some _ _).symm.trans H; rw [hy191]; with_reducible exact H2_) | (have H2_ := (Option.bind_some _ _).symm.trans H; with_reducible exact H2_) | with_reducible exact H | (rw [hy191]; exact H) | exact H
  have Ny191 := Aside0.mk hy191
  clear hy191
  replace H := Option.bind_eq_some_iff.mp H
  obtain ⟨⟨t194, t195⟩, A30, H⟩ := H
  replace H : (some (t194, t195)) = some (r1, r2) := H
  have A3 := Aside0.mk A30
  clear A30
  simp only [Option.some.injEq, Prod.mk.injEq] at H
  obtain ⟨rfl, rfl⟩ := H
  go_enter Try.func51, Try.ntmps51
  go_wp2_with (first | ((with_reducible refine gate_dst (N := 4) rfl ?_); refine box_event ?hg (N := 4) ?hd (cs := #[.bool false, .slice none 0 0]) (t := 24) ?hr ?_; (case hd => rfl); (case hg => rfl); (case hr => first | (go_simp; done) | (go_simp; rfl)); intro gb190 hg w4 hbox hb; have n0_ := Aside0.mk (below_step (by repeat (first | (with_reducible first | exact HB.out | apply below_alloc | apply pw_below_drewN | apply below_drew1) | exact HB.out)) hb); have n1_ := Aside0.mk (hbox); have n2_ := Aside0.mk ((by rw [hg]; exact (below_size (by repeat (first | (with_reducible first | exact HB.out | apply below_alloc | apply pw_below_drewN | apply below_drew1) | exact HB.out))) : w.heap.size ≤ gb190)); have n3_ := Aside0.mk ((by rw [hg]; exact (below_size (by repeat (first | (with_reducible first | exact HB.out | apply below_alloc | apply pw_below_drewN | apply below_drew1) | exact HB.out))) : w.heap.size ≤ gb190)); clear HB; have HB := n0_; have BK190 := n1_; have GW190 := n2_; have GE190 := n3_; clear n0_ n1_ n2_ n3_; clear hb hbox hg) | ((with_reducible refine gate_dst (N := 11) rfl ?_); refine Kd.R_lit (Kd.int .u32) _ 98 ?hg (N := 11) ?hd (xs := ([(a1) % 4294967296, (a1 / 4294967296) % 4294967296] : List Int)) (inner := [.int .u32 ((a1) % 4294967296), .int .u32 ((a1 / 4294967296) % 4294967296)]) (ok := fun _ => True) (okp := fun _ => True) ?hr ?hp (fun _ hk => hk) trivial (Below.refl _ _) (Nat.le_refl _) (by simp) ?_; (case hd => rfl); (case hg => rfl); (case hr => first | (go_simp; done) | (go_simp; rfl)); (case hp => exact (Reps.one (show Kd.M (Kd.int .u32) _ _ _ ((a1) % 4294967296) [.int .u32 ((a1) % 4294967296)] from rfl) (Reps.one (show Kd.M (Kd.int .u32) _ _ _ ((a1 / 4294967296) % 4294967296) [.int .u32 ((a1 / 4294967296) % 4294967296)] from rfl) (Reps.none _ _)))); intro v192 w5 ho6 hb hg_ hnew_; clear hg_ hnew_; (first | rw [← Ny191.out] at ho6 | (simp only [Int.reduceToNat] at ho6; rw [← Ny191.out] at ho6)); have n0_ := Aside0.mk (Kd.R_lower ho6 (below_size (by repeat (first | (with_reducible first | exact HB.out | apply below_alloc | apply pw_below_drewN | apply below_drew1 | refine below_set ?_ GE190.out) | exact HB.out)))); have n1_ := Aside0.mk (blk_below (g := gb190) (o := .cells #[.bool false, .slice none 0 0] 24 (0, 0)) (by (with_reducible repeat (first | refine blk_drewN ?_ _ | refine blk_drew ?_ | refine blk_alloc ?_ _)); exact BK190.out) hb); have n2_ := Aside0.mk (below_step (by repeat (first | (with_reducible first | exact HB.out | apply below_alloc | apply pw_below_drewN | apply below_drew1 | refine below_set ?_ GE190.out) | exact HB.out)) hb); clear BK190; clear HB; have HO193 := n0_; have BK190 := n1_; have HB := n2_; clear n0_ n1_ n2_; clear hb ho6; obtain ⟨Ao7, co7, eo7⟩ := Kd.R_slice HO193.out; subst eo7) | ((with_reducible refine gate_callee (f := 67) rfl ?_); refine goesL_ (some 12) rfl rfl Try.func67 (by kernel_rfl) rfl #[.bool a0, .slice Ao7 y191.length co7] rfl (by (try simp only [List.map_toArray, List.map_cons, List.map_nil]); first | done | rfl | (simp only [List.length_drop, List.length_take]; rfl)) ?_; (with_reducible refine (quadformref01_Make.calls a0 _ _ y191 t194 t195 _ ?side1 ?side2 A3.out).mono ?_); (case side1 => repeat (first | exact (Kd.R_reads' HO193.out).2.2 | (with_reducible refine Kd.C_alloc ?_ _) | (with_reducible refine Kd.C_drewN ?_ _) | (with_reducible refine Kd.C_drew ?_))); (case side2 => exact (Kd.R_reads' HO193.out).2.1); rintro e w8 ⟨v196, rfl, ho0, hb⟩; refine ⟨_, rfl, ?_⟩; have n0_ := Aside0.mk (Kd.R_elder' (by (with_reducible repeat (first | apply Kd.R_alloc | apply Kd.R_drewN | apply Kd.R_drew)); exact HO193.out) (Kd.R_base ho0) hb); have n1_ := Aside0.mk (Kd.R_lower (Kd.R_new' ho0 (Kd.R_lt (by (with_reducible repeat (first | apply Kd.R_alloc | apply Kd.R_drewN | apply Kd.R_drew)); exact HO193.out))) (below_size (by repeat (first | (with_reducible first | exact HB.out | apply below_alloc | apply pw_below_drewN | apply below_drew1 | refine below_set ?_ GE190.out) | exact HB.out)))); have n2_ := Aside0.mk (blk_below (g := gb190) (o := .cells #[.bool false, .slice none 0 0] 24 (0, 0)) (by (with_reducible repeat (first | refine blk_drewN ?_ _ | refine blk_drew ?_ | refine blk_alloc ?_ _)); exact BK190.out) hb); have n3_ := Aside0.mk (below_step (by repeat (first | (with_reducible first | exact HB.out | apply below_alloc | apply pw_below_drewN | apply below_drew1 | refine below_set ?_ GE190.out) | exact HB.out)) hb); clear HO193; clear BK190; clear HB; have HO193 := n0_; have HO197 := n1_; have BK190 := n2_; have HB := n3_; clear n0_ n1_ n2_ n3_; (try clear hb); (try clear hb2); (try clear hk); (try clear hi); (try clear ho0); have hcz9_0 : w8.cell? ⟨gb190, 0, none⟩ = some (.bool false) := (blk_cell BK190.out 0).trans rfl; have hcz9_1 : w8.cell? ⟨gb190, 1, none⟩ = some (.slice none 0 0) := (blk_cell BK190.out 1).trans rfl; have hfz9_0 := blk_frozen BK190.out 0; have hfz9_1 := blk_frozen BK190.out 1; obtain ⟨Ao10, co10, eo10⟩ := Kd.R_slice HO197.out; subst eo10))
  refine bodyPost_ret (results_cell_row rfl _ _ gb190 24 #[.bool t194, .slice Ao10 t195.length co10] (0, 0) _ rfl (by (with_reducible repeat (first | refine blk_drewN ?_ _ | refine blk_drew ?_ | refine blk_alloc ?_ _)); refine blk_put (cs := #[.bool t194, .slice none 0 0]) ?_ 1 _ rfl; (with_reducible repeat (first | refine blk_drewN ?_ _ | refine blk_drew ?_ | refine blk_alloc ?_ _)); refine blk_put (cs := #[.bool false, .slice none 0 0]) ?_ 0 _ rfl; (with_reducible repeat (first | refine blk_drewN ?_ _ | refine blk_drew ?_ | refine blk_alloc ?_ _)); exact BK190.out) Try.underlying24 rfl (by kernel_rfl)) rfl ?_
  exact ⟨_, by first | rfl | (simp [errW_none, errW_some] <;> rfl) | (simp [*, errW_none, errW_some] <;> rfl), by (with_reducible repeat (first | apply Kd.R_alloc | apply Kd.R_drewN | apply Kd.R_drew)); exact Kd.R_mono (Kd.R_far (p := ⟨gb190, 1, none⟩) (Kd.R_far (p := ⟨gb190, 0, none⟩) (Kd.R_types HO197.out BK190.out (by decide)) (fun _ hk => hk.2) (.bool t194)) (fun _ hk => hk.2) (.slice Ao10 t195.length co10)) (fun _ hk => trivial), by repeat (first | (with_reducible first | exact HB.out | apply below_alloc | apply pw_below_drewN | apply below_drew1 | refine below_set ?_ GE190.out) | exact HB.out)⟩

end Go.Proofs.Ytpkgckccfanchaa.M

/- ## M31 -/
-- Written by wip/tools/pp.py (a driver round the kit's printer, with patches of this session): not a printed file.
namespace Go.Proofs.Ytpkgckccfanchaa.M
open Go.RowKit Go.Proofs.YtpkgckccfanchaaW.PrintWords Go.Proofs.YtpkgckccfanchaaW.PrintLast Go.Proofs.YtpkgckccfanchaaW.PrintMore
attribute [local go_sem] max2_int min2_int max_two min_two max_three min_three max_four min_four   -- for this text's walks alone
set_option linter.unusedVariables false
set_option linter.unusedSimpArgs false

/-! ### quadformref01_Small: function 17 -/
def quadformref01_Small.f (a0 : Int) : Option (Bool × List Int) := if a0 < 0 then ((quadformref01_word.f true (IntKind.u64.wrap (-(IntKind.u64.wrap (a0))))).bind fun bt199 => (some (bt199.1, bt199.2))) else ((quadformref01_word.f false (IntKind.u64.wrap (a0))).bind fun bt203 => (some (bt203.1, bt203.2)))
set_option maxHeartbeats 8000000 in
set_option maxRecDepth 100000 in
theorem quadformref01_Small.calls (a0 : Int) (r1 : Bool) (r2 : List Int) (w : World) (h : quadformref01_Small.f a0 = some (r1, r2)) :
    Calls Try.prog 17 #[.int .i64 a0] w fun e w' => ∃ v1_ : Value, e = .returned (.agg #[.bool r1, v1_]) ∧ Kd.R (Kd.int .u32) 98 w' w.heap.size (fun _ => True) v1_ r2 ∧ Below w.heap.size w w' := by
  have hu24 := Try.underlying24
  have HB := Aside0.mk (Below.refl w.heap.size w)
  have H : (if a0 < 0 then ((quadformref01_word.f true (IntKind.u64.wrap (-(IntKind.u64.wrap (a0))))).bind fun bt199 => (some (bt199.1, bt199.2))) else ((quadformref01_word.f false (IntKind.u64.wrap (a0))).bind fun bt203 => (some (bt203.1, bt203.2)))) = some (r1, r2) := h
  clear h
  by_cases c2 : a0 < 0
  · rw [if_pos c2] at H
    have c2b0 : decide (a0 < 0) = true := decide_eq_true c2
    clear c2
    replace H := Option.bind_eq_some_iff.mp H
    obtain ⟨⟨t199, t200⟩, A30, H⟩ := H
    replace H : (some (t199, t200)) = some (r1, r2) := H
    have A3 := Aside0.mk A30
    clear A30
    simp only [Option.some.injEq, Prod.mk.injEq] at H
    obtain ⟨rfl, rfl⟩ := H
    go_enter Try.func17, Try.ntmps17
    go_wp2_with (first | ((with_reducible refine gate_dst (N := 2) rfl ?_); refine box_event ?hg (N := 2) ?hd (cs := #[.bool false, .slice none 0 0]) (t := 24) ?hr ?_; (case hd => rfl); (case hg => rfl); (case hr => first | (go_simp; done) | (go_simp; rfl)); intro gb198 hg w4 hbox hb; have n0_ := Aside0.mk (below_step (by repeat (first | (with_reducible first | exact HB.out | apply below_alloc | apply pw_below_drewN | apply below_drew1) | exact HB.out)) hb); have n1_ := Aside0.mk (hbox); have n2_ := Aside0.mk ((by rw [hg]; exact (below_size (by repeat (first | (with_reducible first | exact HB.out | apply below_alloc | apply pw_below_drewN | apply below_drew1) | exact HB.out))) : w.heap.size ≤ gb198)); have n3_ := Aside0.mk ((by rw [hg]; exact (below_size (by repeat (first | (with_reducible first | exact HB.out | apply below_alloc | apply pw_below_drewN | apply below_drew1) | exact HB.out))) : w.heap.size ≤ gb198)); clear HB; have HB := n0_; have BK198 := n1_; have GW198 := n2_; have GE198 := n3_; clear n0_ n1_ n2_ n3_; clear hb hbox hg) | ((with_reducible refine gate_callee (f := 51) rfl ?_); refine goesL_ (some 8) rfl rfl Try.func51 (by kernel_rfl) rfl #[.bool true, .int .u64 (IntKind.u64.wrap (-(IntKind.u64.wrap (a0))))] rfl (by (try simp only [List.map_toArray, List.map_cons, List.map_nil]); first | done | rfl | (simp only [List.length_drop, List.length_take]; rfl)) ?_; (with_reducible refine (quadformref01_word.calls true (IntKind.u64.wrap (-(IntKind.u64.wrap (a0)))) t199 t200 _ A3.out).mono ?_); rintro e w5 ⟨v201, rfl, ho0, hb⟩; refine ⟨_, rfl, ?_⟩; have n0_ := Aside0.mk (Kd.R_lower ho0 (below_size (by repeat (first | (with_reducible first | exact HB.out | apply below_alloc | apply pw_below_drewN | apply below_drew1 | refine below_set ?_ GE198.out) | exact HB.out)))); have n1_ := Aside0.mk (blk_below (g := gb198) (o := .cells #[.bool false, .slice none 0 0] 24 (0, 0)) (by (with_reducible repeat (first | refine blk_drewN ?_ _ | refine blk_drew ?_ | refine blk_alloc ?_ _)); exact BK198.out) hb); have n2_ := Aside0.mk (below_step (by repeat (first | (with_reducible first | exact HB.out | apply below_alloc | apply pw_below_drewN | apply below_drew1 | refine below_set ?_ GE198.out) | exact HB.out)) hb); clear BK198; clear HB; have HO202 := n0_; have BK198 := n1_; have HB := n2_; clear n0_ n1_ n2_; (try clear hb); (try clear hb2); (try clear hk); (try clear hi); (try clear ho0); have hcz6_0 : w5.cell? ⟨gb198, 0, none⟩ = some (.bool false) := (blk_cell BK198.out 0).trans rfl; have hcz6_1 : w5.cell? ⟨gb198, 1, none⟩ = some (.slice none 0 0) := (blk_cell BK198.out 1).trans rfl; have hfz6_0 := blk_frozen BK198.out 0; have hfz6_1 := blk_frozen BK198.out 1; obtain ⟨Ao7, co7, eo7⟩ := Kd.R_slice HO202.out; subst eo7))
    refine bodyPost_ret (results_cell_row rfl _ _ gb198 24 #[.bool t199, .slice Ao7 t200.length co7] (0, 0) _ rfl (by (with_reducible repeat (first | refine blk_drewN ?_ _ | refine blk_drew ?_ | refine blk_alloc ?_ _)); refine blk_put (cs := #[.bool t199, .slice none 0 0]) ?_ 1 _ rfl; (with_reducible repeat (first | refine blk_drewN ?_ _ | refine blk_drew ?_ | refine blk_alloc ?_ _)); refine blk_put (cs := #[.bool false, .slice none 0 0]) ?_ 0 _ rfl; (with_reducible repeat (first | refine blk_drewN ?_ _ | refine blk_drew ?_ | refine blk_alloc ?_ _)); exact BK198.out) Try.underlying24 rfl (by kernel_rfl)) rfl ?_
    exact ⟨_, by first | rfl | (simp [errW_none, errW_some] <;> rfl) | (simp [*, errW_none, errW_some] <;> rfl), by (with_reducible repeat (first | apply Kd.R_alloc | apply Kd.R_drewN | apply Kd.R_drew)); exact Kd.R_mono (Kd.R_far (p := ⟨gb198, 1, none⟩) (Kd.R_far (p := ⟨gb198, 0, none⟩) (Kd.R_types HO202.out BK198.out (by decide)) (fun _ hk => hk.2) (.bool t199)) (fun _ hk => hk.2) (.slice Ao7 t200.length co7)) (fun _ hk => trivial), by repeat (first | (with_reducible first | exact HB.out | apply below_alloc | apply pw_below_drewN | apply below_drew1 | refine below_set ?_ GE198.out) | exact HB.out)⟩
  · rw [if_neg c2] at H
    have c2b0 : decide (a0 < 0) = false := decide_eq_false c2
    clear c2
    replace H := Option.bind_eq_some_iff.mp H
    obtain ⟨⟨t203, t204⟩, A80, H⟩ := H
    replace H : (some (t203, t204)) = some (r1, r2) := H
    have A8 := Aside0.mk A80
    clear A80
    simp only [Option.some.injEq, Prod.mk.injEq] at H
    obtain ⟨rfl, rfl⟩ := H
    go_enter Try.func17, Try.ntmps17
    go_wp2_with (first | ((with_reducible refine gate_dst (N := 2) rfl ?_); refine box_event ?hg (N := 2) ?hd (cs := #[.bool false, .slice none 0 0]) (t := 24) ?hr ?_; (case hd => rfl); (case hg => rfl); (case hr => first | (go_simp; done) | (go_simp; rfl)); intro gb198 hg w9 hbox hb; have n0_ := Aside0.mk (below_step (by repeat (first | (with_reducible first | exact HB.out | apply below_alloc | apply pw_below_drewN | apply below_drew1) | exact HB.out)) hb); have n1_ := Aside0.mk (hbox); have n2_ := Aside0.mk ((by rw [hg]; exact (below_size (by repeat (first | (with_reducible first | exact HB.out | apply below_alloc | apply pw_below_drewN | apply below_drew1) | exact HB.out))) : w.heap.size ≤ gb198)); have n3_ := Aside0.mk ((by rw [hg]; exact (below_size (by repeat (first | (with_reducible first | exact HB.out | apply below_alloc | apply pw_below_drewN | apply below_drew1) | exact HB.out))) : w.heap.size ≤ gb198)); clear HB; have HB := n0_; have BK198 := n1_; have GW198 := n2_; have GE198 := n3_; clear n0_ n1_ n2_ n3_; clear hb hbox hg) | ((with_reducible refine gate_callee (f := 51) rfl ?_); refine goesL_ (some 11) rfl rfl Try.func51 (by kernel_rfl) rfl #[.bool false, .int .u64 (IntKind.u64.wrap (a0))] rfl (by (try simp only [List.map_toArray, List.map_cons, List.map_nil]); first | done | rfl | (simp only [List.length_drop, List.length_take]; rfl)) ?_; (with_reducible refine (quadformref01_word.calls false (IntKind.u64.wrap (a0)) t203 t204 _ A8.out).mono ?_); rintro e w10 ⟨v205, rfl, ho0, hb⟩; refine ⟨_, rfl, ?_⟩; have n0_ := Aside0.mk (Kd.R_lower ho0 (below_size (by repeat (first | (with_reducible first | exact HB.out | apply below_alloc | apply pw_below_drewN | apply below_drew1 | refine below_set ?_ GE198.out) | exact HB.out)))); have n1_ := Aside0.mk (blk_below (g := gb198) (o := .cells #[.bool false, .slice none 0 0] 24 (0, 0)) (by (with_reducible repeat (first | refine blk_drewN ?_ _ | refine blk_drew ?_ | refine blk_alloc ?_ _)); exact BK198.out) hb); have n2_ := Aside0.mk (below_step (by repeat (first | (with_reducible first | exact HB.out | apply below_alloc | apply pw_below_drewN | apply below_drew1 | refine below_set ?_ GE198.out) | exact HB.out)) hb); clear BK198; clear HB; have HO206 := n0_; have BK198 := n1_; have HB := n2_; clear n0_ n1_ n2_; (try clear hb); (try clear hb2); (try clear hk); (try clear hi); (try clear ho0); have hcz11_0 : w10.cell? ⟨gb198, 0, none⟩ = some (.bool false) := (blk_cell BK198.out 0).trans rfl; have hcz11_1 : w10.cell? ⟨gb198, 1, none⟩ = some (.slice none 0 0) := (blk_cell BK198.out 1).trans rfl; have hfz11_0 := blk_frozen BK198.out 0; have hfz11_1 := blk_frozen BK198.out 1; obtain ⟨Ao12, co12, eo12⟩ := Kd.R_slice HO206.out; subst eo12))
    refine bodyPost_ret (results_cell_row rfl _ _ gb198 24 #[.bool t203, .slice Ao12 t204.length co12] (0, 0) _ rfl (by (with_reducible repeat (first | refine blk_drewN ?_ _ | refine blk_drew ?_ | refine blk_alloc ?_ _)); refine blk_put (cs := #[.bool t203, .slice none 0 0]) ?_ 1 _ rfl; (with_reducible repeat (first | refine blk_drewN ?_ _ | refine blk_drew ?_ | refine blk_alloc ?_ _)); refine blk_put (cs := #[.bool false, .slice none 0 0]) ?_ 0 _ rfl; (with_reducible repeat (first | refine blk_drewN ?_ _ | refine blk_drew ?_ | refine blk_alloc ?_ _)); exact BK198.out) Try.underlying24 rfl (by kernel_rfl)) rfl ?_
    exact ⟨_, by first | rfl | (simp [errW_none, errW_some] <;> rfl) | (simp [*, errW_none, errW_some] <;> rfl), by (with_reducible repeat (first | apply Kd.R_alloc | apply Kd.R_drewN | apply Kd.R_drew)); exact Kd.R_mono (Kd.R_far (p := ⟨gb198, 1, none⟩) (Kd.R_far (p := ⟨gb198, 0, none⟩) (Kd.R_types HO206.out BK198.out (by decide)) (fun _ hk => hk.2) (.bool t203)) (fun _ hk => hk.2) (.slice Ao12 t204.length co12)) (fun _ hk => trivial), by repeat (first | (with_reducible first | exact HB.out | apply below_alloc | apply pw_below_drewN | apply below_drew1 | refine below_set ?_ GE198.out) | exact HB.out)⟩

end Go.Proofs.Ytpkgckccfanchaa.M

/- ## Gm -/
/- Maps of the program's chain as the machine holds them: what a look-up, a store and a deletion do, entry by entry. -/
namespace Go.Proofs.Ytpkgckccfanchaa.M
open Go.RowKit Go.Proofs.YtpkgckccfanchaaW.PrintWords Go.Proofs.YtpkgckccfanchaaW.PrintLast Go.Proofs.YtpkgckccfanchaaW.PrintMore
open Go.Maps (Keyed int_keyed keyOf_int_mk)
open Go.ChangeMaps (setBlock)

/-! ### 1. Any map whose keys are read -/
section
variable {P : Program} {k e t : TypeId} {W : World} {b : Nat} {es : Array MapEntry} {ck : Nat}
def KeysOk (P : Program) (k : TypeId) (es : Array MapEntry) : Prop := ∀ x ∈ es.toList, ∃ l, keyOf P k x.key = some l
theorem gm_look_none (K : Keyed P k) (ht : P.underlying t = some (.map k e)) {z : Value} (hz : (zeroValue e).run P W = .ok z W) (hb : W.heap[b]? = some (.map es ck)) (hk : KeysOk P k es) {key : Value} {l : Lit} (hkey : keyOf P k key = some l)
    (hno : ∀ x ∈ es.toList, x.key ≠ key) (c : Bool) : (Instr.lookup t (.map (some b)) key c).run P W = .ok (if c then .tuple #[z, .bool false] else z) W := by
  rcases K.find W hkey es.toList hk with ⟨h1, _⟩ | ⟨j, e0, _, h2, h3⟩
  · simp [Instr.lookup, run_underlying ht, MapKept.run_getObj_map hb, K.check W _ hkey, h1, hz, Result.andThen]
  · exact absurd h3 (hno e0 (List.mem_of_getElem? h2))
theorem gm_find (K : Keyed P k) (hk : KeysOk P k es) (hd : es.toList.Pairwise (fun x y => x.key ≠ y.key)) {key : Value} {l : Lit} (hkey : keyOf P k key = some l) {j : Nat} {e0 : MapEntry} (hj : es.toList[j]? = some e0) (he : e0.key = key) :
    (Instr.findKey k key es.toList).run P W = .ok (some (j, e0.val)) W := by
  rcases K.find W hkey es.toList hk with ⟨_, h2⟩ | ⟨i, e1, h1, h2, h3⟩
  · exact absurd he (h2 e0 (List.mem_of_getElem? hj))
  · obtain ⟨hi, e2⟩ := List.getElem?_eq_some_iff.1 h2
    obtain ⟨hj', e3⟩ := List.getElem?_eq_some_iff.1 hj
    have hij : i = j := by
      have hp := List.pairwise_iff_getElem.1 hd
      rcases Nat.lt_trichotomy i j with h | h | h
      · exact absurd (by rw [e2, e3, h3, he]) (hp i j hi hj' h)
      · exact h
      · exact absurd (by rw [e2, e3, h3, he]) (hp j i hj' hi h)
    subst hij
    rw [h2] at hj
    cases hj
    exact h1
theorem gm_look_some (K : Keyed P k) (ht : P.underlying t = some (.map k e)) (hb : W.heap[b]? = some (.map es ck)) (hk : KeysOk P k es) (hd : es.toList.Pairwise (fun x y => x.key ≠ y.key)) {key : Value} {l : Lit} (hkey : keyOf P k key = some l)
    {j : Nat} {e0 : MapEntry} (hj : es.toList[j]? = some e0) (he : e0.key = key) (c : Bool) : (Instr.lookup t (.map (some b)) key c).run P W = .ok (if c then .tuple #[e0.val, .bool true] else e0.val) W := by
  simp [Instr.lookup, run_underlying ht, MapKept.run_getObj_map hb, K.check W _ hkey, gm_find (W := W) K hk hd hkey hj he, Result.andThen]
theorem gm_store_new (K : Keyed P k) (ht : P.underlying t = some (.map k e)) (hb : W.heap[b]? = some (.map es ck)) (hk : KeysOk P k es) {key : Value} {l : Lit} (hkey : keyOf P k key = some l)
    (hno : ∀ x ∈ es.toList, x.key ≠ key) (v : Value) : (Instr.mapUpdate t (.map (some b)) key v).run P W = .ok () (setBlock W b (.map (es.push ⟨key, v, ck⟩) (ck + 1))) := by
  rcases K.find W hkey es.toList hk with ⟨h1, _⟩ | ⟨j, e0, _, h2, h3⟩
  · simp [Instr.mapUpdate, run_underlying ht, MapKept.run_getObj_map hb, K.check W false hkey, h1, MapKept.run_setObj_map _ hb, Result.andThen, setBlock]
  · exact absurd h3 (hno e0 (List.mem_of_getElem? h2))
theorem gm_store_old (K : Keyed P k) (ht : P.underlying t = some (.map k e)) (hb : W.heap[b]? = some (.map es ck)) (hk : KeysOk P k es) (hd : es.toList.Pairwise (fun x y => x.key ≠ y.key)) {key : Value} {l : Lit} (hkey : keyOf P k key = some l)
    {j : Nat} {e0 : MapEntry} (hj : es.toList[j]? = some e0) (he : e0.key = key) (v : Value) : (Instr.mapUpdate t (.map (some b)) key v).run P W = .ok () (setBlock W b (.map (es.modify j fun x => { x with key := key, val := v }) ck)) := by
  have hj2 : es[j]? = some e0 := by simpa using hj
  have hst := K.stays W hkey
  simp [Instr.mapUpdate, run_underlying ht, MapKept.run_getObj_map hb, K.check W false hkey, gm_find (W := W) K hk hd hkey hj he, hj2, he, hst, MapKept.run_setObj_map _ hb, Result.andThen, setBlock]
theorem gm_delete (K : Keyed P k) (ht : P.underlying t = some (.map k e)) (hb : W.heap[b]? = some (.map es ck)) (hk : KeysOk P k es) (hd : es.toList.Pairwise (fun x y => x.key ≠ y.key)) {key : Value} {l : Lit} (hkey : keyOf P k key = some l)
    {j : Nat} {e0 : MapEntry} (hj : es.toList[j]? = some e0) (he : e0.key = key) (ty : TypeId) : (Builtin.delete_ #[t, k] ty #[.map (some b), key]).run P W = .ok (.tuple #[]) (setBlock W b (.map (es.eraseIdxIfInBounds j) ck)) := by
  simp [Builtin.delete_, run_underlying ht, MapKept.run_getObj_map hb, K.check W _ hkey, gm_find (W := W) K hk hd hkey hj he, MapKept.run_setObj_map _ hb, Result.andThen, setBlock]
end

/-! ### 2. The two maps of a level -/
theorem laidOut0 : laidOutB Try.prog = true := by kernel_rfl
theorem law_int : Keyed Try.prog 3 := int_keyed Try.underlying3
theorem law_pair : Keyed Try.prog 139 := Keyed.of_law (deep_law_laid laidOut0 (m := 3) (by omega) (of_decide_eq_true (by kernel_rfl)) (by kernel_rfl) (by rw [Try.underlying139]))
theorem key_int {x : Int} (h0 : -9223372036854775808 ≤ x) (h1 : x ≤ 9223372036854775807) : keyOf Try.prog 3 (.int .i64 x) = some (.int .i64 x) := keyOf_int_mk Try.underlying3 (WalkArith.wf_i64 (by omega))
theorem key_pair {x y : Int} (h0 : -9223372036854775808 ≤ x) (h1 : x ≤ 9223372036854775807) (k0 : -9223372036854775808 ≤ y) (k1 : y ≤ 9223372036854775807) : ∃ l, keyOf Try.prog 139 (.agg #[.int .i64 x, .int .i64 y]) = some l := by
  have w0 : (Lit.int .i64 x).wf = true := WalkArith.wf_i64 (by omega)
  have w1 : (Lit.int .i64 y).wf = true := WalkArith.wf_i64 (by omega)
  have hk : Try.prog.keyType 139 = true := by kernel_rfl
  have hf : (Value.agg #[.int .i64 x, .int .i64 y]).formed Try.prog 139 = true := by kernel_rfl
  refine ⟨.string (keyBytes [.int .i64 x, .int .i64 y]), ?_⟩
  have hm : Try.prog.types.size + 1 = (Try.prog.types.size - 1) + 1 + 1 := by have : 0 < Try.prog.types.size := of_decide_eq_true (by kernel_rfl)
                                                                              omega
  have h1 : ∀ (m : Nat) (a : Int), (Lit.int .i64 a).wf = true → Try.prog.keyLits (m + 1) 3 [.int .i64 a] = some [.int .i64 a] := by
    intro m a wa
    unfold Program.keyLits
    simp [Try.underlying3, wa]
  have hc : Try.prog.cellsOf 3 = 1 := by kernel_rfl
  have hc2 : Try.prog.cellsOf 139 = 2 := by kernel_rfl
  unfold keyOf
  rw [hm, Try.underlying139]
  simp only [hk, hf, Bool.and_self, if_true]
  unfold Program.keyLits
  simp [Try.underlying139, hc2, hc, h1, Value.cells, w0, w1]
end Go.Proofs.Ytpkgckccfanchaa.M

/- ## Gr -/
/- The program's chain as the machine holds it: levels behind pointers, their orbits, representatives and open pairs. -/
namespace Go.Proofs.Ytpkgckccfanchaa.M
open Go.RowKit Go.Proofs.YtpkgckccfanchaaW.PrintWords Go.Proofs.YtpkgckccfanchaaW.PrintLast Go.Proofs.YtpkgckccfanchaaW.PrintMore
open Go.ChangeMaps (setBlock)
open Sims
set_option linter.unusedVariables false

/-! ### 1. What has changed -/
structure Chg (S : Nat → Prop) (w w' : World) : Prop where
  os : w'.os = w.os
  tape : w'.tape = w.tape
  output : w'.output = w.output
  size : w.heap.size ≤ w'.heap.size
  keep : ∀ i, i < w.heap.size → ¬ S i → w'.heap[i]? = w.heap[i]?
namespace Chg
variable {S S' : Nat → Prop} {w w1 w2 : World}
theorem refl (S : Nat → Prop) (w : World) : Chg S w w := ⟨rfl, rfl, rfl, Nat.le_refl _, fun _ _ _ => rfl⟩
theorem trans (h : Chg S w w1) (k : Chg S' w1 w2) (hs : ∀ b, S' b → S b ∨ w.heap.size ≤ b) : Chg S w w2 :=
  ⟨k.os.trans h.os, k.tape.trans h.tape, k.output.trans h.output, Nat.le_trans h.size k.size, fun i hi hn => (k.keep i (Nat.lt_of_lt_of_le hi h.size) (fun hS => (hs i hS).elim hn (fun h => by omega))).trans (h.keep i hi hn)⟩
theorem mono (h : Chg S w w1) (hs : ∀ b, S b → S' b) : Chg S' w w1 := ⟨h.os, h.tape, h.output, h.size, fun i hi hn => h.keep i hi (fun hS => hn (hs i hS))⟩
theorem of_below (h : Below w.heap.size w w1) : Chg S w w1 := ⟨h.os, h.tape, h.output, h.size, fun i hi _ => h.block i hi⟩
theorem below {B : Nat} (h : Chg S w w1) (hB : B ≤ w.heap.size) (hs : ∀ b, S b → B ≤ b) : Below B w w1 := ⟨h.os, h.tape, h.output, h.size, fun i hi => h.keep i (by omega) (fun hS => by have := hs i hS; omega)⟩
theorem of_grown {row : Option Nat} (h : w.grownBy w1 row) : Chg (fun b => some b = row) w w1 := ⟨h.os, h.tape, h.output, h.size, fun i hi hn => h.block i hi hn⟩
theorem alloc (w : World) (o : Obj) : Chg S w (w.alloc o) := of_below (below_alloc (Below.refl _ _) o)
theorem drew (w : World) : Chg S w w.drew := of_below (below_drew (Below.refl _ _))
theorem drewN (w : World) (m : Nat) : Chg S w (w.drewN m) := of_below (pw_below_drewN (Below.refl _ _) m)
theorem block (w : World) (b : Nat) (o : Obj) : Chg (fun k => k = b) w (setBlock w b o) := ⟨rfl, rfl, rfl, by simp [setBlock], fun i _ hn => by simp only [setBlock]; exact Array.getElem?_setIfInBounds_ne (fun e => hn e.symm)⟩
theorem cell (w : World) (a : Addr) (v : Value) : Chg (fun k => k = a.block) w (w.setCell a v) := ⟨rfl, rfl, rfl, by simp [World.setCell], fun i _ hn => Below.heap_setCell w a v i hn⟩
end Chg

/-! ### 2. Values -/
/-- A row of numbers, whose reading hangs on the blocks of ok alone. -/
abbrev PV (w : World) (ok : Nat → Prop) (v : Value) (p : List Int) : Prop := Kd.V (Kd.int .i64) 3 w 0 ok v p
/-- A row of numbers in one block that is new since N. -/
def PN (N : Nat) (w : World) (v : Value) (p : List Int) : Prop := ∃ b, N ≤ b ∧ b < w.heap.size ∧ PV w (fun k => k = b) v p
theorem PV.chg {S ok : Nat → Prop} {w w1 : World} {v : Value} {p : List Int} (h : PV w ok v p) (hc : Chg S w w1) (hd : ∀ b, ok b → ¬ S b) : PV w1 ok v p := Kd.V_step h (fun k hk hlt => hc.keep k hlt (hd k hk))
theorem PV.below {ok : Nat → Prop} {w w1 : World} {v : Value} {p : List Int} (h : PV w ok v p) (hc : Below w.heap.size w w1) : PV w1 ok v p := Kd.V_below h hc
theorem PV.mono {ok ok' : Nat → Prop} {w : World} {v : Value} {p : List Int} (h : PV w ok v p) (hs : ∀ b, ok b → ok' b) : PV w ok' v p := Kd.V_mono h hs
theorem PV.read {ok : Nat → Prop} {w : World} {v : Value} {p : List Int} (h : PV w ok v p) : ∃ A c, v = .slice A p.length c ∧ p.length ≤ c ∧ Kd.C (Kd.int .i64) w A p.length p := by
  obtain ⟨A, c, e, hc, hF⟩ := h
  exact ⟨A, c, e, hc, Kd.F_now hF⟩
theorem PN.pv {N : Nat} {w : World} {v : Value} {p : List Int} (h : PN N w v p) {ok : Nat → Prop} (hok : ∀ b, N ≤ b → b < w.heap.size → ok b) : PV w ok v p := by
  obtain ⟨b, h1, h2, h3⟩ := h
  exact h3.mono (fun k hk => by subst hk; exact hok k h1 h2)
theorem PN.below {N : Nat} {w w1 : World} {v : Value} {p : List Int} (h : PN N w v p) (hb : Below w.heap.size w w1) : PN N w1 v p := by
  obtain ⟨b, h1, h2, h3⟩ := h
  exact ⟨b, h1, Nat.lt_of_lt_of_le h2 hb.size, h3.below hb⟩
theorem PN.of_R {N : Nat} {w : World} {ok : Nat → Prop} {v : Value} {p : List Int} (h : Kd.R (Kd.int .i64) 3 w N ok v p) (hp : 0 < p.length) : PN N w v p := by
  obtain ⟨g, cap, e, h1, h2, _⟩ := Kd.R_form h hp
  refine ⟨g, h1, h2, ?_⟩
  have := Kd.R_V (base' := 0) (Kd.R_tight rfl h)
  refine Kd.V_mono this (fun k hk => ?_)
  rw [e] at hk
  simpa [Value.ownBlock, eq_comm] using hk
theorem PN.lower {N N' : Nat} {w : World} {v : Value} {p : List Int} (h : PN N w v p) (hN : N' ≤ N) : PN N' w v p := by
  obtain ⟨b, h1, h2, h3⟩ := h
  exact ⟨b, Nat.le_trans hN h1, h2, h3⟩
theorem PN.any {N : Nat} {w : World} {v : Value} {p : List Int} (h : PN N w v p) : PV w (fun _ => True) v p := h.pv (fun _ _ _ => trivial)
theorem own_same {w w' : World} {B : Nat} {e : TypeId} {s n : Nat} {v : Value} {xs : List Value} (h : w.ownsRow B e s v n xs) (hk : ∀ g, v.ownBlock = some g → w'.heap[g]? = w.heap[g]?) : w'.ownsRow B e s v n xs := by
  refine ⟨h.1, ?_⟩
  rcases h.2 with ⟨h1, h2⟩ | ⟨g, cap, cur, h1, h2, h3, h4⟩
  · exact .inl ⟨h1, h2⟩
  · refine .inr ⟨g, cap, cur, h1, h2, ?_, h4⟩
    rw [hk g (by rw [h1]; rfl)]
    exact h3
theorem own_kind {w : World} {B : Nat} {e : TypeId} {s n : Nat} {v : Value} {xs : List Value} (h : w.ownsRow B e s v n xs) {g : Nat} (hg : v.ownBlock = some g) : B ≤ g ∧ ∃ cs, w.heap[g]? = some (.cells cs e (0, 0)) := by
  rcases h.2 with ⟨h1, h2⟩ | ⟨g', cap, cur, h1, h2, h3, h4⟩
  · rw [h1] at hg; simp [Value.ownBlock] at hg
  · rw [h1] at hg
    have : g' = g := by simpa [Value.ownBlock] using hg
    subst this
    exact ⟨h2, cur, h3⟩

/-! ### 3. A level -/
structure LC where
  lb : Nat
  gv : Value
  ov : Value
  rb : Nat
  tb : Nat
def LC.Blk (c : LC) (b : Nat) : Prop := b = c.lb ∨ c.gv.ownBlock = some b ∨ c.ov.ownBlock = some b ∨ b = c.rb ∨ b = c.tb
def RepsAt (w : World) (PB : Nat → Prop) (b : Nat) (reps : List (Int × List Int)) : Prop :=
  ∃ es ck, w.heap[b]? = some (.map es ck) ∧ es.toList.map (·.key) = reps.map (fun q => Value.int .i64 q.1) ∧ ∀ (j : Nat) q, reps[j]? = some q → ∃ x, es.toList[j]? = some x ∧ PV w PB x.val q.2
def TodoAt (w : World) (b : Nat) (todo : List (Int × Int)) : Prop :=
  ∃ es ck, w.heap[b]? = some (.map es ck) ∧ es.toList.map (fun x => (x.key, x.val)) = todo.map (fun q => (Value.agg #[.int .i64 q.1, .int .i64 q.2], Value.bool true))
def GensAt (w : World) (B : Nat) (PB : Nat → Prop) (v : Value) (gens : List (List Int)) : Prop :=
  ∃ gs : List Value, w.ownsRow B 28 1 v gens.length gs ∧ ∀ (j : Nat) p, gens[j]? = some p → ∃ u, gs[j]? = some u ∧ PV w PB u p
structure LvX (w : World) (B : Nat) (PB : Nat → Prop) (c : LC) (pt : Int) (gens : List (List Int)) (orb : List Int) (reps : List (Int × List Int)) (todo : List (Int × Int)) : Prop where
  cells : w.heap[c.lb]? = some (.cells #[.int .i64 pt, c.gv, c.ov, .map (some c.rb), .map (some c.tb)] 111 (0, 0))
  gens : GensAt w B PB c.gv gens
  orb : w.ownsRow B 3 1 c.ov orb.length (nums .i64 orb)
  reps : RepsAt w PB c.rb reps
  todo : TodoAt w c.tb todo
  base : B ≤ c.lb ∧ B ≤ c.rb ∧ B ≤ c.tb
  free : ∀ b, c.Blk b → ¬ PB b
  ne : c.rb ≠ c.tb
abbrev LvAt (w : World) (B : Nat) (PB : Nat → Prop) (c : LC) (l : Lv) : Prop := LvX w B PB c l.point l.gens (dom l) l.reps l.todo
theorem RepsAt.keep {w w' : World} {PB : Nat → Prop} {b : Nat} {reps : List (Int × List Int)} (h : RepsAt w PB b reps) (hb : w'.heap[b]? = w.heap[b]?) (hp : ∀ b, PB b → b < w.heap.size → w'.heap[b]? = w.heap[b]?) : RepsAt w' PB b reps := by
  obtain ⟨es, ck, h1, h2, h3⟩ := h
  refine ⟨es, ck, hb.trans h1, h2, fun j q hq => ?_⟩
  obtain ⟨x, hx, hv⟩ := h3 j q hq
  exact ⟨x, hx, Kd.V_step hv hp⟩
theorem RepsAt.mono {w : World} {PB PB' : Nat → Prop} {b : Nat} {reps : List (Int × List Int)} (h : RepsAt w PB b reps) (hp : ∀ b, PB b → PB' b) : RepsAt w PB' b reps := by
  obtain ⟨es, ck, h1, h2, h3⟩ := h
  exact ⟨es, ck, h1, h2, fun j q hq => by
    obtain ⟨x, hx, hv⟩ := h3 j q hq
    exact ⟨x, hx, hv.mono hp⟩⟩
theorem GensAt.keep {w w' : World} {B : Nat} {PB : Nat → Prop} {v : Value} {gens : List (List Int)} (h : GensAt w B PB v gens) (hb : ∀ g, v.ownBlock = some g → w'.heap[g]? = w.heap[g]?) (hp : ∀ b, PB b → b < w.heap.size → w'.heap[b]? = w.heap[b]?) : GensAt w' B PB v gens := by
  obtain ⟨gs, h1, h2⟩ := h
  refine ⟨gs, own_same h1 hb, fun j p hj => ?_⟩
  obtain ⟨u, hu, hv⟩ := h2 j p hj
  exact ⟨u, hu, Kd.V_step hv hp⟩
theorem GensAt.mono {w : World} {B : Nat} {PB PB' : Nat → Prop} {v : Value} {gens : List (List Int)} (h : GensAt w B PB v gens) (hp : ∀ b, PB b → PB' b) : GensAt w B PB' v gens := by
  obtain ⟨gs, h1, h2⟩ := h
  exact ⟨gs, h1, fun j p hj => by
    obtain ⟨u, hu, hv⟩ := h2 j p hj
    exact ⟨u, hu, hv.mono hp⟩⟩
theorem lt_of_some {w : World} {b : Nat} {o : Obj} (h : w.heap[b]? = some o) : b < w.heap.size := (Array.getElem?_eq_some_iff.1 h).1
namespace LvX
variable {w w' : World} {B : Nat} {PB PB' : Nat → Prop} {c : LC} {pt : Int} {gens : List (List Int)} {orb : List Int} {reps : List (Int × List Int)} {todo : List (Int × Int)}
theorem keep (h : LvX w B PB c pt gens orb reps todo) (hk : ∀ b, c.Blk b ∨ PB b → b < w.heap.size → w'.heap[b]? = w.heap[b]?) (hlt : ∀ b, c.Blk b → b < w.heap.size) : LvX w' B PB c pt gens orb reps todo := by
  have hb : ∀ b, c.Blk b → w'.heap[b]? = w.heap[b]? := fun b hb => hk b (.inl hb) (hlt b hb)
  have hp : ∀ b, PB b → b < w.heap.size → w'.heap[b]? = w.heap[b]? := fun b hb => hk b (.inr hb)
  refine ⟨(hb _ (.inl rfl)).trans h.cells, h.gens.keep (fun g hg => hb g (.inr (.inl hg))) hp, own_same h.orb (fun g hg => hb g (.inr (.inr (.inl hg)))), h.reps.keep (hb _ (.inr (.inr (.inr (.inl rfl))))) hp, ?_, h.base, h.free, h.ne⟩
  obtain ⟨es, ck, h1, h2⟩ := h.todo
  exact ⟨es, ck, (hb _ (.inr (.inr (.inr (.inr rfl))))).trans h1, h2⟩
theorem mono (h : LvX w B PB c pt gens orb reps todo) (hp : ∀ b, PB b → PB' b) (hf : ∀ b, c.Blk b → ¬ PB' b) : LvX w B PB' c pt gens orb reps todo :=
  ⟨h.cells, h.gens.mono hp, h.orb, h.reps.mono hp, h.todo, h.base, hf, h.ne⟩
/-- What lies in a level's block. -/
theorem kind (h : LvX w B PB c pt gens orb reps todo) {b : Nat} (hb : c.Blk b) : B ≤ b ∧ ((∃ cs t, w.heap[b]? = some (.cells cs t (0, 0)) ∧ (t = 111 ∨ t = 28 ∨ t = 3)) ∨ ∃ es ck, w.heap[b]? = some (.map es ck)) := by
  rcases hb with rfl | hb | hb | rfl | rfl
  · exact ⟨h.base.1, .inl ⟨_, _, h.cells, .inl rfl⟩⟩
  · obtain ⟨gs, h1, _⟩ := h.gens
    obtain ⟨h2, cs, h3⟩ := own_kind h1 hb
    exact ⟨h2, .inl ⟨cs, _, h3, .inr (.inl rfl)⟩⟩
  · obtain ⟨h2, cs, h3⟩ := own_kind h.orb hb
    exact ⟨h2, .inl ⟨cs, _, h3, .inr (.inr rfl)⟩⟩
  · obtain ⟨es, ck, h1, _⟩ := h.reps
    exact ⟨h.base.2.1, .inr ⟨es, ck, h1⟩⟩
  · obtain ⟨es, ck, h1, _⟩ := h.todo
    exact ⟨h.base.2.2, .inr ⟨es, ck, h1⟩⟩
theorem lt (h : LvX w B PB c pt gens orb reps todo) {b : Nat} (hb : c.Blk b) : b < w.heap.size := by
  rcases (h.kind hb).2 with ⟨_, _, h1, _⟩ | ⟨_, _, h1⟩ <;> exact lt_of_some h1
theorem chg {S : Nat → Prop} (h : LvX w B PB c pt gens orb reps todo) (hc : Chg S w w') (hd : ∀ b, c.Blk b ∨ PB b → ¬ S b) : LvX w' B PB c pt gens orb reps todo :=
  h.keep (fun b hb hlt => hc.keep b hlt (hd b hb)) (fun _ hb => h.lt hb)
end LvX

/-! ### 4. A chain -/
abbrev LC.ptr (c : LC) : Value := .pointer (some ⟨c.lb, 0, none⟩)
structure GrAt (w : World) (B : Nat) (PB : Nat → Prop) (g n : Nat) (av : Value) (cs : List LC) (ls : List Lv) : Prop where
  cells : w.heap[g]? = some (.cells #[.int .i64 (n : Int), av] 106 (0, 0))
  arr : w.ownsRow B 107 1 av cs.length (cs.map LC.ptr)
  len : cs.length = ls.length
  lv : ∀ (j : Nat) c l, cs[j]? = some c → ls[j]? = some l → LvAt w B PB c l
  apart : cs.Pairwise (fun c d => ∀ b, c.Blk b → ¬ d.Blk b)
  base : B ≤ g
  free : ¬ PB g ∧ ∀ b, av.ownBlock = some b → ¬ PB b
namespace GrAt
variable {w w' : World} {B g n : Nat} {PB PB' : Nat → Prop} {av : Value} {cs : List LC} {ls : List Lv}
theorem at_ (h : GrAt w B PB g n av cs ls) {j : Nat} {c : LC} (hc : cs[j]? = some c) : ∃ l, ls[j]? = some l ∧ LvAt w B PB c l := by
  have hj : j < ls.length := by rw [← h.len]; exact (List.getElem?_eq_some_iff.1 hc).1
  exact ⟨ls[j], List.getElem?_eq_getElem hj, h.lv j c _ hc (List.getElem?_eq_getElem hj)⟩
theorem mem (h : GrAt w B PB g n av cs ls) {c : LC} (hc : c ∈ cs) : ∃ l, l ∈ ls ∧ LvAt w B PB c l := by
  obtain ⟨j, hj, e⟩ := List.getElem_of_mem hc
  obtain ⟨l, hl, h1⟩ := h.at_ (j := j) (by rw [List.getElem?_eq_getElem hj, e])
  exact ⟨l, List.mem_of_getElem? hl, h1⟩
/-- The chain's own two blocks are none of the levels'. -/
theorem own_ne (h : GrAt w B PB g n av cs ls) {c : LC} (hc : c ∈ cs) {b : Nat} (hb : c.Blk b) : b ≠ g ∧ av.ownBlock ≠ some b := by
  obtain ⟨l, _, hl⟩ := h.mem hc
  have hk := (hl.kind hb).2
  constructor
  · rintro rfl
    rcases hk with ⟨_, t, h1, h2⟩ | ⟨_, _, h1⟩
    · rw [h.cells] at h1
      simp only [Option.some.injEq, Obj.cells.injEq] at h1
      rw [← h1.2.1] at h2
      simp at h2
    · rw [h.cells] at h1; simp at h1
  · intro e
    obtain ⟨_, cs', h3⟩ := own_kind h.arr e
    rcases hk with ⟨_, t, h1, h2⟩ | ⟨_, _, h1⟩
    · rw [h3] at h1
      simp only [Option.some.injEq, Obj.cells.injEq] at h1
      rw [← h1.2.1] at h2
      simp at h2
    · rw [h3] at h1; simp at h1
theorem av_ne (h : GrAt w B PB g n av cs ls) : av.ownBlock ≠ some g := by
  intro e
  obtain ⟨_, cs', h3⟩ := own_kind h.arr e
  rw [h.cells] at h3
  simp at h3
theorem chg {S : Nat → Prop} (h : GrAt w B PB g n av cs ls) (hc : Chg S w w') (hg : ¬ S g) (ha : ∀ b, av.ownBlock = some b → ¬ S b) (hl : ∀ c ∈ cs, ∀ b, c.Blk b → ¬ S b) (hp : ∀ b, PB b → ¬ S b) : GrAt w' B PB g n av cs ls := by
  refine ⟨(hc.keep g (lt_of_some h.cells) hg).trans h.cells, own_same h.arr (fun b hb => ?_), h.len, fun j c l h1 h2 => (h.lv j c l h1 h2).chg hc (fun b hb => hb.elim (hl c (List.mem_of_getElem? h1) b) (hp b)), h.apart, h.base, h.free⟩
  obtain ⟨_, _, h3⟩ := own_kind h.arr hb
  exact hc.keep b (lt_of_some h3) (ha b hb)
theorem below (h : GrAt w B PB g n av cs ls) (hb : Below w.heap.size w w') : GrAt w' B PB g n av cs ls :=
  h.chg (Chg.of_below (S := fun _ => False) hb) id (fun _ _ => id) (fun _ _ _ _ => id) (fun _ _ => id)
theorem mono (h : GrAt w B PB g n av cs ls) (hp : ∀ b, PB b → PB' b) (hg : ¬ PB' g) (ha : ∀ b, av.ownBlock = some b → ¬ PB' b) (hl : ∀ c ∈ cs, ∀ b, c.Blk b → ¬ PB' b) : GrAt w B PB' g n av cs ls :=
  ⟨h.cells, h.arr, h.len, fun j c l h1 h2 => (h.lv j c l h1 h2).mono hp (hl c (List.mem_of_getElem? h1)), h.apart, h.base, ⟨hg, ha⟩⟩
end GrAt
end Go.Proofs.Ytpkgckccfanchaa.M

/- ## M9 -/
-- Written by wip/tools/pp.py (a driver round the kit's printer, with patches of this session): not a printed file.
namespace Go.Proofs.Ytpkgckccfanchaa.M
open Go.RowKit Go.Proofs.YtpkgckccfanchaaW.PrintWords Go.Proofs.YtpkgckccfanchaaW.PrintLast Go.Proofs.YtpkgckccfanchaaW.PrintMore
attribute [local go_sem] max2_int min2_int max_two min_two max_three min_three max_four min_four   -- for this text's walks alone
set_option linter.unusedVariables false
set_option linter.unusedSimpArgs false

/-! ### stabchain_then: function 78 -/
def stabchain_then.l0 : Nat → List Int → List Int → List Int → Int → Int → Option (List Int)
  | 0, _, _, _, _, _ => none
  | k + 1, x1, x5, x11, x12, x13 => if x13 < x12 then (if 0 ≤ x13 then (if x13 < (x11.length : Int) then (if 0 ≤ (rd x11 x13) then (if (rd x11 x13) < (x1.length : Int) then (if x13 < (x5.length : Int) then (stabchain_then.l0 k x1 (x5.set (x13 : Int).toNat (rd x1 (rd x11 x13))) x11 x12 (wrap64 (x13 + 1))) else (none)) else (none)) else (none)) else (none)) else (none)) else (some x5)
def stabchain_then.f (k : Nat) (l0 : List Int) (l1 : List Int) : Option (List Int) := if 0 ≤ (l0.length : Int) then (if ((l0.length : Int) : Int).toNat ≤ 35184372088832 then (stabchain_then.l0 k l1 (List.replicate ((l0.length : Int) : Int).toNat 0) l0 (l0.length : Int) 0) else (none)) else (none)
theorem stabchain_then.mono_l : ∀ k, (∀ y0 y1 y2 y3 y4, LeO (stabchain_then.l0 k y0 y1 y2 y3 y4) (stabchain_then.l0 (k + 1) y0 y1 y2 y3 y4))
  | 0 => fun _ _ _ _ _ r h => by simp [stabchain_then.l0] at h
  | k + 1 => by
    have ih0 := stabchain_then.mono_l k
    · intro y0 y1 y2 y3 y4
      unfold stabchain_then.l0
      repeat' first
      | (with_reducible exact ih0 _ _ _ _ _)
      | (with_reducible exact LeO.refl _)
      | (with_reducible exact LeO.none _)
      | (with_reducible refine LeO.ite ?_ ?_)
      | (with_reducible refine LeO.bind ?_ (fun _ => ?_))
      | exact ih0 _ _ _ _ _
      | exact LeO.none _
      | refine LeO.ite ?_ ?_
      | refine LeO.bind ?_ (fun _ => ?_)
theorem stabchain_then.mono : ∀ a0 a1 k, LeO (stabchain_then.f k a0 a1) (stabchain_then.f (k + 1) a0 a1) := by
  intro a0 a1 k
  have ih0 := stabchain_then.mono_l k
  unfold stabchain_then.f
  repeat' first
      | (with_reducible exact ih0 _ _ _ _ _)
      | (with_reducible exact LeO.refl _)
      | (with_reducible exact LeO.none _)
      | (with_reducible refine LeO.ite ?_ ?_)
      | (with_reducible refine LeO.bind ?_ (fun _ => ?_))
      | exact ih0 _ _ _ _ _
      | exact LeO.none _
      | refine LeO.ite ?_ ?_
      | refine LeO.bind ?_ (fun _ => ?_)
set_option maxHeartbeats 8000000 in
set_option maxRecDepth 100000 in
theorem stabchain_then.calls (k : Nat) (A0 : Option Addr) (c0 : Nat) (l0 : List Int) (A1 : Option Addr) (c1 : Nat) (l1 : List Int) (r : List Int) (w : World) (hr0 : Kd.C (Kd.int .i64) w A0 l0.length l0) (hc0 : l0.length ≤ c0) (hr1 : Kd.C (Kd.int .i64) w A1 l1.length l1) (hc1 : l1.length ≤ c1) (h : stabchain_then.f k l0 l1 = some r) :
    Calls Try.prog 78 #[.slice A0 l0.length c0, .slice A1 l1.length c1] w fun e w' => ∃ v0_ : Value, e = .returned (v0_) ∧ Kd.R (Kd.int .i64) 3 w' w.heap.size (fun _ => True) v0_ r ∧ Below w.heap.size w w' := by
  have HR0 := Aside0.mk hr0
  have HC0 := Aside0.mk hc0
  clear hr0 hc0
  have HR1 := Aside0.mk hr1
  have HC1 := Aside0.mk hc1
  clear hr1 hc1
  have HB := Aside0.mk (Below.refl w.heap.size w)
  have H : (if 0 ≤ (l0.length : Int) then (if ((l0.length : Int) : Int).toNat ≤ 35184372088832 then (stabchain_then.l0 k l1 (List.replicate ((l0.length : Int) : Int).toNat 0) l0 (l0.length : Int) 0) else (none)) else (none)) = some r := h
  clear h
  by_cases c3 : 0 ≤ (l0.length : Int)
  · rw [if_pos c3] at H
    have c3b0 := eq_true c3
    have c3b1 : decide (0 ≤ (l0.length : Int)) = true := decide_eq_true c3
    clear c3
    by_cases c4 : ((l0.length : Int) : Int).toNat ≤ 35184372088832
    · rw [if_pos c4] at H
      have c4b0 := eq_true c4
      have c4b1 : decide (((l0.length : Int) : Int).toNat ≤ 35184372088832) = true := decide_eq_true c4
      clear c4
      obtain ⟨y115, hy115⟩ : ∃ y_ : List Int, y_ = (List.replicate ((l0.length : Int) : Int).toNat 0) := ⟨_, rfl⟩
      replace H : (stabchain_then.l0 k l1 y115 l0 (l0.length : Int) 0) = some r := by first | (rw [hy115]; with_reducible exact H) | (have H2_ := (Option.bind_some _ _).symm.trans H; rw [hy115]; with_reducible exact H2_) | (have H2_ := (Option.bind_some _ _).symm.trans H; with_reducible exact H2_) | with_reducible exact H | (rw [hy115]; exact H) | exact H
      have Ny115 := Aside0.mk hy115
      clear hy115
      have H' := Aside0.mk H
      clear H
      go_enter Try.func78, Try.ntmps78
      go_wp2_with (first | ((with_reducible refine gate_dst (N := 10) rfl ?_); refine Kd.R_make (Kd.int .i64) _ 3 rfl (N := 10) rfl 28 _ _ rfl (l0.length : Int) rfl rfl Try.underlying28 (.int .i64 0) 8 info3 rfl (by decide) (by omega) 0 (ok := fun _ => True) (okp := fun _ => True) rfl (fun _ hk => hk) trivial (of_decide_eq_true (by first | (with_reducible assumption) | assumption)) (Nat.le_trans (Nat.mul_le_mul_right _ (of_decide_eq_true (by first | (with_reducible assumption) | assumption) : (l0.length : Int).toNat ≤ 35184372088832)) (by omega)) (Below.refl _ _) (Nat.le_refl _) ?_; intro v116 w5 ho6 hb hg_ hnew_; clear hg_ hnew_; (first | rw [← Ny115.out] at ho6 | (simp only [Int.reduceToNat] at ho6; rw [← Ny115.out] at ho6)); have n0_ := Aside0.mk (Kd.R_lower ho6 (below_size (by repeat (first | (with_reducible first | exact HB.out | apply below_alloc | apply pw_below_drewN | apply below_drew1) | exact HB.out)))); have n1_ := Aside0.mk (below_step (by repeat (first | (with_reducible first | exact HB.out | apply below_alloc | apply pw_below_drewN | apply below_drew1) | exact HB.out)) hb); clear HB; have HO117 := n0_; have HB := n1_; clear n0_ n1_; clear hb ho6))
      go_loopg [13] k (fun kq v13 w' => ∃ (x5_1 : List Int) (x13_1 : Int), v13 = .int .i64 x13_1 ∧ Aside0 (stabchain_then.l0 kq l1 x5_1 l0 (l0.length : Int) x13_1 = some r) ∧ Aside0 (kq ≤ k) ∧ Aside0 (Kd.R (Kd.int .i64) 3 w' w.heap.size (fun _ => True) v116 x5_1) ∧ Aside0 (Below w.heap.size w w'))
      case atStart => exact ⟨(y115), (0), (by first | rfl | (simp; done) | (simp [*]; done)), H', ⟨Nat.le_refl _⟩, ⟨by (with_reducible repeat (first | apply Kd.R_alloc | apply Kd.R_drewN | apply Kd.R_drew)); exact HO117.out⟩, ⟨by repeat (first | (with_reducible first | exact HB.out | apply below_alloc | apply pw_below_drewN | apply below_drew1) | exact HB.out)⟩⟩
      case round =>
        clear H'
        try clear c1
        try clear p2
        try clear c3
        try clear c3b0
        try clear c3b1
        try clear c4
        try clear c4b0
        try clear c4b1
        obtain ⟨x5_1, x13_1, rfl, HA, HK1, HO_5, HB⟩ := hrel
        cases gk with
        | zero => exact absurd HA.out (by simp [stabchain_then.l0])
        | succ k1 =>
          have H := HA.out
          clear HA
          simp only [stabchain_then.l0] at H
          by_cases c7 : x13_1 < (l0.length : Int)
          · rw [if_pos c7] at H
            have c7b0 : decide (x13_1 < (l0.length : Int)) = true := decide_eq_true c7
            clear c7
            by_cases c8 : 0 ≤ x13_1
            · rw [if_pos c8] at H
              have c8b0 : decide (0 ≤ x13_1) = true := decide_eq_true c8
              clear c8
              by_cases c9 : x13_1 < (l0.length : Int)
              · rw [if_pos c9] at H
                have c9b0 : decide (x13_1 < (l0.length : Int)) = true := decide_eq_true c9
                clear c9
                by_cases c10 : 0 ≤ (rd l0 x13_1)
                · rw [if_pos c10] at H
                  have c10b0 : decide (0 ≤ (rd l0 x13_1)) = true := decide_eq_true c10
                  clear c10
                  by_cases c11 : (rd l0 x13_1) < (l1.length : Int)
                  · rw [if_pos c11] at H
                    have c11b0 : decide ((rd l0 x13_1) < (l1.length : Int)) = true := decide_eq_true c11
                    clear c11
                    by_cases c12 : x13_1 < (x5_1.length : Int)
                    · rw [if_pos c12] at H
                      have c12b0 : decide (x13_1 < (x5_1.length : Int)) = true := decide_eq_true c12
                      clear c12
                      obtain ⟨y120, hy120⟩ : ∃ y_ : List Int, y_ = (x5_1.set (x13_1 : Int).toNat (rd l1 (rd l0 x13_1))) := ⟨_, rfl⟩
                      replace H : (stabchain_then.l0 k1 l1 y120 l0 (l0.length : Int) (wrap64 (x13_1 + 1))) = some r := by first | (rw [hy120]; with_reducible exact H) | (have H2_ := (Option.bind_some _ _).symm.trans H; rw [hy120]; with_reducible exact H2_) | (have H2_ := (Option.bind_some _ _).symm.trans H; with_reducible exact H2_) | with_reducible exact H | (rw [hy120]; exact H) | exact H
                      have Ny120 := Aside0.mk hy120
                      clear hy120
                      have H' := Aside0.mk H
                      clear H
                      have p118 : 0 ≤ (x13_1 : Int) := of_decide_eq_true (by first | (with_reducible assumption) | assumption)
                      have q118 : x13_1 < (l0.length : Int) := of_decide_eq_true (by first | (with_reducible assumption) | assumption)
                      obtain ⟨ad118, e118, hx118_0⟩ := Kd.at_int HR0.out x13_1 p118 q118
                      cases e118
                      replace hx118_0 := (HB.out.cell (World.block_lt_of_cell? w _ hx118_0)).trans hx118_0
                      replace p118 := eq_true p118
                      replace q118 := eq_true q118
                      have p119 : 0 ≤ ((rd l0 x13_1) : Int) := of_decide_eq_true (by first | (with_reducible assumption) | assumption)
                      have q119 : (rd l0 x13_1) < (l1.length : Int) := of_decide_eq_true (by first | (with_reducible assumption) | assumption)
                      obtain ⟨ad119, e119, hx119_0⟩ := Kd.at_int HR1.out (rd l0 x13_1) p119 q119
                      cases e119
                      replace hx119_0 := (HB.out.cell (World.block_lt_of_cell? w _ hx119_0)).trans hx119_0
                      replace p119 := eq_true p119
                      replace q119 := eq_true q119
                      have p13 : 0 ≤ (x13_1 : Int) := of_decide_eq_true (by first | (with_reducible assumption) | assumption)
                      have q13 : (x13_1 : Int) < ((x5_1.length : Int) : Int) := of_decide_eq_true (by first | (with_reducible assumption) | assumption)
                      obtain ⟨go13, co13, eo13, gb13, gl13, cl13, HG13⟩ := Kd.R_form HO_5.out (by omega)
                      (first | cases eo13 | (injection eo13 with ea_ en_ ec_; (first | subst ea_ | (injection ea_ with ea_; subst ea_)); subst ec_; clear en_))
                      have GB13 := Aside0.mk gb13
                      have GG13 := Aside0.mk HG13
                      clear gb13 gl13 HG13
                      obtain ⟨hx13_0, hf13_0⟩ := Kd.R_celln 0 HO_5.out (x13_1 : Int) p13 q13
                      replace p13 := eq_true p13
                      replace q13 := eq_true q13
                      have HP14 := Kd.R_putg HO_5.out (x13_1 : Int) (rd l1 (rd l0 x13_1))
                      go_wp2_with (first | ((with_reducible refine gate_store (t := 3) (p := 24) rfl ?_); refine store_event (t := 3) (p := 24) (v := ?vo_w15) (w1 := (wr.setCell ⟨go13, (x13_1 : Int).toNat, none⟩ (.int .i64 (rd l1 (rd l0 x13_1))))) ?hg ?ho ?hn ?hr ?_; (case ho => rfl); (case hg => rfl); (case hn => rfl); (case hr => first | (go_simp; done) | (go_simp; rfl)); intro w15 hw; have hg : wr.grownBy w15 (some go13) := (by rw [hw]; exact HP14.2); have hp_ : Kd.R (Kd.int .i64) 3 w15 w.heap.size (fun _ => True) (.slice (some ⟨go13, 0, none⟩) x5_1.length co13) y120 := (by rw [hw, Ny120.out]; exact HP14.1); clear HP14; have n0_ := Aside0.mk (hp_); have n1_ := Aside0.mk ((by rw [hw]; exact below_set (HB.out) GB13.out : Below w.heap.size w w15)); clear HO_5; clear HB; have HO_5 := n0_; have HB := n1_; clear n0_ n1_; clear hg hw hp_))
                      go_roundg k1
                      case measure => have := HK1.out; omega
                      case rel => exact ⟨(y120), (wrap64 (x13_1 + 1)), (by first | rfl | (simp; done) | (simp [*]; done)), H', ⟨by have := HK1.out; omega⟩, ⟨by (with_reducible repeat (first | apply Kd.R_alloc | apply Kd.R_drewN | apply Kd.R_drew)); exact HO_5.out⟩, ⟨by repeat (first | (with_reducible first | exact HB.out | apply below_alloc | apply pw_below_drewN | apply below_drew1) | exact HB.out)⟩⟩
                    · rw [if_neg c12] at H
                      exact absurd H (by simp)
                  · rw [if_neg c11] at H
                    exact absurd H (by simp)
                · rw [if_neg c10] at H
                  exact absurd H (by simp)
              · rw [if_neg c9] at H
                exact absurd H (by simp)
            · rw [if_neg c8] at H
              exact absurd H (by simp)
          · rw [if_neg c7] at H
            have c7b0 : decide (x13_1 < (l0.length : Int)) = false := decide_eq_false c7
            clear c7
            obtain rfl := Option.some.inj H
            go_wp2
            go_ret
            exact ⟨_, by first | rfl | (simp [errW_none, errW_some] <;> rfl) | (simp [*, errW_none, errW_some] <;> rfl), by (with_reducible repeat (first | apply Kd.R_alloc | apply Kd.R_drewN | apply Kd.R_drew)); exact HO_5.out, by repeat (first | (with_reducible first | exact HB.out | apply below_alloc | apply pw_below_drewN | apply below_drew1) | exact HB.out)⟩
    · rw [if_neg c4] at H
      exact absurd H (by simp)
  · rw [if_neg c3] at H
    exact absurd H (by simp)

end Go.Proofs.Ytpkgckccfanchaa.M

/- ## M13 -/
-- Written by wip/tools/pp.py (a driver round the kit's printer, with patches of this session): not a printed file.
namespace Go.Proofs.Ytpkgckccfanchaa.M
open Go.RowKit Go.Proofs.YtpkgckccfanchaaW.PrintWords Go.Proofs.YtpkgckccfanchaaW.PrintLast Go.Proofs.YtpkgckccfanchaaW.PrintMore
attribute [local go_sem] max2_int min2_int max_two min_two max_three min_three max_four min_four   -- for this text's walks alone
set_option linter.unusedVariables false
set_option linter.unusedSimpArgs false

/-! ### stabchain_back: function 108 -/
def stabchain_back.l0 : Nat → List Int → List Int → Int → Int → Option (List Int)
  | 0, _, _, _, _ => none
  | k + 1, x3, x9, x10, x11 => if x11 < x10 then (if 0 ≤ x11 then (if x11 < (x9.length : Int) then (if 0 ≤ (rd x9 x11) then (if (rd x9 x11) < (x3.length : Int) then (stabchain_back.l0 k (x3.set ((rd x9 x11) : Int).toNat x11) x9 x10 (wrap64 (x11 + 1))) else (none)) else (none)) else (none)) else (none)) else (some x3)
def stabchain_back.f (k : Nat) (l0 : List Int) : Option (List Int) := if 0 ≤ (l0.length : Int) then (if ((l0.length : Int) : Int).toNat ≤ 35184372088832 then (stabchain_back.l0 k (List.replicate ((l0.length : Int) : Int).toNat 0) l0 (l0.length : Int) 0) else (none)) else (none)
theorem stabchain_back.mono_l : ∀ k, (∀ y0 y1 y2 y3, LeO (stabchain_back.l0 k y0 y1 y2 y3) (stabchain_back.l0 (k + 1) y0 y1 y2 y3))
  | 0 => fun _ _ _ _ r h => by simp [stabchain_back.l0] at h
  | k + 1 => by
    have ih0 := stabchain_back.mono_l k
    · intro y0 y1 y2 y3
      unfold stabchain_back.l0
      repeat' first
      | (with_reducible exact ih0 _ _ _ _)
      | (with_reducible exact LeO.refl _)
      | (with_reducible exact LeO.none _)
      | (with_reducible refine LeO.ite ?_ ?_)
      | (with_reducible refine LeO.bind ?_ (fun _ => ?_))
      | exact ih0 _ _ _ _
      | exact LeO.none _
      | refine LeO.ite ?_ ?_
      | refine LeO.bind ?_ (fun _ => ?_)
theorem stabchain_back.mono : ∀ a0 k, LeO (stabchain_back.f k a0) (stabchain_back.f (k + 1) a0) := by
  intro a0 k
  have ih0 := stabchain_back.mono_l k
  unfold stabchain_back.f
  repeat' first
      | (with_reducible exact ih0 _ _ _ _)
      | (with_reducible exact LeO.refl _)
      | (with_reducible exact LeO.none _)
      | (with_reducible refine LeO.ite ?_ ?_)
      | (with_reducible refine LeO.bind ?_ (fun _ => ?_))
      | exact ih0 _ _ _ _
      | exact LeO.none _
      | refine LeO.ite ?_ ?_
      | refine LeO.bind ?_ (fun _ => ?_)
set_option maxHeartbeats 8000000 in
set_option maxRecDepth 100000 in
theorem stabchain_back.calls (k : Nat) (A0 : Option Addr) (c0 : Nat) (l0 : List Int) (r : List Int) (w : World) (hr0 : Kd.C (Kd.int .i64) w A0 l0.length l0) (hc0 : l0.length ≤ c0) (h : stabchain_back.f k l0 = some r) :
    Calls Try.prog 108 #[.slice A0 l0.length c0] w fun e w' => ∃ v0_ : Value, e = .returned (v0_) ∧ Kd.R (Kd.int .i64) 3 w' w.heap.size (fun _ => True) v0_ r ∧ Below w.heap.size w w' := by
  have HR0 := Aside0.mk hr0
  have HC0 := Aside0.mk hc0
  clear hr0 hc0
  have HB := Aside0.mk (Below.refl w.heap.size w)
  have H : (if 0 ≤ (l0.length : Int) then (if ((l0.length : Int) : Int).toNat ≤ 35184372088832 then (stabchain_back.l0 k (List.replicate ((l0.length : Int) : Int).toNat 0) l0 (l0.length : Int) 0) else (none)) else (none)) = some r := h
  clear h
  by_cases c2 : 0 ≤ (l0.length : Int)
  · rw [if_pos c2] at H
    have c2b0 := eq_true c2
    have c2b1 : decide (0 ≤ (l0.length : Int)) = true := decide_eq_true c2
    clear c2
    by_cases c3 : ((l0.length : Int) : Int).toNat ≤ 35184372088832
    · rw [if_pos c3] at H
      have c3b0 := eq_true c3
      have c3b1 : decide (((l0.length : Int) : Int).toNat ≤ 35184372088832) = true := decide_eq_true c3
      clear c3
      obtain ⟨y122, hy122⟩ : ∃ y_ : List Int, y_ = (List.replicate ((l0.length : Int) : Int).toNat 0) := ⟨_, rfl⟩
      replace H : (stabchain_back.l0 k y122 l0 (l0.length : Int) 0) = some r := by first | (rw [hy122]; with_reducible exact H) | (have H2_ := (Option.bind_some _ _).symm.trans H; rw [hy122]; with_reducible exact H2_) | (have H2_ := (Option.bind_some _ _).symm.trans H; with_reducible exact H2_) | with_reducible exact H | (rw [hy122]; exact H) | exact H
      have Ny122 := Aside0.mk hy122
      clear hy122
      have H' := Aside0.mk H
      clear H
      go_enter Try.func108, Try.ntmps108
      go_wp2_with (first | ((with_reducible refine gate_dst (N := 8) rfl ?_); refine Kd.R_make (Kd.int .i64) _ 3 rfl (N := 8) rfl 28 _ _ rfl (l0.length : Int) rfl rfl Try.underlying28 (.int .i64 0) 8 info3 rfl (by decide) (by omega) 0 (ok := fun _ => True) (okp := fun _ => True) rfl (fun _ hk => hk) trivial (of_decide_eq_true (by first | (with_reducible assumption) | assumption)) (Nat.le_trans (Nat.mul_le_mul_right _ (of_decide_eq_true (by first | (with_reducible assumption) | assumption) : (l0.length : Int).toNat ≤ 35184372088832)) (by omega)) (Below.refl _ _) (Nat.le_refl _) ?_; intro v123 w4 ho5 hb hg_ hnew_; clear hg_ hnew_; (first | rw [← Ny122.out] at ho5 | (simp only [Int.reduceToNat] at ho5; rw [← Ny122.out] at ho5)); have n0_ := Aside0.mk (Kd.R_lower ho5 (below_size (by repeat (first | (with_reducible first | exact HB.out | apply below_alloc | apply pw_below_drewN | apply below_drew1) | exact HB.out)))); have n1_ := Aside0.mk (below_step (by repeat (first | (with_reducible first | exact HB.out | apply below_alloc | apply pw_below_drewN | apply below_drew1) | exact HB.out)) hb); clear HB; have HO124 := n0_; have HB := n1_; clear n0_ n1_; clear hb ho5))
      go_loopg [11] k (fun kq v11 w' => ∃ (x3_1 : List Int) (x11_1 : Int), v11 = .int .i64 x11_1 ∧ Aside0 (stabchain_back.l0 kq x3_1 l0 (l0.length : Int) x11_1 = some r) ∧ Aside0 (kq ≤ k) ∧ Aside0 (Kd.R (Kd.int .i64) 3 w' w.heap.size (fun _ => True) v123 x3_1) ∧ Aside0 (Below w.heap.size w w'))
      case atStart => exact ⟨(y122), (0), (by first | rfl | (simp; done) | (simp [*]; done)), H', ⟨Nat.le_refl _⟩, ⟨by (with_reducible repeat (first | apply Kd.R_alloc | apply Kd.R_drewN | apply Kd.R_drew)); exact HO124.out⟩, ⟨by repeat (first | (with_reducible first | exact HB.out | apply below_alloc | apply pw_below_drewN | apply below_drew1) | exact HB.out)⟩⟩
      case round =>
        clear H'
        try clear c1
        try clear c2
        try clear c2b0
        try clear c2b1
        try clear p2
        try clear c3
        try clear c3b0
        try clear c3b1
        obtain ⟨x3_1, x11_1, rfl, HA, HK1, HO_3, HB⟩ := hrel
        cases gk with
        | zero => exact absurd HA.out (by simp [stabchain_back.l0])
        | succ k1 =>
          have H := HA.out
          clear HA
          simp only [stabchain_back.l0] at H
          by_cases c6 : x11_1 < (l0.length : Int)
          · rw [if_pos c6] at H
            have c6b0 : decide (x11_1 < (l0.length : Int)) = true := decide_eq_true c6
            clear c6
            by_cases c7 : 0 ≤ x11_1
            · rw [if_pos c7] at H
              have c7b0 : decide (0 ≤ x11_1) = true := decide_eq_true c7
              clear c7
              by_cases c8 : x11_1 < (l0.length : Int)
              · rw [if_pos c8] at H
                have c8b0 : decide (x11_1 < (l0.length : Int)) = true := decide_eq_true c8
                clear c8
                by_cases c9 : 0 ≤ (rd l0 x11_1)
                · rw [if_pos c9] at H
                  have c9b0 : decide (0 ≤ (rd l0 x11_1)) = true := decide_eq_true c9
                  clear c9
                  by_cases c10 : (rd l0 x11_1) < (x3_1.length : Int)
                  · rw [if_pos c10] at H
                    have c10b0 : decide ((rd l0 x11_1) < (x3_1.length : Int)) = true := decide_eq_true c10
                    clear c10
                    obtain ⟨y126, hy126⟩ : ∃ y_ : List Int, y_ = (x3_1.set ((rd l0 x11_1) : Int).toNat x11_1) := ⟨_, rfl⟩
                    replace H : (stabchain_back.l0 k1 y126 l0 (l0.length : Int) (wrap64 (x11_1 + 1))) = some r := by first | (rw [hy126]; with_reducible exact H) | (have H2_ := (Option.bind_some _ _).symm.trans H; rw [hy126]; with_reducible exact H2_) | (have H2_ := (Option.bind_some _ _).symm.trans H; with_reducible exact H2_) | with_reducible exact H | (rw [hy126]; exact H) | exact H
                    have Ny126 := Aside0.mk hy126
                    clear hy126
                    have H' := Aside0.mk H
                    clear H
                    have p125 : 0 ≤ (x11_1 : Int) := of_decide_eq_true (by first | (with_reducible assumption) | assumption)
                    have q125 : x11_1 < (l0.length : Int) := of_decide_eq_true (by first | (with_reducible assumption) | assumption)
                    obtain ⟨ad125, e125, hx125_0⟩ := Kd.at_int HR0.out x11_1 p125 q125
                    cases e125
                    replace hx125_0 := (HB.out.cell (World.block_lt_of_cell? w _ hx125_0)).trans hx125_0
                    replace p125 := eq_true p125
                    replace q125 := eq_true q125
                    have p11 : 0 ≤ ((rd l0 x11_1) : Int) := of_decide_eq_true (by first | (with_reducible assumption) | assumption)
                    have q11 : ((rd l0 x11_1) : Int) < ((x3_1.length : Int) : Int) := of_decide_eq_true (by first | (with_reducible assumption) | assumption)
                    obtain ⟨go11, co11, eo11, gb11, gl11, cl11, HG11⟩ := Kd.R_form HO_3.out (by omega)
                    (first | cases eo11 | (injection eo11 with ea_ en_ ec_; (first | subst ea_ | (injection ea_ with ea_; subst ea_)); subst ec_; clear en_))
                    have GB11 := Aside0.mk gb11
                    have GG11 := Aside0.mk HG11
                    clear gb11 gl11 HG11
                    obtain ⟨hx11_0, hf11_0⟩ := Kd.R_celln 0 HO_3.out ((rd l0 x11_1) : Int) p11 q11
                    replace p11 := eq_true p11
                    replace q11 := eq_true q11
                    have HP12 := Kd.R_putg HO_3.out ((rd l0 x11_1) : Int) x11_1
                    go_wp2_with (first | ((with_reducible refine gate_store (t := 3) (p := 19) rfl ?_); refine store_event (t := 3) (p := 19) (v := ?vo_w13) (w1 := (wr.setCell ⟨go11, ((rd l0 x11_1) : Int).toNat, none⟩ (.int .i64 x11_1))) ?hg ?ho ?hn ?hr ?_; (case ho => rfl); (case hg => rfl); (case hn => rfl); (case hr => first | (go_simp; done) | (go_simp; rfl)); intro w13 hw; have hg : wr.grownBy w13 (some go11) := (by rw [hw]; exact HP12.2); have hp_ : Kd.R (Kd.int .i64) 3 w13 w.heap.size (fun _ => True) (.slice (some ⟨go11, 0, none⟩) x3_1.length co11) y126 := (by rw [hw, Ny126.out]; exact HP12.1); clear HP12; have n0_ := Aside0.mk (hp_); have n1_ := Aside0.mk ((by rw [hw]; exact below_set (HB.out) GB11.out : Below w.heap.size w w13)); clear HO_3; clear HB; have HO_3 := n0_; have HB := n1_; clear n0_ n1_; clear hg hw hp_))
                    go_roundg k1
                    case measure => have := HK1.out; omega
                    case rel => exact ⟨(y126), (wrap64 (x11_1 + 1)), (by first | rfl | (simp; done) | (simp [*]; done)), H', ⟨by have := HK1.out; omega⟩, ⟨by (with_reducible repeat (first | apply Kd.R_alloc | apply Kd.R_drewN | apply Kd.R_drew)); exact HO_3.out⟩, ⟨by repeat (first | (with_reducible first | exact HB.out | apply below_alloc | apply pw_below_drewN | apply below_drew1) | exact HB.out)⟩⟩
                  · rw [if_neg c10] at H
                    exact absurd H (by simp)
                · rw [if_neg c9] at H
                  exact absurd H (by simp)
              · rw [if_neg c8] at H
                exact absurd H (by simp)
            · rw [if_neg c7] at H
              exact absurd H (by simp)
          · rw [if_neg c6] at H
            have c6b0 : decide (x11_1 < (l0.length : Int)) = false := decide_eq_false c6
            clear c6
            obtain rfl := Option.some.inj H
            go_wp2
            go_ret
            exact ⟨_, by first | rfl | (simp [errW_none, errW_some] <;> rfl) | (simp [*, errW_none, errW_some] <;> rfl), by (with_reducible repeat (first | apply Kd.R_alloc | apply Kd.R_drewN | apply Kd.R_drew)); exact HO_3.out, by repeat (first | (with_reducible first | exact HB.out | apply below_alloc | apply pw_below_drewN | apply below_drew1) | exact HB.out)⟩
    · rw [if_neg c3] at H
      exact absurd H (by simp)
  · rw [if_neg c2] at H
    exact absurd H (by simp)

end Go.Proofs.Ytpkgckccfanchaa.M

/- ## M10 -/
-- Written by wip/tools/pp.py (a driver round the kit's printer, with patches of this session): not a printed file.
namespace Go.Proofs.Ytpkgckccfanchaa.M
open Go.RowKit Go.Proofs.YtpkgckccfanchaaW.PrintWords Go.Proofs.YtpkgckccfanchaaW.PrintLast Go.Proofs.YtpkgckccfanchaaW.PrintMore
attribute [local go_sem] max2_int min2_int max_two min_two max_three min_three max_four min_four   -- for this text's walks alone
set_option linter.unusedVariables false
set_option linter.unusedSimpArgs false

/-! ### stabchain_moved: function 92 -/
def stabchain_moved.l0 : Nat → List Int → Int → Int → Option (Int)
  | 0, _, _, _ => none
  | k + 1, x5, x6, x7 => if x7 < x6 then (if 0 ≤ x7 then (if x7 < (x5.length : Int) then (if (rd x5 x7) = x7 then (stabchain_moved.l0 k x5 x6 (wrap64 (x7 + 1))) else (some x7)) else (none)) else (none)) else (some (-1))
def stabchain_moved.f (k : Nat) (l0 : List Int) : Option (Int) := stabchain_moved.l0 k l0 (l0.length : Int) 0
theorem stabchain_moved.mono_l : ∀ k, (∀ y0 y1 y2, LeO (stabchain_moved.l0 k y0 y1 y2) (stabchain_moved.l0 (k + 1) y0 y1 y2))
  | 0 => fun _ _ _ r h => by simp [stabchain_moved.l0] at h
  | k + 1 => by
    have ih0 := stabchain_moved.mono_l k
    · intro y0 y1 y2
      unfold stabchain_moved.l0
      repeat' first
      | (with_reducible exact ih0 _ _ _)
      | (with_reducible exact LeO.refl _)
      | (with_reducible exact LeO.none _)
      | (with_reducible refine LeO.ite ?_ ?_)
      | (with_reducible refine LeO.bind ?_ (fun _ => ?_))
      | exact ih0 _ _ _
      | exact LeO.none _
      | refine LeO.ite ?_ ?_
      | refine LeO.bind ?_ (fun _ => ?_)
theorem stabchain_moved.mono : ∀ a0 k, LeO (stabchain_moved.f k a0) (stabchain_moved.f (k + 1) a0) := by
  intro a0 k
  have ih0 := stabchain_moved.mono_l k
  unfold stabchain_moved.f
  repeat' first
      | (with_reducible exact ih0 _ _ _)
      | (with_reducible exact LeO.refl _)
      | (with_reducible exact LeO.none _)
      | (with_reducible refine LeO.ite ?_ ?_)
      | (with_reducible refine LeO.bind ?_ (fun _ => ?_))
      | exact ih0 _ _ _
      | exact LeO.none _
      | refine LeO.ite ?_ ?_
      | refine LeO.bind ?_ (fun _ => ?_)
set_option maxHeartbeats 8000000 in
set_option maxRecDepth 100000 in
theorem stabchain_moved.calls (k : Nat) (A0 : Option Addr) (c0 : Nat) (l0 : List Int) (r : Int) (w : World) (hr0 : Kd.C (Kd.int .i64) w A0 l0.length l0) (hc0 : l0.length ≤ c0) (h : stabchain_moved.f k l0 = some r) :
    Calls Try.prog 92 #[.slice A0 l0.length c0] w fun e w' => e = .returned (.int .i64 r) ∧ Drawn0 w w' := by
  have HR0 := Aside0.mk hr0
  have HC0 := Aside0.mk hc0
  clear hr0 hc0
  have H : (stabchain_moved.l0 k l0 (l0.length : Int) 0) = some r := h
  clear h
  have H' := Aside0.mk H
  clear H
  go_enter Try.func92, Try.ntmps92
  go_wp2
  go_loopg [7] k (fun kq v7 w' => ∃ (x7_1 : Int), v7 = .int .i64 x7_1 ∧ Aside0 (stabchain_moved.l0 kq l0 (l0.length : Int) x7_1 = some r) ∧ Aside0 (kq ≤ k) ∧ Drawn0 w w')
  case atStart => exact ⟨(0), (by first | rfl | (simp; done) | (simp [*]; done)), H', ⟨Nat.le_refl _⟩, by repeat (first | exact Drawn0.refl _ | apply Drawn0.step)⟩
  case round =>
    clear H'
    obtain ⟨x7_1, rfl, HA, HK1, ⟨m1, rfl⟩⟩ := hrel
    cases gk with
    | zero => exact absurd HA.out (by simp [stabchain_moved.l0])
    | succ k1 =>
      have H := HA.out
      clear HA
      simp only [stabchain_moved.l0] at H
      by_cases c2 : x7_1 < (l0.length : Int)
      · rw [if_pos c2] at H
        have c2b0 : decide (x7_1 < (l0.length : Int)) = true := decide_eq_true c2
        clear c2
        by_cases c3 : 0 ≤ x7_1
        · rw [if_pos c3] at H
          have c3b0 : decide (0 ≤ x7_1) = true := decide_eq_true c3
          clear c3
          by_cases c4 : x7_1 < (l0.length : Int)
          · rw [if_pos c4] at H
            have c4b0 : decide (x7_1 < (l0.length : Int)) = true := decide_eq_true c4
            clear c4
            by_cases c5 : (rd l0 x7_1) = x7_1
            · rw [if_pos c5] at H
              have c5b0 : ((rd l0 x7_1) == x7_1) = true := beq_iff_eq.mpr c5
              have c5b1 : ((rd l0 x7_1) != x7_1) = false := bne_eq_false_iff_eq.mpr c5
              clear c5
              have H' := Aside0.mk H
              clear H
              have p121 : 0 ≤ (x7_1 : Int) := of_decide_eq_true (by first | (with_reducible assumption) | assumption)
              have q121 : x7_1 < (l0.length : Int) := of_decide_eq_true (by first | (with_reducible assumption) | assumption)
              obtain ⟨ad121, e121, hx121_0⟩ := Kd.at_int HR0.out x7_1 p121 q121
              cases e121
              replace p121 := eq_true p121
              replace q121 := eq_true q121
              go_wp2
              go_roundg k1
              case measure => have := HK1.out; omega
              case rel => exact ⟨(wrap64 (x7_1 + 1)), (by first | rfl | (simp; done) | (simp [*]; done)), H', ⟨by have := HK1.out; omega⟩, by repeat (first | exact Drawn0.refl _ | apply Drawn0.step)⟩
            · rw [if_neg c5] at H
              have c5b0 : ((rd l0 x7_1) == x7_1) = false := beq_eq_false_iff_ne.mpr c5
              have c5b1 : ((rd l0 x7_1) != x7_1) = true := bne_iff_ne.mpr c5
              obtain rfl := Option.some.inj H
              have p121 : 0 ≤ (x7_1 : Int) := of_decide_eq_true (by first | (with_reducible assumption) | assumption)
              have q121 : x7_1 < (l0.length : Int) := of_decide_eq_true (by first | (with_reducible assumption) | assumption)
              obtain ⟨ad121, e121, hx121_0⟩ := Kd.at_int HR0.out x7_1 p121 q121
              cases e121
              replace p121 := eq_true p121
              replace q121 := eq_true q121
              go_wp2
              go_ret
              exact ⟨by first | rfl | (simp; done) | (simp [*]; done), by repeat (first | exact Drawn0.refl _ | apply Drawn0.step)⟩
          · rw [if_neg c4] at H
            exact absurd H (by simp)
        · rw [if_neg c3] at H
          exact absurd H (by simp)
      · rw [if_neg c2] at H
        have c2b0 : decide (x7_1 < (l0.length : Int)) = false := decide_eq_false c2
        clear c2
        obtain rfl := Option.some.inj H
        go_wp2
        go_ret
        exact ⟨by first | rfl | (simp; done) | (simp [*]; done), by repeat (first | exact Drawn0.refl _ | apply Drawn0.step)⟩

end Go.Proofs.Ytpkgckccfanchaa.M

/- ## M6 -/
-- Written by wip/tools/pp.py (a driver round the kit's printer, with patches of this session): not a printed file.
namespace Go.Proofs.Ytpkgckccfanchaa.M
open Go.RowKit Go.Proofs.YtpkgckccfanchaaW.PrintWords Go.Proofs.YtpkgckccfanchaaW.PrintLast Go.Proofs.YtpkgckccfanchaaW.PrintMore
attribute [local go_sem] max2_int min2_int max_two min_two max_three min_three max_four min_four   -- for this text's walks alone
set_option linter.unusedVariables false
set_option linter.unusedSimpArgs false

/-! ### permutation_Identity: function 77 (by hand) -/
def permutation_Identity.f (a0 : Int) : Option (List Int × Bool) := if a0 < 1 ∨ a0 > 512 then some ([], false) else some (rangeI a0.toNat, true)
theorem permutation_Identity.calls (a0 : Int) (r1 : List Int) (r2 : Bool) (w : World) (h : permutation_Identity.f a0 = some (r1, r2)) :
    Calls Try.prog 77 #[.int .i64 a0] w fun e w' => ∃ v0_ : Value, e = .returned (.tuple #[v0_, .bool r2]) ∧ Kd.R (Kd.int .i64) 3 w' w.heap.size (fun _ => True) v0_ r1 ∧ Below w.heap.size w w' := by
  unfold permutation_Identity.f at h
  split at h
  case isTrue hx =>
    have hr := Option.some.inj h
    simp only [Prod.mk.injEq] at hr
    obtain ⟨rfl, rfl⟩ := hr
    clear h
    by_cases h1 : a0 < 1
    · go_enter Try.func77, Try.ntmps77
      go_wp2
      go_ret2
      exact ⟨_, rfl, Kd.R_nil _ _ _ _ _, Below.refl _ _⟩
    · have h2 : 512 < a0 := by omega
      clear hx
      go_enter Try.func77, Try.ntmps77
      go_wp2
      go_ret2
      exact ⟨_, rfl, Kd.R_nil _ _ _ _ _, Below.refl _ _⟩
  case isFalse hx =>
    have hr := Option.some.inj h
    simp only [Prod.mk.injEq] at hr
    obtain ⟨hr1, rfl⟩ := hr
    clear h
    obtain ⟨n, rfl⟩ := Int.eq_ofNat_of_zero_le (show 0 ≤ a0 by omega)
    have hn1 : 1 ≤ (n : Int) := by omega
    have hn2 : (n : Int) ≤ 512 := by omega
    have hn3 : 1 ≤ n := by omega
    have hn4 : n ≤ 512 := by omega
    rw [Int.toNat_natCast] at hr1
    have H := Aside0.mk hr1
    clear hr1 hx
    go_enter Try.func77, Try.ntmps77
    go_wp2_with ((with_reducible refine gate_dst (N := 13) rfl ?_); go_must (refine Kd.R_make (Kd.int .i64) w.heap.size 3 rfl (N := 13) rfl 28 _ _ rfl (n : Int) rfl rfl Try.underlying28 (.int .i64 0) 8 info3 rfl (by decide) (by omega) 0 (ok := fun _ => True) (okp := fun _ => True) rfl (fun _ hk => hk) trivial (by omega) (by omega) (Below.refl _ _) (Nat.le_refl _) ?_); intro v w1 ho hb hg hnew; obtain ⟨g, c1, e1, hgb, hgl, _⟩ := Kd.R_form ho (by simp; omega); subst e1; rw [show (List.replicate ((n : Int)).toNat (0 : Int)).length = n from by simp])
    have HO := Aside0.mk (show Kd.R (Kd.int .i64) 3 w1 w.heap.size (fun _ => True) (.slice (some ⟨g, 0, none⟩) (fillI 0 (List.replicate n 0)).length c1) (fillI 0 (List.replicate n 0)) from by simpa [fillI, rangeI] using ho)
    have HB := Aside0.mk hb
    clear ho hb hg hnew
    go_loopw [5, 16] (fun _ v wr => ∃ k : Nat, k ≤ n ∧ v = .int .i64 k ∧ Aside0 (Kd.R (Kd.int .i64) 3 wr w.heap.size (fun _ => True) (.slice (some ⟨g, 0, none⟩) (fillI k (List.replicate n 0)).length c1) (fillI k (List.replicate n 0))) ∧ Aside0 (Below w.heap.size w wr)) (fun _ v _ => n - (intOf v).toNat)
    case atStart => exact ⟨0, by omega, rfl, HO, HB⟩
    case round =>
      obtain ⟨k, hk, rfl, HO, HB⟩ := hrel
      have hlen : (fillI k (List.replicate n 0)).length = n := by rw [fillI_length _ _ (by simpa using hk)]; simp
      by_cases hlt : k < n
      · have hlt2 : (k : Int) < n := by omega
        obtain ⟨hc, hf⟩ := Kd.R_cell (enc := Value.int .i64) (h1 := fun _ => rfl) 0 HO.out (k : Int) (by omega) (by omega)
        have hput := Kd.R_put (enc := Value.int .i64) (h1 := fun _ => rfl) HO.out (k : Int) (k : Int)
        rw [Int.toNat_natCast] at hc hf hput
        rw [fillI_set _ _ (by simpa using hlt)] at hput
        have HP := Aside0.mk hput
        clear hput
        go_wp2
        go_roundw
        case rel => exact ⟨k + 1, by omega, by go_num, ⟨by have h1 := HP.out.1; rw [hlen] at h1; rw [fillI_length _ _ (by rw [List.length_replicate]; omega), List.length_replicate]; exact h1⟩, ⟨below_set HB.out hgb⟩⟩
        case measure => simp [intOf]; omega
      · obtain rfl : k = n := by omega
        have hfin : fillI k (List.replicate k 0) = rangeI k := by simp [fillI]
        have HF := Aside0.mk (show Kd.R (Kd.int .i64) 3 wr w.heap.size (fun _ => True) (.slice (some ⟨g, 0, none⟩) k c1) r1 from by have h1 := HO.out; rw [hlen] at h1; rw [hfin, H.out] at h1; exact h1)
        clear HO hfin hlen H
        go_wp2
        go_ret2
        exact ⟨_, rfl, HF.out, HB.out⟩


end Go.Proofs.Ytpkgckccfanchaa.M
