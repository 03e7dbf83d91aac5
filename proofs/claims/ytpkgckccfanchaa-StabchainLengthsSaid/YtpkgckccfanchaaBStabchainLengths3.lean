/- Part of the proof of StabchainLengths: texts of this claim, merged and pruned by wip/tools/merge2.py. -/
import Derived.Test.YtpkgckccfanchaaBStabchainLengths2
import Derived.Test.YtpkgckccfanchaaProg
import Derived.Below
import Derived.Deep.Draws
import Derived.Deep.AppendLies
import Derived.Maps.AppendAt
import Derived.OwnWalk
import Derived.Laws.BytesArg
import Derived.Laws.MakeOwn
import Derived.Laws.OwnMore
import Derived.Deep.OwnRows
import Derived.Tactics
import Derived.Lib.ConvBytes
import Derived.Laws.Slices
import Derived.WalkKit
import Derived.KernelRfl
import Derived.RowKit3
import Derived.Deep.LoopGhost
import Derived.Deep.QuietTactic
import Derived.BigQuiet
import Derived.WideLaws
import Derived.Deep.DeepCutAuto
import Derived.Deep.CutBlock
import Derived.Deep.RegionHeld3
import Derived.Laws.Rows
import Derived.Lib.AppendStr
import Derived.ArgAppend
import Derived.Laws.IdiomCopy
import Derived.OrdersHeld
import Derived.Laws.BitsLemmas
import Derived.RowKit
import Derived.RegionTactic
import Derived.ChangeAlike
import Derived.LoopTactic
import Derived.Deep.DeepMust
import Derived.Laws.CopyOwn
import Derived.Maps.OwnSet
import Derived.DeepKeys4
import Derived.Test.YtpkgckccfanchaaBStabchainLengths1

namespace Go.Proofs.YtpkgckccfanchaaW.PrintWords
open Go.RowKit
end Go.Proofs.YtpkgckccfanchaaW.PrintWords
namespace Go.Proofs.YtpkgckccfanchaaW.PrintLast
section
variable {ops : Array Oper} {a : Act} {o og : Oper} {g : Nat} {t : Tmp} {u : Bool}
end
end Go.Proofs.YtpkgckccfanchaaW.PrintLast

namespace Go.Proofs.YtpkgckccfanchaaW.PrintWords
open Go.RowKit
section
variable {P : Program} {ops : Array Oper} {rest : List Oper} {o : Oper} {a : Act} {Q : Exit → Act → World → Prop} {W : World}
theorem gate_guard (hw : Region.wanted o (yielded ops a.tmps) = true) (h : wpList P ops Q ({ o with guard := none } :: rest) a W) : wpList P ops Q (o :: rest) a W := by
  have h1 : Region.wanted { o with guard := none } (yielded ops a.tmps) = true := rfl
  unfold wpList at h ⊢
  rw [if_pos h1] at h
  rw [if_pos hw]
  exact h
end
end Go.Proofs.YtpkgckccfanchaaW.PrintWords

namespace Go.Proofs.YtpkgckccfanchaaW.PrintWords
open Go.RowKit
namespace Kd
section
variable {α : Type} {d : Kd α} {e base n cap g : Nat} {ok ok' okp : Nat → Prop} {w w1 W : World} {v v1 : Value} {xs ys : List α}
theorem N_made {rows : List (List Value)} (hR : (raw d.sz).R e w1 base (fun k => k = W.heap.size) v1 rows) (hg : W.grownBy w1 none) (hat : ∃ b, v1.ownBlock = some b ∧ W.heap.size ≤ b) (hl : rows.length = xs.length) (hf : ∀ (j : Nat) (x : α) (c : List Value), xs[j]? = some x → rows[j]? = some c → FK d W okp x c)
    (hok : ∀ k, okp k → ok k) (hfresh : ok W.heap.size) : N d e w1 base ok v1 xs := by
  obtain ⟨b, hb, hle⟩ := hat
  refine ⟨fun k hk => by rw [hR.1 k hk]; exact hfresh, rows, hl, raw_tight hR, fun j x c hx hc => ?_⟩
  refine FK_mono (FK_step (FK_bound (hf j x c hx hc)) (fun k hk hlt => hg.block k hlt (by simp))) (fun k hk => ⟨hok k hk.1, fun he => ?_⟩)
  rw [hb] at he
  injection he with he
  have := hk.2
  omega
end
section
variable {P : Program} {ops : Array Oper} {rest : List Oper} {o : Oper} {a : Act} {Q : Exit → Act → World → Prop} {Kc : Act → World → Prop} {α : Type}
theorem N_lit (d : Kd α) {w0 W : World} (base e : Nat) (hgd : o.guard = none) {N' : Tmp} (_hd : o.dst = some N') {xs : List α} {inner : List Value} {ok okp : Nat → Prop}
    (hrun : (execOp a.eval o).run P W = .ok (.value (.slice (some ⟨W.heap.size, 0, none⟩) xs.length xs.length)) (W.alloc (.cells inner.toArray e)))
    (hrep : Reps (FK d W okp) d.sz xs inner) (hok : ∀ k, okp k → ok k) (hfresh : ok W.heap.size) (HB : Below base w0 W) (hbase : base ≤ W.heap.size) (hm : xs.length ≤ 9223372036854775807)
    (h : ∀ v1 w1, N d e w1 base ok v1 xs → Below base w0 w1 → W.grownBy w1 none → (∃ b, v1.ownBlock = some b ∧ W.heap.size ≤ b) → wpList P ops Q rest (a.put o.dst v1) w1) :
    wpList P ops Q (o :: rest) a W := by
  refine R_lit (raw d.sz) base e hgd _hd (xs := chunks d.sz xs.length inner) (inner := inner) (ok := fun k => k = W.heap.size) (okp := fun _ => False) (by rw [chunks_length]; exact hrun) (reps_raw hrep (fun y c hk => ⟨d.K_len (FK_now hk), d.K_one (FK_now hk)⟩)) (fun _ hk => hk.elim) rfl HB hbase (by rw [chunks_length]; exact hm) ?_
  intro v1 w1 hr hb hg hat
  exact h v1 w1 (N_made hr hg hat (chunks_length _ _ _) (fun j y c hy hc => by rw [chunks_get hc]; exact hrep.2 j y hy) hok hfresh) hb hg hat
end
end Kd
end Go.Proofs.YtpkgckccfanchaaW.PrintWords

namespace Go.Proofs.YtpkgckccfanchaaW.PrintMore
open Go.RowKit Go.Proofs.YtpkgckccfanchaaW.PrintWords
namespace Kd
open Go.Proofs.YtpkgckccfanchaaW.PrintWords.Kd
end Kd
namespace Kd
open Go.Proofs.YtpkgckccfanchaaW.PrintWords.Kd
section
variable {α : Type} {d : Kd α} {e base g N : Nat} {ok : Nat → Prop} {W w1 : World} {u v : Value} {xs : List α}
end
end Kd
theorem max2_int (k k' : IntKind) (x y : Int) : Builtin.max2 (.int k x) (.int k' y) = pure (.int k (if x < y then y else x)) := by simp only [Builtin.max2, gt_iff_lt]
theorem min2_int (k k' : IntKind) (x y : Int) : Builtin.min2 (.int k x) (.int k' y) = pure (.int k (if y < x then y else x)) := by simp only [Builtin.min2]
theorem max_two (ats : Array TypeId) (ty : TypeId) (a b : Value) : Builtin.max_ ats ty #[a, b] = (Builtin.max2 a b >>= fun s => pure s) := by simp only [Builtin.max_, List.foldlM_cons, List.foldlM_nil]
theorem min_two (ats : Array TypeId) (ty : TypeId) (a b : Value) : Builtin.min_ ats ty #[a, b] = (Builtin.min2 a b >>= fun s => pure s) := by simp only [Builtin.min_, List.foldlM_cons, List.foldlM_nil]
theorem max_three (ats : Array TypeId) (ty : TypeId) (a b c : Value) : Builtin.max_ ats ty #[a, b, c] = (Builtin.max2 a b >>= fun s => Builtin.max2 s c >>= fun s => pure s) := by simp only [Builtin.max_, List.foldlM_cons, List.foldlM_nil]
theorem min_three (ats : Array TypeId) (ty : TypeId) (a b c : Value) : Builtin.min_ ats ty #[a, b, c] = (Builtin.min2 a b >>= fun s => Builtin.min2 s c >>= fun s => pure s) := by simp only [Builtin.min_, List.foldlM_cons, List.foldlM_nil]
theorem max_four (ats : Array TypeId) (ty : TypeId) (a b c d : Value) : Builtin.max_ ats ty #[a, b, c, d] = (Builtin.max2 a b >>= fun s => Builtin.max2 s c >>= fun s => Builtin.max2 s d >>= fun s => pure s) := by simp only [Builtin.max_, List.foldlM_cons, List.foldlM_nil]
theorem min_four (ats : Array TypeId) (ty : TypeId) (a b c d : Value) : Builtin.min_ ats ty #[a, b, c, d] = (Builtin.min2 a b >>= fun s => Builtin.min2 s c >>= fun s => Builtin.min2 s d >>= fun s => pure s) := by simp only [Builtin.min_, List.foldlM_cons, List.foldlM_nil]
end Go.Proofs.YtpkgckccfanchaaW.PrintMore
namespace Go.Proofs.YtpkgckccfanchaaW.PrintWords
open Go.RowKit
section
variable {P : Program} {ops : Array Oper} {rest : List Oper} {o : Oper} {a : Act} {Q : Exit → Act → World → Prop} {W : World}
theorem gate_callee {f : FuncId} {as_ : Array Operand} {ts : Array TypeId} (_ho : o.op = .call { callee := .value (.func f), args := as_, argTypes := ts }) (h : wpList P ops Q (o :: rest) a W) : wpList P ops Q (o :: rest) a W := h
theorem gate_builtin {b : Builtin} {xs : Array Operand} {ts : Array TypeId} (_ho : o.op = .call { callee := .builtin b, args := xs, argTypes := ts }) (h : wpList P ops Q (o :: rest) a W) : wpList P ops Q (o :: rest) a W := h
end
theorem drewN_self (w : World) (n : Nat) : w.drewN n = w.drewN n := rfl
namespace Kd
section
variable {α : Type} {d : Kd α} {e base : Nat} {ok : Nat → Prop} {W w1 : World} {v : Value} {xs : List α}
end
section
variable {α : Type} {d : Kd α} {e base g n cap : Nat} {ok oki okp : Nat → Prop} {W : World} {xs : List α} {i : Int} {c : List Value}
end
section
variable {α : Type} {d : Kd α} {e base b b' g N : Nat} {ok ok1 : Nat → Prop} {W W2 w1 : World} {u v : Value} {xs ys : List α} {S : Nat → Prop}
end
end Kd
end Go.Proofs.YtpkgckccfanchaaW.PrintWords
namespace Go.Proofs.YtpkgckccfanchaaW.PrintWords
open Go.RowKit
namespace Kd
def V {α : Type} (d : Kd α) (_e : Nat) (W : World) (_base : Nat) (ok : Nat → Prop) (v : Value) (xs : List α) : Prop := ∃ A c, v = .slice A xs.length c ∧ xs.length ≤ c ∧ F d W ok A xs.length xs
section
variable {α β : Type} {d : Kd α} {e base base' n m c g N' lo hi : Nat} {ok ok' S : Nat → Prop} {w W w1 : World} {A : Option Addr} {ad : Addr} {u v v1 : Value} {xs : List α}
theorem V_map (h : V d e W base ok v xs) (hF : ∀ A, F d W ok A xs.length xs → F d w1 ok' A xs.length xs) : V d e w1 base' ok' v xs := by
  obtain ⟨A, c, hv, hl, hf⟩ := h
  exact ⟨A, c, hv, hl, hF A hf⟩
theorem V_mk (hl : xs.length ≤ c) (hf : F d W ok A xs.length xs) : V d e W base ok (.slice A xs.length c) xs := ⟨A, c, rfl, hl, hf⟩
theorem V_slice (h : V d e W base ok v xs) : ∃ A c, v = .slice A xs.length c := by
  obtain ⟨A, c, hv, _⟩ := h
  exact ⟨A, c, hv⟩
theorem V_at (h : V d e W base ok (.slice A n c) xs) : n = xs.length ∧ n ≤ c ∧ F d W ok A xs.length xs := by
  obtain ⟨A', c', hv, hl, hf⟩ := h
  injection hv with ha hn hc
  subst ha; subst hc
  exact ⟨hn, by rw [hn]; exact hl, hf⟩
theorem V_reads' (h : V d e W base ok (.slice A n c) xs) : n = xs.length ∧ n ≤ c ∧ d.C W A xs.length xs := ⟨(V_at h).1, (V_at h).2.1, F_now (V_at h).2.2⟩
theorem V_nil (d : Kd α) (e : Nat) (W : World) (base : Nat) (ok : Nat → Prop) : V d e W base ok (.slice none 0 0) [] := ⟨none, 0, rfl, Nat.le_refl _, F_nil d W ok⟩
theorem R_V (h : d.R e W base ok v xs) : V d e W base' ok v xs := by
  obtain ⟨A, c, rfl⟩ := R_slice h
  exact ⟨A, c, rfl, (R_reads' h).2.1, R_F h⟩
theorem S_V (h : Kd.S d e W base ok v xs) : V d e W base' ok v xs := R_V (S_R h)
theorem V_mono (h : V d e W base ok v xs) (hok : ∀ k, ok k → ok' k) : V d e W base ok' v xs := V_map h (fun _ hf => F_mono hf hok)
theorem V_bound (h : V d e W base ok v xs) : V d e W base (fun k => ok k ∧ k < W.heap.size) v xs := V_map h (fun _ hf => F_bound hf)
theorem V_lower (h : V d e W base ok v xs) (_ : base' ≤ base) : V d e W base' ok v xs := h
theorem V_step (h : V d e W base ok v xs) (hm : ∀ k, ok k → k < W.heap.size → w1.heap[k]? = W.heap[k]?) : V d e w1 base ok v xs := V_map h (fun _ hf => F_step hf hm)
theorem V_below (h : V d e W base ok v xs) (hb : Below W.heap.size W w1) : V d e w1 base ok v xs := V_map h (fun _ hf => F_below hf hb)
theorem V_alloc (h : V d e W base ok v xs) (o : Obj) : V d e (W.alloc o) base ok v xs := V_map h (fun _ hf => F_alloc hf o)
theorem V_drew (h : V d e W base ok v xs) : V d e W.drew base ok v xs := V_map h (fun _ hf => F_drew hf)
theorem V_drewN (h : V d e W base ok v xs) (m : Nat) : V d e (W.drewN m) base ok v xs := V_map h (fun _ hf => F_drewN hf m)
theorem V_far (h : V d e W base ok v xs) {p : Addr} (hok : ∀ k, ok k → k ≠ p.block) (u : Value) : V d e (W.setCell p u) base ok v xs := V_map h (fun _ hf => F_far hf hok u)
theorem V_elder' (h : V d e W base ok v xs) (hbase : ∀ k, u.ownBlock = some k → W.heap.size ≤ k) (hb : Below W.heap.size W w1) : V d e w1 base (fun k => ok k ∧ some k ≠ u.ownBlock) v xs := V_map h (fun _ hf => F_elder' hf hbase hb)
theorem V_elderB (h : V d e W base ok v xs) (a : Nat) (ha : W.heap.size ≤ a) : V d e W base (fun k => ok k ∧ k ≠ a) v xs := V_map h (fun _ hf => F_elderB hf a ha)
theorem FK_slice_mk {l : List α} (hl : l.length ≤ c) (hf : F d W ok A l.length l) : FK (Kd.slice e d) W ok l [.slice A l.length c] := fun W' hW => ⟨A, c, rfl, hl, hf W' hW⟩
theorem R_newM {M : Nat → Prop} (h : d.R e w1 W.heap.size ok v xs) (hle : w.heap.size ≤ W.heap.size) (hM : ∀ k, w.heap.size ≤ k → M k) : d.R e w1 W.heap.size (fun k => M k ∧ ok k) v xs := R_mono (R_bound h) (fun k hk => ⟨hM k (Nat.le_trans hle hk.2.1), hk.1⟩)
end
end Kd
end Go.Proofs.YtpkgckccfanchaaW.PrintWords

namespace Go.Proofs.Ytpkgckccfanchaa.M
open Go.RowKit Go.Proofs.YtpkgckccfanchaaW.PrintWords Go.Proofs.YtpkgckccfanchaaW.PrintLast Go.Proofs.YtpkgckccfanchaaW.PrintMore
attribute [local go_sem] max2_int min2_int max_two min_two max_three min_three max_four min_four
set_option linter.unusedVariables false
set_option linter.unusedSimpArgs false
def errW : Option Int → Value
  | none => .nilIface
  | some c => .iface 0 (.int .i64 c)
theorem errW_none : errW none = .nilIface := rfl
theorem errW_some (c : Int) : errW (some c) = .iface 0 (.int .i64 c) := rfl
theorem info3 : (Try.prog.info? 3).map (fun i => (i.zero, i.size, i.bytes)) = some (some (.int .i64 0), 1, 8) := by kernel_rfl
theorem info4 : (Try.prog.info? 4).map (fun i => (i.zero, i.size, i.bytes)) = some (some (.bool false), 1, 1) := by kernel_rfl
theorem info28 : (Try.prog.info? 28).map (fun i => (i.zero, i.size, i.bytes)) = some (some (.slice none 0 0), 1, 24) := by kernel_rfl
theorem info98 : (Try.prog.info? 98).map (fun i => (i.zero, i.size, i.bytes)) = some (some (.int .u32 0), 1, 4) := by kernel_rfl
def rd_L1 (xs : List (List Int)) (i : Int) : (List Int) := xs.getD i.toNat ([] : List Int)
theorem at_L1 {w : World} {A : Option Addr} {n : Nat} {xs : List (List Int)} (h : Kd.C (Kd.slice 3 (Kd.int .i64)) w A n xs) (i : Int) (h0 : 0 ≤ i) (h1 : i < n) : ∃ ad A0 c0, A = some ad ∧ w.cell? (ad.add i.toNat) = some (.slice A0 (rd_L1 xs i).length c0) ∧ (rd_L1 xs i).length ≤ c0 ∧ (Kd.int .i64).C w A0 (rd_L1 xs i).length (rd_L1 xs i) := by
  obtain ⟨ad, c, e, _, hK, hc0⟩ := Kd.C_get h ([] : List Int) i h0 h1; have hc : ∀ j u, c[j]? = some u → w.cell? (ad.add (i.toNat * 1 + j)) = some u := hc0; obtain ⟨A0, c0, rfl, l0, g0⟩ := hK; exact ⟨ad, A0, c0, e, by have hq := hc 0 _ rfl; rwa [Nat.mul_one, Nat.add_zero] at hq, l0, g0⟩
structure S96 where
  f0 : Int
  f1 : (List (List Int))
  f2 : (List (List Int))
def trimZ (l : List Int) : List Int := (l.reverse.dropWhile (· == 0)).reverse
theorem trimZ_snoc0 (l : List Int) : trimZ (l ++ [0]) = trimZ l := by simp [trimZ]
theorem trimZ_snoc (l : List Int) (x : Int) (h : x ≠ 0) : trimZ (l ++ [x]) = l ++ [x] := by simp [trimZ, h]
theorem trimZ_nil : trimZ [] = [] := rfl
theorem take_snoc_rd (l : List Int) (k : Nat) (h : k + 1 ≤ l.length) : l.take (k + 1) = l.take k ++ [rd l (k : Int)] := by
  rw [List.take_succ_eq_append_getElem (by omega)]
  simp [rd, List.getD_eq_getElem?_getD, List.getElem?_eq_getElem (show k < l.length by omega)]
def rangeI (n : Nat) : List Int := (List.range n).map (fun x : Nat => (x : Int))
theorem rangeI_length (n : Nat) : (rangeI n).length = n := by simp [rangeI]
theorem rangeI_succ (n : Nat) : rangeI (n + 1) = rangeI n ++ [(n : Int)] := by simp [rangeI, List.range_succ]
def fillI (k : Nat) (l : List Int) : List Int := rangeI k ++ l.drop k
theorem fillI_length (k : Nat) (l : List Int) (h : k ≤ l.length) : (fillI k l).length = l.length := by simp [fillI, rangeI_length]; omega
theorem fillI_set (k : Nat) (l : List Int) (h : k < l.length) : (fillI k l).set k (k : Int) = fillI (k + 1) l := by
  unfold fillI
  rw [List.set_append_right _ _ (by rw [rangeI_length]; exact Nat.le_refl _), rangeI_length, Nat.sub_self, rangeI_succ, List.append_assoc]
  congr 1
  rw [List.drop_eq_getElem_cons h, List.set_cons_zero]
  rfl
theorem int_mag (b : Bool) (x : Value) (W : World) : Sem.run Try.prog (Instr.field 24 (.agg #[.bool b, x]) 1) W = .ok x W := by kernel_rfl
attribute [go_sem] int_mag
theorem cell_heap {w w1 : World} {a : Addr} (e : w1.heap[a.block]? = w.heap[a.block]?) : w1.cell? a = w.cell? a := by simp only [World.cell?, e]
end Go.Proofs.Ytpkgckccfanchaa.M

namespace Go.Proofs.Ytpkgckccfanchaa.M
open Go.RowKit Go.Proofs.YtpkgckccfanchaaW.PrintWords Go.Proofs.YtpkgckccfanchaaW.PrintLast Go.Proofs.YtpkgckccfanchaaW.PrintMore
open Go.Maps (Keyed int_keyed keyOf_int_mk)
open Go.ChangeMaps (setBlock)
section
variable {P : Program} {k e t : TypeId} {W : World} {b : Nat} {es : Array MapEntry} {ck : Nat}
def KeysOk (P : Program) (k : TypeId) (es : Array MapEntry) : Prop := ∀ x ∈ es.toList, ∃ l, keyOf P k x.key = some l
theorem gm_look_none (K : Keyed P k) (ht : P.underlying t = some (.map k e)) {z : Value} (hz : (zeroValue e).run P W = .ok z W) (hb : W.heap[b]? = some (.map es ck)) (hk : KeysOk P k es) {key : Value} {l : Lit} (hkey : keyOf P k key = some l)
    (hno : ∀ x ∈ es.toList, x.key ≠ key) (c : Bool) : (Instr.lookup t (.map (some b)) key c).run P W = .ok (if c then .tuple #[z, .bool false] else z) W := by
  rcases K.find W hkey es.toList hk with ⟨h1, _⟩ | ⟨j, e0, _, h2, h3⟩
  · simp [Instr.lookup, run_underlying ht, MapKept.run_getObj_map hb, K.check W _ hkey, h1, hz, Result.andThen]
  · exact absurd h3 (hno e0 (List.mem_of_getElem? h2))
theorem gm_find (K : Keyed P k) (hk : KeysOk P k es) (hd : es.toList.Pairwise (fun x y => x.key ≠ y.key)) {key : Value} {l : Lit} (hkey : keyOf P k key = some l) {j : Nat} {e0 : MapEntry} (hj : es.toList[j]? = some e0) (he : e0.key = key) :
    (Instr.findKey k key es.toList).run P W = .ok (some (j, e0.val)) W := by
  rcases K.find W hkey es.toList hk with ⟨_, h2⟩ | ⟨i, e1, h1, h2, h3⟩
  · exact absurd he (h2 e0 (List.mem_of_getElem? hj))
  · obtain ⟨hi, e2⟩ := List.getElem?_eq_some_iff.1 h2
    obtain ⟨hj', e3⟩ := List.getElem?_eq_some_iff.1 hj
    have hij : i = j := by
      have hp := List.pairwise_iff_getElem.1 hd
      rcases Nat.lt_trichotomy i j with h | h | h
      · exact absurd (by rw [e2, e3, h3, he]) (hp i j hi hj' h)
      · exact h
      · exact absurd (by rw [e2, e3, h3, he]) (hp j i hj' hi h)
    subst hij
    rw [h2] at hj
    cases hj
    exact h1
theorem gm_look_some (K : Keyed P k) (ht : P.underlying t = some (.map k e)) (hb : W.heap[b]? = some (.map es ck)) (hk : KeysOk P k es) (hd : es.toList.Pairwise (fun x y => x.key ≠ y.key)) {key : Value} {l : Lit} (hkey : keyOf P k key = some l)
    {j : Nat} {e0 : MapEntry} (hj : es.toList[j]? = some e0) (he : e0.key = key) (c : Bool) : (Instr.lookup t (.map (some b)) key c).run P W = .ok (if c then .tuple #[e0.val, .bool true] else e0.val) W := by
  simp [Instr.lookup, run_underlying ht, MapKept.run_getObj_map hb, K.check W _ hkey, gm_find (W := W) K hk hd hkey hj he, Result.andThen]
theorem gm_store_new (K : Keyed P k) (ht : P.underlying t = some (.map k e)) (hb : W.heap[b]? = some (.map es ck)) (hk : KeysOk P k es) {key : Value} {l : Lit} (hkey : keyOf P k key = some l)
    (hno : ∀ x ∈ es.toList, x.key ≠ key) (v : Value) : (Instr.mapUpdate t (.map (some b)) key v).run P W = .ok () (setBlock W b (.map (es.push ⟨key, v, ck⟩) (ck + 1))) := by
  rcases K.find W hkey es.toList hk with ⟨h1, _⟩ | ⟨j, e0, _, h2, h3⟩
  · simp [Instr.mapUpdate, run_underlying ht, MapKept.run_getObj_map hb, K.check W false hkey, h1, MapKept.run_setObj_map _ hb, Result.andThen, setBlock]
  · exact absurd h3 (hno e0 (List.mem_of_getElem? h2))
theorem gm_store_old (K : Keyed P k) (ht : P.underlying t = some (.map k e)) (hb : W.heap[b]? = some (.map es ck)) (hk : KeysOk P k es) (hd : es.toList.Pairwise (fun x y => x.key ≠ y.key)) {key : Value} {l : Lit} (hkey : keyOf P k key = some l)
    {j : Nat} {e0 : MapEntry} (hj : es.toList[j]? = some e0) (he : e0.key = key) (v : Value) : (Instr.mapUpdate t (.map (some b)) key v).run P W = .ok () (setBlock W b (.map (es.modify j fun x => { x with key := key, val := v }) ck)) := by
  have hj2 : es[j]? = some e0 := by simpa using hj
  have hst := K.stays W hkey
  simp [Instr.mapUpdate, run_underlying ht, MapKept.run_getObj_map hb, K.check W false hkey, gm_find (W := W) K hk hd hkey hj he, hj2, he, hst, MapKept.run_setObj_map _ hb, Result.andThen, setBlock]
theorem gm_delete (K : Keyed P k) (ht : P.underlying t = some (.map k e)) (hb : W.heap[b]? = some (.map es ck)) (hk : KeysOk P k es) (hd : es.toList.Pairwise (fun x y => x.key ≠ y.key)) {key : Value} {l : Lit} (hkey : keyOf P k key = some l)
    {j : Nat} {e0 : MapEntry} (hj : es.toList[j]? = some e0) (he : e0.key = key) (ty : TypeId) : (Builtin.delete_ #[t, k] ty #[.map (some b), key]).run P W = .ok (.tuple #[]) (setBlock W b (.map (es.eraseIdxIfInBounds j) ck)) := by
  simp [Builtin.delete_, run_underlying ht, MapKept.run_getObj_map hb, K.check W _ hkey, gm_find (W := W) K hk hd hkey hj he, MapKept.run_setObj_map _ hb, Result.andThen, setBlock]
end
theorem laidOut0 : laidOutB Try.prog = true := by kernel_rfl
theorem law_int : Keyed Try.prog 3 := int_keyed Try.underlying3
theorem law_pair : Keyed Try.prog 139 := Keyed.of_law (deep_law_laid laidOut0 (m := 3) (by omega) (of_decide_eq_true (by kernel_rfl)) (by kernel_rfl) (by rw [Try.underlying139]))
theorem key_int {x : Int} (h0 : -9223372036854775808 ≤ x) (h1 : x ≤ 9223372036854775807) : keyOf Try.prog 3 (.int .i64 x) = some (.int .i64 x) := keyOf_int_mk Try.underlying3 (WalkArith.wf_i64 (by omega))
theorem key_pair {x y : Int} (h0 : -9223372036854775808 ≤ x) (h1 : x ≤ 9223372036854775807) (k0 : -9223372036854775808 ≤ y) (k1 : y ≤ 9223372036854775807) : ∃ l, keyOf Try.prog 139 (.agg #[.int .i64 x, .int .i64 y]) = some l := by
  have w0 : (Lit.int .i64 x).wf = true := WalkArith.wf_i64 (by omega)
  have w1 : (Lit.int .i64 y).wf = true := WalkArith.wf_i64 (by omega)
  have hk : Try.prog.keyType 139 = true := by kernel_rfl
  have hf : (Value.agg #[.int .i64 x, .int .i64 y]).formed Try.prog 139 = true := by kernel_rfl
  refine ⟨.string (keyBytes [.int .i64 x, .int .i64 y]), ?_⟩
  have hm : Try.prog.types.size + 1 = (Try.prog.types.size - 1) + 1 + 1 := by have : 0 < Try.prog.types.size := of_decide_eq_true (by kernel_rfl)
                                                                              omega
  have h1 : ∀ (m : Nat) (a : Int), (Lit.int .i64 a).wf = true → Try.prog.keyLits (m + 1) 3 [.int .i64 a] = some [.int .i64 a] := by
    intro m a wa
    unfold Program.keyLits
    simp [Try.underlying3, wa]
  have hc : Try.prog.cellsOf 3 = 1 := by kernel_rfl
  have hc2 : Try.prog.cellsOf 139 = 2 := by kernel_rfl
  unfold keyOf
  rw [hm, Try.underlying139]
  simp only [hk, hf, Bool.and_self, if_true]
  unfold Program.keyLits
  simp [Try.underlying139, hc2, hc, h1, Value.cells, w0, w1]
end Go.Proofs.Ytpkgckccfanchaa.M

namespace Go.Proofs.Ytpkgckccfanchaa.M
open Go.RowKit Go.Proofs.YtpkgckccfanchaaW.PrintWords Go.Proofs.YtpkgckccfanchaaW.PrintLast Go.Proofs.YtpkgckccfanchaaW.PrintMore
open Go.ChangeMaps (setBlock)
open Sims
set_option linter.unusedVariables false
structure Chg (S : Nat → Prop) (w w' : World) : Prop where
  os : w'.os = w.os
  tape : w'.tape = w.tape
  output : w'.output = w.output
  size : w.heap.size ≤ w'.heap.size
  keep : ∀ i, i < w.heap.size → ¬ S i → w'.heap[i]? = w.heap[i]?
namespace Chg
variable {S S' : Nat → Prop} {w w1 w2 : World}
theorem refl (S : Nat → Prop) (w : World) : Chg S w w := ⟨rfl, rfl, rfl, Nat.le_refl _, fun _ _ _ => rfl⟩
theorem trans (h : Chg S w w1) (k : Chg S' w1 w2) (hs : ∀ b, S' b → S b ∨ w.heap.size ≤ b) : Chg S w w2 :=
  ⟨k.os.trans h.os, k.tape.trans h.tape, k.output.trans h.output, Nat.le_trans h.size k.size, fun i hi hn => (k.keep i (Nat.lt_of_lt_of_le hi h.size) (fun hS => (hs i hS).elim hn (fun h => by omega))).trans (h.keep i hi hn)⟩
theorem mono (h : Chg S w w1) (hs : ∀ b, S b → S' b) : Chg S' w w1 := ⟨h.os, h.tape, h.output, h.size, fun i hi hn => h.keep i hi (fun hS => hn (hs i hS))⟩
theorem of_below (h : Below w.heap.size w w1) : Chg S w w1 := ⟨h.os, h.tape, h.output, h.size, fun i hi _ => h.block i hi⟩
theorem below {B : Nat} (h : Chg S w w1) (hB : B ≤ w.heap.size) (hs : ∀ b, S b → B ≤ b) : Below B w w1 := ⟨h.os, h.tape, h.output, h.size, fun i hi => h.keep i (by omega) (fun hS => by have := hs i hS; omega)⟩
theorem of_grown {row : Option Nat} (h : w.grownBy w1 row) : Chg (fun b => some b = row) w w1 := ⟨h.os, h.tape, h.output, h.size, fun i hi hn => h.block i hi hn⟩
theorem alloc (w : World) (o : Obj) : Chg S w (w.alloc o) := of_below (below_alloc (Below.refl _ _) o)
theorem drew (w : World) : Chg S w w.drew := of_below (below_drew (Below.refl _ _))
theorem drewN (w : World) (m : Nat) : Chg S w (w.drewN m) := of_below (pw_below_drewN (Below.refl _ _) m)
theorem block (w : World) (b : Nat) (o : Obj) : Chg (fun k => k = b) w (setBlock w b o) := ⟨rfl, rfl, rfl, by simp [setBlock], fun i _ hn => by simp only [setBlock]; exact Array.getElem?_setIfInBounds_ne (fun e => hn e.symm)⟩
theorem cell (w : World) (a : Addr) (v : Value) : Chg (fun k => k = a.block) w (w.setCell a v) := ⟨rfl, rfl, rfl, by simp [World.setCell], fun i _ hn => Below.heap_setCell w a v i hn⟩
end Chg
abbrev PV (w : World) (ok : Nat → Prop) (v : Value) (p : List Int) : Prop := Kd.V (Kd.int .i64) 3 w 0 ok v p
def PN (N : Nat) (w : World) (v : Value) (p : List Int) : Prop := ∃ b, N ≤ b ∧ b < w.heap.size ∧ PV w (fun k => k = b) v p
theorem PV.chg {S ok : Nat → Prop} {w w1 : World} {v : Value} {p : List Int} (h : PV w ok v p) (hc : Chg S w w1) (hd : ∀ b, ok b → ¬ S b) : PV w1 ok v p := Kd.V_step h (fun k hk hlt => hc.keep k hlt (hd k hk))
theorem PV.below {ok : Nat → Prop} {w w1 : World} {v : Value} {p : List Int} (h : PV w ok v p) (hc : Below w.heap.size w w1) : PV w1 ok v p := Kd.V_below h hc
theorem PV.mono {ok ok' : Nat → Prop} {w : World} {v : Value} {p : List Int} (h : PV w ok v p) (hs : ∀ b, ok b → ok' b) : PV w ok' v p := Kd.V_mono h hs
theorem PV.read {ok : Nat → Prop} {w : World} {v : Value} {p : List Int} (h : PV w ok v p) : ∃ A c, v = .slice A p.length c ∧ p.length ≤ c ∧ Kd.C (Kd.int .i64) w A p.length p := by
  obtain ⟨A, c, e, hc, hF⟩ := h
  exact ⟨A, c, e, hc, Kd.F_now hF⟩
theorem PN.pv {N : Nat} {w : World} {v : Value} {p : List Int} (h : PN N w v p) {ok : Nat → Prop} (hok : ∀ b, N ≤ b → b < w.heap.size → ok b) : PV w ok v p := by
  obtain ⟨b, h1, h2, h3⟩ := h
  exact h3.mono (fun k hk => by subst hk; exact hok k h1 h2)
theorem PN.below {N : Nat} {w w1 : World} {v : Value} {p : List Int} (h : PN N w v p) (hb : Below w.heap.size w w1) : PN N w1 v p := by
  obtain ⟨b, h1, h2, h3⟩ := h
  exact ⟨b, h1, Nat.lt_of_lt_of_le h2 hb.size, h3.below hb⟩
theorem PN.of_R {N : Nat} {w : World} {ok : Nat → Prop} {v : Value} {p : List Int} (h : Kd.R (Kd.int .i64) 3 w N ok v p) (hp : 0 < p.length) : PN N w v p := by
  obtain ⟨g, cap, e, h1, h2, _⟩ := Kd.R_form h hp
  refine ⟨g, h1, h2, ?_⟩
  have := Kd.R_V (base' := 0) (Kd.R_tight rfl h)
  refine Kd.V_mono this (fun k hk => ?_)
  rw [e] at hk
  simpa [Value.ownBlock, eq_comm] using hk
theorem PN.lower {N N' : Nat} {w : World} {v : Value} {p : List Int} (h : PN N w v p) (hN : N' ≤ N) : PN N' w v p := by
  obtain ⟨b, h1, h2, h3⟩ := h
  exact ⟨b, Nat.le_trans hN h1, h2, h3⟩
theorem PN.any {N : Nat} {w : World} {v : Value} {p : List Int} (h : PN N w v p) : PV w (fun _ => True) v p := h.pv (fun _ _ _ => trivial)
theorem own_same {w w' : World} {B : Nat} {e : TypeId} {s n : Nat} {v : Value} {xs : List Value} (h : w.ownsRow B e s v n xs) (hk : ∀ g, v.ownBlock = some g → w'.heap[g]? = w.heap[g]?) : w'.ownsRow B e s v n xs := by
  refine ⟨h.1, ?_⟩
  rcases h.2 with ⟨h1, h2⟩ | ⟨g, cap, cur, h1, h2, h3, h4⟩
  · exact .inl ⟨h1, h2⟩
  · refine .inr ⟨g, cap, cur, h1, h2, ?_, h4⟩
    rw [hk g (by rw [h1]; rfl)]
    exact h3
theorem own_kind {w : World} {B : Nat} {e : TypeId} {s n : Nat} {v : Value} {xs : List Value} (h : w.ownsRow B e s v n xs) {g : Nat} (hg : v.ownBlock = some g) : B ≤ g ∧ ∃ cs, w.heap[g]? = some (.cells cs e (0, 0)) := by
  rcases h.2 with ⟨h1, h2⟩ | ⟨g', cap, cur, h1, h2, h3, h4⟩
  · rw [h1] at hg; simp [Value.ownBlock] at hg
  · rw [h1] at hg
    have : g' = g := by simpa [Value.ownBlock] using hg
    subst this
    exact ⟨h2, cur, h3⟩
structure LC where
  lb : Nat
  gv : Value
  ov : Value
  rb : Nat
  tb : Nat
def LC.Blk (c : LC) (b : Nat) : Prop := b = c.lb ∨ c.gv.ownBlock = some b ∨ c.ov.ownBlock = some b ∨ b = c.rb ∨ b = c.tb
def RepsAt (w : World) (PB : Nat → Prop) (b : Nat) (reps : List (Int × List Int)) : Prop :=
  ∃ es ck, w.heap[b]? = some (.map es ck) ∧ es.toList.map (·.key) = reps.map (fun q => Value.int .i64 q.1) ∧ ∀ (j : Nat) q, reps[j]? = some q → ∃ x, es.toList[j]? = some x ∧ PV w PB x.val q.2
def TodoAt (w : World) (b : Nat) (todo : List (Int × Int)) : Prop :=
  ∃ es ck, w.heap[b]? = some (.map es ck) ∧ es.toList.map (fun x => (x.key, x.val)) = todo.map (fun q => (Value.agg #[.int .i64 q.1, .int .i64 q.2], Value.bool true))
def GensAt (w : World) (B : Nat) (PB : Nat → Prop) (v : Value) (gens : List (List Int)) : Prop :=
  ∃ gs : List Value, w.ownsRow B 28 1 v gens.length gs ∧ ∀ (j : Nat) p, gens[j]? = some p → ∃ u, gs[j]? = some u ∧ PV w PB u p
structure LvX (w : World) (B : Nat) (PB : Nat → Prop) (c : LC) (pt : Int) (gens : List (List Int)) (orb : List Int) (reps : List (Int × List Int)) (todo : List (Int × Int)) : Prop where
  cells : w.heap[c.lb]? = some (.cells #[.int .i64 pt, c.gv, c.ov, .map (some c.rb), .map (some c.tb)] 111 (0, 0))
  gens : GensAt w B PB c.gv gens
  orb : w.ownsRow B 3 1 c.ov orb.length (nums .i64 orb)
  reps : RepsAt w PB c.rb reps
  todo : TodoAt w c.tb todo
  base : B ≤ c.lb ∧ B ≤ c.rb ∧ B ≤ c.tb
  free : ∀ b, c.Blk b → ¬ PB b
  ne : c.rb ≠ c.tb
abbrev LvAt (w : World) (B : Nat) (PB : Nat → Prop) (c : LC) (l : Lv) : Prop := LvX w B PB c l.point l.gens (dom l) l.reps l.todo
theorem RepsAt.keep {w w' : World} {PB : Nat → Prop} {b : Nat} {reps : List (Int × List Int)} (h : RepsAt w PB b reps) (hb : w'.heap[b]? = w.heap[b]?) (hp : ∀ b, PB b → b < w.heap.size → w'.heap[b]? = w.heap[b]?) : RepsAt w' PB b reps := by
  obtain ⟨es, ck, h1, h2, h3⟩ := h
  refine ⟨es, ck, hb.trans h1, h2, fun j q hq => ?_⟩
  obtain ⟨x, hx, hv⟩ := h3 j q hq
  exact ⟨x, hx, Kd.V_step hv hp⟩
theorem RepsAt.mono {w : World} {PB PB' : Nat → Prop} {b : Nat} {reps : List (Int × List Int)} (h : RepsAt w PB b reps) (hp : ∀ b, PB b → PB' b) : RepsAt w PB' b reps := by
  obtain ⟨es, ck, h1, h2, h3⟩ := h
  exact ⟨es, ck, h1, h2, fun j q hq => by
    obtain ⟨x, hx, hv⟩ := h3 j q hq
    exact ⟨x, hx, hv.mono hp⟩⟩
theorem GensAt.keep {w w' : World} {B : Nat} {PB : Nat → Prop} {v : Value} {gens : List (List Int)} (h : GensAt w B PB v gens) (hb : ∀ g, v.ownBlock = some g → w'.heap[g]? = w.heap[g]?) (hp : ∀ b, PB b → b < w.heap.size → w'.heap[b]? = w.heap[b]?) : GensAt w' B PB v gens := by
  obtain ⟨gs, h1, h2⟩ := h
  refine ⟨gs, own_same h1 hb, fun j p hj => ?_⟩
  obtain ⟨u, hu, hv⟩ := h2 j p hj
  exact ⟨u, hu, Kd.V_step hv hp⟩
theorem GensAt.mono {w : World} {B : Nat} {PB PB' : Nat → Prop} {v : Value} {gens : List (List Int)} (h : GensAt w B PB v gens) (hp : ∀ b, PB b → PB' b) : GensAt w B PB' v gens := by
  obtain ⟨gs, h1, h2⟩ := h
  exact ⟨gs, h1, fun j p hj => by
    obtain ⟨u, hu, hv⟩ := h2 j p hj
    exact ⟨u, hu, hv.mono hp⟩⟩
theorem lt_of_some {w : World} {b : Nat} {o : Obj} (h : w.heap[b]? = some o) : b < w.heap.size := (Array.getElem?_eq_some_iff.1 h).1
namespace LvX
variable {w w' : World} {B : Nat} {PB PB' : Nat → Prop} {c : LC} {pt : Int} {gens : List (List Int)} {orb : List Int} {reps : List (Int × List Int)} {todo : List (Int × Int)}
theorem keep (h : LvX w B PB c pt gens orb reps todo) (hk : ∀ b, c.Blk b ∨ PB b → b < w.heap.size → w'.heap[b]? = w.heap[b]?) (hlt : ∀ b, c.Blk b → b < w.heap.size) : LvX w' B PB c pt gens orb reps todo := by
  have hb : ∀ b, c.Blk b → w'.heap[b]? = w.heap[b]? := fun b hb => hk b (.inl hb) (hlt b hb)
  have hp : ∀ b, PB b → b < w.heap.size → w'.heap[b]? = w.heap[b]? := fun b hb => hk b (.inr hb)
  refine ⟨(hb _ (.inl rfl)).trans h.cells, h.gens.keep (fun g hg => hb g (.inr (.inl hg))) hp, own_same h.orb (fun g hg => hb g (.inr (.inr (.inl hg)))), h.reps.keep (hb _ (.inr (.inr (.inr (.inl rfl))))) hp, ?_, h.base, h.free, h.ne⟩
  obtain ⟨es, ck, h1, h2⟩ := h.todo
  exact ⟨es, ck, (hb _ (.inr (.inr (.inr (.inr rfl))))).trans h1, h2⟩
theorem mono (h : LvX w B PB c pt gens orb reps todo) (hp : ∀ b, PB b → PB' b) (hf : ∀ b, c.Blk b → ¬ PB' b) : LvX w B PB' c pt gens orb reps todo :=
  ⟨h.cells, h.gens.mono hp, h.orb, h.reps.mono hp, h.todo, h.base, hf, h.ne⟩
theorem kind (h : LvX w B PB c pt gens orb reps todo) {b : Nat} (hb : c.Blk b) : B ≤ b ∧ ((∃ cs t, w.heap[b]? = some (.cells cs t (0, 0)) ∧ (t = 111 ∨ t = 28 ∨ t = 3)) ∨ ∃ es ck, w.heap[b]? = some (.map es ck)) := by
  rcases hb with rfl | hb | hb | rfl | rfl
  · exact ⟨h.base.1, .inl ⟨_, _, h.cells, .inl rfl⟩⟩
  · obtain ⟨gs, h1, _⟩ := h.gens
    obtain ⟨h2, cs, h3⟩ := own_kind h1 hb
    exact ⟨h2, .inl ⟨cs, _, h3, .inr (.inl rfl)⟩⟩
  · obtain ⟨h2, cs, h3⟩ := own_kind h.orb hb
    exact ⟨h2, .inl ⟨cs, _, h3, .inr (.inr rfl)⟩⟩
  · obtain ⟨es, ck, h1, _⟩ := h.reps
    exact ⟨h.base.2.1, .inr ⟨es, ck, h1⟩⟩
  · obtain ⟨es, ck, h1, _⟩ := h.todo
    exact ⟨h.base.2.2, .inr ⟨es, ck, h1⟩⟩
theorem lt (h : LvX w B PB c pt gens orb reps todo) {b : Nat} (hb : c.Blk b) : b < w.heap.size := by
  rcases (h.kind hb).2 with ⟨_, _, h1, _⟩ | ⟨_, _, h1⟩ <;> exact lt_of_some h1
theorem chg {S : Nat → Prop} (h : LvX w B PB c pt gens orb reps todo) (hc : Chg S w w') (hd : ∀ b, c.Blk b ∨ PB b → ¬ S b) : LvX w' B PB c pt gens orb reps todo :=
  h.keep (fun b hb hlt => hc.keep b hlt (hd b hb)) (fun _ hb => h.lt hb)
end LvX
abbrev LC.ptr (c : LC) : Value := .pointer (some ⟨c.lb, 0, none⟩)
structure GrAt (w : World) (B : Nat) (PB : Nat → Prop) (g n : Nat) (av : Value) (cs : List LC) (ls : List Lv) : Prop where
  cells : w.heap[g]? = some (.cells #[.int .i64 (n : Int), av] 106 (0, 0))
  arr : w.ownsRow B 107 1 av cs.length (cs.map LC.ptr)
  len : cs.length = ls.length
  lv : ∀ (j : Nat) c l, cs[j]? = some c → ls[j]? = some l → LvAt w B PB c l
  apart : cs.Pairwise (fun c d => ∀ b, c.Blk b → ¬ d.Blk b)
  base : B ≤ g
  free : ¬ PB g ∧ ∀ b, av.ownBlock = some b → ¬ PB b
namespace GrAt
variable {w w' : World} {B g n : Nat} {PB PB' : Nat → Prop} {av : Value} {cs : List LC} {ls : List Lv}
theorem at_ (h : GrAt w B PB g n av cs ls) {j : Nat} {c : LC} (hc : cs[j]? = some c) : ∃ l, ls[j]? = some l ∧ LvAt w B PB c l := by
  have hj : j < ls.length := by rw [← h.len]; exact (List.getElem?_eq_some_iff.1 hc).1
  exact ⟨ls[j], List.getElem?_eq_getElem hj, h.lv j c _ hc (List.getElem?_eq_getElem hj)⟩
theorem mem (h : GrAt w B PB g n av cs ls) {c : LC} (hc : c ∈ cs) : ∃ l, l ∈ ls ∧ LvAt w B PB c l := by
  obtain ⟨j, hj, e⟩ := List.getElem_of_mem hc
  obtain ⟨l, hl, h1⟩ := h.at_ (j := j) (by rw [List.getElem?_eq_getElem hj, e])
  exact ⟨l, List.mem_of_getElem? hl, h1⟩
theorem own_ne (h : GrAt w B PB g n av cs ls) {c : LC} (hc : c ∈ cs) {b : Nat} (hb : c.Blk b) : b ≠ g ∧ av.ownBlock ≠ some b := by
  obtain ⟨l, _, hl⟩ := h.mem hc
  have hk := (hl.kind hb).2
  constructor
  · rintro rfl
    rcases hk with ⟨_, t, h1, h2⟩ | ⟨_, _, h1⟩
    · rw [h.cells] at h1
      simp only [Option.some.injEq, Obj.cells.injEq] at h1
      rw [← h1.2.1] at h2
      simp at h2
    · rw [h.cells] at h1; simp at h1
  · intro e
    obtain ⟨_, cs', h3⟩ := own_kind h.arr e
    rcases hk with ⟨_, t, h1, h2⟩ | ⟨_, _, h1⟩
    · rw [h3] at h1
      simp only [Option.some.injEq, Obj.cells.injEq] at h1
      rw [← h1.2.1] at h2
      simp at h2
    · rw [h3] at h1; simp at h1
theorem av_ne (h : GrAt w B PB g n av cs ls) : av.ownBlock ≠ some g := by
  intro e
  obtain ⟨_, cs', h3⟩ := own_kind h.arr e
  rw [h.cells] at h3
  simp at h3
theorem chg {S : Nat → Prop} (h : GrAt w B PB g n av cs ls) (hc : Chg S w w') (hg : ¬ S g) (ha : ∀ b, av.ownBlock = some b → ¬ S b) (hl : ∀ c ∈ cs, ∀ b, c.Blk b → ¬ S b) (hp : ∀ b, PB b → ¬ S b) : GrAt w' B PB g n av cs ls := by
  refine ⟨(hc.keep g (lt_of_some h.cells) hg).trans h.cells, own_same h.arr (fun b hb => ?_), h.len, fun j c l h1 h2 => (h.lv j c l h1 h2).chg hc (fun b hb => hb.elim (hl c (List.mem_of_getElem? h1) b) (hp b)), h.apart, h.base, h.free⟩
  obtain ⟨_, _, h3⟩ := own_kind h.arr hb
  exact hc.keep b (lt_of_some h3) (ha b hb)
theorem below (h : GrAt w B PB g n av cs ls) (hb : Below w.heap.size w w') : GrAt w' B PB g n av cs ls :=
  h.chg (Chg.of_below (S := fun _ => False) hb) id (fun _ _ => id) (fun _ _ _ _ => id) (fun _ _ => id)
theorem mono (h : GrAt w B PB g n av cs ls) (hp : ∀ b, PB b → PB' b) (hg : ¬ PB' g) (ha : ∀ b, av.ownBlock = some b → ¬ PB' b) (hl : ∀ c ∈ cs, ∀ b, c.Blk b → ¬ PB' b) : GrAt w B PB' g n av cs ls :=
  ⟨h.cells, h.arr, h.len, fun j c l h1 h2 => (h.lv j c l h1 h2).mono hp (hl c (List.mem_of_getElem? h1)), h.apart, h.base, ⟨hg, ha⟩⟩
end GrAt
end Go.Proofs.Ytpkgckccfanchaa.M

namespace Go.Proofs.Ytpkgckccfanchaa.M
open Go.RowKit Go.Proofs.YtpkgckccfanchaaW.PrintWords Go.Proofs.YtpkgckccfanchaaW.PrintLast Go.Proofs.YtpkgckccfanchaaW.PrintMore
attribute [local go_sem] max2_int min2_int max_two min_two max_three min_three max_four min_four
set_option linter.unusedVariables false
set_option linter.unusedSimpArgs false
def stabchain_then.l0 : Nat → List Int → List Int → List Int → Int → Int → Option (List Int)
  | 0, _, _, _, _, _ => none
  | k + 1, x1, x5, x11, x12, x13 => if x13 < x12 then (if 0 ≤ x13 then (if x13 < (x11.length : Int) then (if 0 ≤ (rd x11 x13) then (if (rd x11 x13) < (x1.length : Int) then (if x13 < (x5.length : Int) then (stabchain_then.l0 k x1 (x5.set (x13 : Int).toNat (rd x1 (rd x11 x13))) x11 x12 (wrap64 (x13 + 1))) else (none)) else (none)) else (none)) else (none)) else (none)) else (some x5)
def stabchain_then.f (k : Nat) (l0 : List Int) (l1 : List Int) : Option (List Int) := if 0 ≤ (l0.length : Int) then (if ((l0.length : Int) : Int).toNat ≤ 35184372088832 then (stabchain_then.l0 k l1 (List.replicate ((l0.length : Int) : Int).toNat 0) l0 (l0.length : Int) 0) else (none)) else (none)
theorem stabchain_then.mono_l : ∀ k, (∀ y0 y1 y2 y3 y4, LeO (stabchain_then.l0 k y0 y1 y2 y3 y4) (stabchain_then.l0 (k + 1) y0 y1 y2 y3 y4))
  | 0 => fun _ _ _ _ _ r h => by simp [stabchain_then.l0] at h
  | k + 1 => by
    have ih0 := stabchain_then.mono_l k
    · intro y0 y1 y2 y3 y4
      unfold stabchain_then.l0
      repeat' first
      | (with_reducible exact ih0 _ _ _ _ _)
      | (with_reducible exact LeO.refl _)
      | (with_reducible exact LeO.none _)
      | (with_reducible refine LeO.ite ?_ ?_)
      | (with_reducible refine LeO.bind ?_ (fun _ => ?_))
      | exact ih0 _ _ _ _ _
      | exact LeO.none _
      | refine LeO.ite ?_ ?_
      | refine LeO.bind ?_ (fun _ => ?_)
theorem stabchain_then.mono : ∀ a0 a1 k, LeO (stabchain_then.f k a0 a1) (stabchain_then.f (k + 1) a0 a1) := by
  intro a0 a1 k; have ih0 := stabchain_then.mono_l k
  unfold stabchain_then.f
  repeat' first
      | (with_reducible exact ih0 _ _ _ _ _)
      | (with_reducible exact LeO.refl _)
      | (with_reducible exact LeO.none _)
      | (with_reducible refine LeO.ite ?_ ?_)
      | (with_reducible refine LeO.bind ?_ (fun _ => ?_))
      | exact ih0 _ _ _ _ _
      | exact LeO.none _
      | refine LeO.ite ?_ ?_
      | refine LeO.bind ?_ (fun _ => ?_)
set_option maxHeartbeats 8000000 in
set_option maxRecDepth 100000 in
theorem stabchain_then.calls (k : Nat) (A0 : Option Addr) (c0 : Nat) (l0 : List Int) (A1 : Option Addr) (c1 : Nat) (l1 : List Int) (r : List Int) (w : World) (hr0 : Kd.C (Kd.int .i64) w A0 l0.length l0) (hc0 : l0.length ≤ c0) (hr1 : Kd.C (Kd.int .i64) w A1 l1.length l1) (hc1 : l1.length ≤ c1) (h : stabchain_then.f k l0 l1 = some r) :
    Calls Try.prog 78 #[.slice A0 l0.length c0, .slice A1 l1.length c1] w fun e w' => ∃ v0_ : Value, e = .returned (v0_) ∧ Kd.R (Kd.int .i64) 3 w' w.heap.size (fun _ => True) v0_ r ∧ Below w.heap.size w w' := by
  have HR0 := Aside0.mk hr0; have HC0 := Aside0.mk hc0; clear hr0 hc0; have HR1 := Aside0.mk hr1; have HC1 := Aside0.mk hc1; clear hr1 hc1; have HB := Aside0.mk (Below.refl w.heap.size w); have H : (if 0 ≤ (l0.length : Int) then (if ((l0.length : Int) : Int).toNat ≤ 35184372088832 then (stabchain_then.l0 k l1 (List.replicate ((l0.length : Int) : Int).toNat 0) l0 (l0.length : Int) 0) else (none)) else (none)) = some r := h; clear h
  by_cases c3 : 0 ≤ (l0.length : Int)
  · rw [if_pos c3] at H
    have c3b0 := eq_true c3; have c3b1 : decide (0 ≤ (l0.length : Int)) = true := decide_eq_true c3; clear c3
    by_cases c4 : ((l0.length : Int) : Int).toNat ≤ 35184372088832
    · rw [if_pos c4] at H
      have c4b0 := eq_true c4; have c4b1 : decide (((l0.length : Int) : Int).toNat ≤ 35184372088832) = true := decide_eq_true c4; clear c4
      obtain ⟨y115, hy115⟩ : ∃ y_ : List Int, y_ = (List.replicate ((l0.length : Int) : Int).toNat 0) := ⟨_, rfl⟩
      replace H : (stabchain_then.l0 k l1 y115 l0 (l0.length : Int) 0) = some r := by first | (rw [hy115]; with_reducible exact H) | (have H2_ := (Option.bind_some _ _).symm.trans H; rw [hy115]; with_reducible exact H2_) | (have H2_ := (Option.bind_some _ _).symm.trans H; with_reducible exact H2_) | with_reducible exact H | (rw [hy115]; exact H) | exact H
      have Ny115 := Aside0.mk hy115; clear hy115; have H' := Aside0.mk H; clear H
      go_enter Try.func78, Try.ntmps78
      go_wp2_with (first | ((with_reducible refine gate_dst (N := 10) rfl ?_); refine Kd.R_make (Kd.int .i64) _ 3 rfl (N := 10) rfl 28 _ _ rfl (l0.length : Int) rfl rfl Try.underlying28 (.int .i64 0) 8 info3 rfl (by decide) (by omega) 0 (ok := fun _ => True) (okp := fun _ => True) rfl (fun _ hk => hk) trivial (of_decide_eq_true (by first | (with_reducible assumption) | assumption)) (Nat.le_trans (Nat.mul_le_mul_right _ (of_decide_eq_true (by first | (with_reducible assumption) | assumption) : (l0.length : Int).toNat ≤ 35184372088832)) (by omega)) (Below.refl _ _) (Nat.le_refl _) ?_; intro v116 w5 ho6 hb hg_ hnew_; clear hg_ hnew_; (first | rw [← Ny115.out] at ho6 | (simp only [Int.reduceToNat] at ho6; rw [← Ny115.out] at ho6)); have n0_ := Aside0.mk (Kd.R_lower ho6 (below_size (by repeat (first | (with_reducible first | exact HB.out | apply below_alloc | apply pw_below_drewN | apply below_drew1) | exact HB.out)))); have n1_ := Aside0.mk (below_step (by repeat (first | (with_reducible first | exact HB.out | apply below_alloc | apply pw_below_drewN | apply below_drew1) | exact HB.out)) hb); clear HB; have HO117 := n0_; have HB := n1_; clear n0_ n1_; clear hb ho6))
      go_loopg [13] k (fun kq v13 w' => ∃ (x5_1 : List Int) (x13_1 : Int), v13 = .int .i64 x13_1 ∧ Aside0 (stabchain_then.l0 kq l1 x5_1 l0 (l0.length : Int) x13_1 = some r) ∧ Aside0 (kq ≤ k) ∧ Aside0 (Kd.R (Kd.int .i64) 3 w' w.heap.size (fun _ => True) v116 x5_1) ∧ Aside0 (Below w.heap.size w w'))
      case atStart => exact ⟨(y115), (0), (by first | rfl | (simp; done) | (simp [*]; done)), H', ⟨Nat.le_refl _⟩, ⟨by (with_reducible repeat (first | apply Kd.R_alloc | apply Kd.R_drewN | apply Kd.R_drew)); exact HO117.out⟩, ⟨by repeat (first | (with_reducible first | exact HB.out | apply below_alloc | apply pw_below_drewN | apply below_drew1) | exact HB.out)⟩⟩
      case round =>
        clear H'
        try clear c1
        try clear p2
        try clear c3
        try clear c3b0
        try clear c3b1
        try clear c4
        try clear c4b0
        try clear c4b1
        obtain ⟨x5_1, x13_1, rfl, HA, HK1, HO_5, HB⟩ := hrel; cases gk with
        | zero => exact absurd HA.out (by simp [stabchain_then.l0])
        | succ k1 =>
          have H := HA.out; clear HA
          simp only [stabchain_then.l0] at H
          by_cases c7 : x13_1 < (l0.length : Int)
          · rw [if_pos c7] at H
            have c7b0 : decide (x13_1 < (l0.length : Int)) = true := decide_eq_true c7; clear c7
            by_cases c8 : 0 ≤ x13_1
            · rw [if_pos c8] at H
              have c8b0 : decide (0 ≤ x13_1) = true := decide_eq_true c8; clear c8
              by_cases c9 : x13_1 < (l0.length : Int)
              · rw [if_pos c9] at H
                have c9b0 : decide (x13_1 < (l0.length : Int)) = true := decide_eq_true c9; clear c9
                by_cases c10 : 0 ≤ (rd l0 x13_1)
                · rw [if_pos c10] at H
                  have c10b0 : decide (0 ≤ (rd l0 x13_1)) = true := decide_eq_true c10; clear c10
                  by_cases c11 : (rd l0 x13_1) < (l1.length : Int)
                  · rw [if_pos c11] at H
                    have c11b0 : decide ((rd l0 x13_1) < (l1.length : Int)) = true := decide_eq_true c11; clear c11
                    by_cases c12 : x13_1 < (x5_1.length : Int)
                    · rw [if_pos c12] at H
                      have c12b0 : decide (x13_1 < (x5_1.length : Int)) = true := decide_eq_true c12; clear c12
                      obtain ⟨y120, hy120⟩ : ∃ y_ : List Int, y_ = (x5_1.set (x13_1 : Int).toNat (rd l1 (rd l0 x13_1))) := ⟨_, rfl⟩
                      replace H : (stabchain_then.l0 k1 l1 y120 l0 (l0.length : Int) (wrap64 (x13_1 + 1))) = some r := by first | (rw [hy120]; with_reducible exact H) | (have H2_ := (Option.bind_some _ _).symm.trans H; rw [hy120]; with_reducible exact H2_) | (have H2_ := (Option.bind_some _ _).symm.trans H; with_reducible exact H2_) | with_reducible exact H | (rw [hy120]; exact H) | exact H
                      have Ny120 := Aside0.mk hy120; clear hy120; have H' := Aside0.mk H; clear H; have p118 : 0 ≤ (x13_1 : Int) := of_decide_eq_true (by first | (with_reducible assumption) | assumption); have q118 : x13_1 < (l0.length : Int) := of_decide_eq_true (by first | (with_reducible assumption) | assumption); obtain ⟨ad118, e118, hx118_0⟩ := Kd.at_int HR0.out x13_1 p118 q118; cases e118; replace hx118_0 := (HB.out.cell (World.block_lt_of_cell? w _ hx118_0)).trans hx118_0; replace p118 := eq_true p118; replace q118 := eq_true q118; have p119 : 0 ≤ ((rd l0 x13_1) : Int) := of_decide_eq_true (by first | (with_reducible assumption) | assumption); have q119 : (rd l0 x13_1) < (l1.length : Int) := of_decide_eq_true (by first | (with_reducible assumption) | assumption); obtain ⟨ad119, e119, hx119_0⟩ := Kd.at_int HR1.out (rd l0 x13_1) p119 q119; cases e119; replace hx119_0 := (HB.out.cell (World.block_lt_of_cell? w _ hx119_0)).trans hx119_0; replace p119 := eq_true p119; replace q119 := eq_true q119; have p13 : 0 ≤ (x13_1 : Int) := of_decide_eq_true (by first | (with_reducible assumption) | assumption); have q13 : (x13_1 : Int) < ((x5_1.length : Int) : Int) := of_decide_eq_true (by first | (with_reducible assumption) | assumption); obtain ⟨go13, co13, eo13, gb13, gl13, cl13, HG13⟩ := Kd.R_form HO_5.out (by omega)
                      (first | cases eo13 | (injection eo13 with ea_ en_ ec_; (first | subst ea_ | (injection ea_ with ea_; subst ea_)); subst ec_; clear en_))
                      have GB13 := Aside0.mk gb13; have GG13 := Aside0.mk HG13; clear gb13 gl13 HG13; obtain ⟨hx13_0, hf13_0⟩ := Kd.R_celln 0 HO_5.out (x13_1 : Int) p13 q13; replace p13 := eq_true p13; replace q13 := eq_true q13; have HP14 := Kd.R_putg HO_5.out (x13_1 : Int) (rd l1 (rd l0 x13_1))
                      go_wp2_with (first | ((with_reducible refine gate_store (t := 3) (p := 24) rfl ?_); refine store_event (t := 3) (p := 24) (v := ?vo_w15) (w1 := (wr.setCell ⟨go13, (x13_1 : Int).toNat, none⟩ (.int .i64 (rd l1 (rd l0 x13_1))))) ?hg ?ho ?hn ?hr ?_; (case ho => rfl); (case hg => rfl); (case hn => rfl); (case hr => first | (go_simp; done) | (go_simp; rfl)); intro w15 hw; have hg : wr.grownBy w15 (some go13) := (by rw [hw]; exact HP14.2); have hp_ : Kd.R (Kd.int .i64) 3 w15 w.heap.size (fun _ => True) (.slice (some ⟨go13, 0, none⟩) x5_1.length co13) y120 := (by rw [hw, Ny120.out]; exact HP14.1); clear HP14; have n0_ := Aside0.mk (hp_); have n1_ := Aside0.mk ((by rw [hw]; exact below_set (HB.out) GB13.out : Below w.heap.size w w15)); clear HO_5; clear HB; have HO_5 := n0_; have HB := n1_; clear n0_ n1_; clear hg hw hp_))
                      go_roundg k1
                      case measure => have := HK1.out; omega
                      case rel => exact ⟨(y120), (wrap64 (x13_1 + 1)), (by first | rfl | (simp; done) | (simp [*]; done)), H', ⟨by have := HK1.out; omega⟩, ⟨by (with_reducible repeat (first | apply Kd.R_alloc | apply Kd.R_drewN | apply Kd.R_drew)); exact HO_5.out⟩, ⟨by repeat (first | (with_reducible first | exact HB.out | apply below_alloc | apply pw_below_drewN | apply below_drew1) | exact HB.out)⟩⟩
                    · rw [if_neg c12] at H
                      exact absurd H (by simp)
                  · rw [if_neg c11] at H
                    exact absurd H (by simp)
                · rw [if_neg c10] at H
                  exact absurd H (by simp)
              · rw [if_neg c9] at H
                exact absurd H (by simp)
            · rw [if_neg c8] at H
              exact absurd H (by simp)
          · rw [if_neg c7] at H
            have c7b0 : decide (x13_1 < (l0.length : Int)) = false := decide_eq_false c7; clear c7; obtain rfl := Option.some.inj H
            go_wp2
            go_ret
            exact ⟨_, by first | rfl | (simp [errW_none, errW_some] <;> rfl) | (simp [*, errW_none, errW_some] <;> rfl), by (with_reducible repeat (first | apply Kd.R_alloc | apply Kd.R_drewN | apply Kd.R_drew)); exact HO_5.out, by repeat (first | (with_reducible first | exact HB.out | apply below_alloc | apply pw_below_drewN | apply below_drew1) | exact HB.out)⟩
    · rw [if_neg c4] at H
      exact absurd H (by simp)
  · rw [if_neg c3] at H
    exact absurd H (by simp)
end Go.Proofs.Ytpkgckccfanchaa.M

namespace Go.Proofs.Ytpkgckccfanchaa.M
open Go.RowKit Go.Proofs.YtpkgckccfanchaaW.PrintWords Go.Proofs.YtpkgckccfanchaaW.PrintLast Go.Proofs.YtpkgckccfanchaaW.PrintMore
attribute [local go_sem] max2_int min2_int max_two min_two max_three min_three max_four min_four
set_option linter.unusedVariables false
set_option linter.unusedSimpArgs false
def stabchain_back.l0 : Nat → List Int → List Int → Int → Int → Option (List Int)
  | 0, _, _, _, _ => none
  | k + 1, x3, x9, x10, x11 => if x11 < x10 then (if 0 ≤ x11 then (if x11 < (x9.length : Int) then (if 0 ≤ (rd x9 x11) then (if (rd x9 x11) < (x3.length : Int) then (stabchain_back.l0 k (x3.set ((rd x9 x11) : Int).toNat x11) x9 x10 (wrap64 (x11 + 1))) else (none)) else (none)) else (none)) else (none)) else (some x3)
def stabchain_back.f (k : Nat) (l0 : List Int) : Option (List Int) := if 0 ≤ (l0.length : Int) then (if ((l0.length : Int) : Int).toNat ≤ 35184372088832 then (stabchain_back.l0 k (List.replicate ((l0.length : Int) : Int).toNat 0) l0 (l0.length : Int) 0) else (none)) else (none)
theorem stabchain_back.mono_l : ∀ k, (∀ y0 y1 y2 y3, LeO (stabchain_back.l0 k y0 y1 y2 y3) (stabchain_back.l0 (k + 1) y0 y1 y2 y3))
  | 0 => fun _ _ _ _ r h => by simp [stabchain_back.l0] at h
  | k + 1 => by
    have ih0 := stabchain_back.mono_l k
    · intro y0 y1 y2 y3
      unfold stabchain_back.l0
      repeat' first
      | (with_reducible exact ih0 _ _ _ _)
      | (with_reducible exact LeO.refl _)
      | (with_reducible exact LeO.none _)
      | (with_reducible refine LeO.ite ?_ ?_)
      | (with_reducible refine LeO.bind ?_ (fun _ => ?_))
      | exact ih0 _ _ _ _
      | exact LeO.none _
      | refine LeO.ite ?_ ?_
      | refine LeO.bind ?_ (fun _ => ?_)
theorem stabchain_back.mono : ∀ a0 k, LeO (stabchain_back.f k a0) (stabchain_back.f (k + 1) a0) := by
  intro a0 k; have ih0 := stabchain_back.mono_l k
  unfold stabchain_back.f
  repeat' first
      | (with_reducible exact ih0 _ _ _ _)
      | (with_reducible exact LeO.refl _)
      | (with_reducible exact LeO.none _)
      | (with_reducible refine LeO.ite ?_ ?_)
      | (with_reducible refine LeO.bind ?_ (fun _ => ?_))
      | exact ih0 _ _ _ _
      | exact LeO.none _
      | refine LeO.ite ?_ ?_
      | refine LeO.bind ?_ (fun _ => ?_)
set_option maxHeartbeats 8000000 in
set_option maxRecDepth 100000 in
theorem stabchain_back.calls (k : Nat) (A0 : Option Addr) (c0 : Nat) (l0 : List Int) (r : List Int) (w : World) (hr0 : Kd.C (Kd.int .i64) w A0 l0.length l0) (hc0 : l0.length ≤ c0) (h : stabchain_back.f k l0 = some r) :
    Calls Try.prog 108 #[.slice A0 l0.length c0] w fun e w' => ∃ v0_ : Value, e = .returned (v0_) ∧ Kd.R (Kd.int .i64) 3 w' w.heap.size (fun _ => True) v0_ r ∧ Below w.heap.size w w' := by
  have HR0 := Aside0.mk hr0; have HC0 := Aside0.mk hc0; clear hr0 hc0; have HB := Aside0.mk (Below.refl w.heap.size w); have H : (if 0 ≤ (l0.length : Int) then (if ((l0.length : Int) : Int).toNat ≤ 35184372088832 then (stabchain_back.l0 k (List.replicate ((l0.length : Int) : Int).toNat 0) l0 (l0.length : Int) 0) else (none)) else (none)) = some r := h; clear h
  by_cases c2 : 0 ≤ (l0.length : Int)
  · rw [if_pos c2] at H
    have c2b0 := eq_true c2; have c2b1 : decide (0 ≤ (l0.length : Int)) = true := decide_eq_true c2; clear c2
    by_cases c3 : ((l0.length : Int) : Int).toNat ≤ 35184372088832
    · rw [if_pos c3] at H
      have c3b0 := eq_true c3; have c3b1 : decide (((l0.length : Int) : Int).toNat ≤ 35184372088832) = true := decide_eq_true c3; clear c3
      obtain ⟨y122, hy122⟩ : ∃ y_ : List Int, y_ = (List.replicate ((l0.length : Int) : Int).toNat 0) := ⟨_, rfl⟩
      replace H : (stabchain_back.l0 k y122 l0 (l0.length : Int) 0) = some r := by first | (rw [hy122]; with_reducible exact H) | (have H2_ := (Option.bind_some _ _).symm.trans H; rw [hy122]; with_reducible exact H2_) | (have H2_ := (Option.bind_some _ _).symm.trans H; with_reducible exact H2_) | with_reducible exact H | (rw [hy122]; exact H) | exact H
      have Ny122 := Aside0.mk hy122; clear hy122; have H' := Aside0.mk H; clear H
      go_enter Try.func108, Try.ntmps108
      go_wp2_with (first | ((with_reducible refine gate_dst (N := 8) rfl ?_); refine Kd.R_make (Kd.int .i64) _ 3 rfl (N := 8) rfl 28 _ _ rfl (l0.length : Int) rfl rfl Try.underlying28 (.int .i64 0) 8 info3 rfl (by decide) (by omega) 0 (ok := fun _ => True) (okp := fun _ => True) rfl (fun _ hk => hk) trivial (of_decide_eq_true (by first | (with_reducible assumption) | assumption)) (Nat.le_trans (Nat.mul_le_mul_right _ (of_decide_eq_true (by first | (with_reducible assumption) | assumption) : (l0.length : Int).toNat ≤ 35184372088832)) (by omega)) (Below.refl _ _) (Nat.le_refl _) ?_; intro v123 w4 ho5 hb hg_ hnew_; clear hg_ hnew_; (first | rw [← Ny122.out] at ho5 | (simp only [Int.reduceToNat] at ho5; rw [← Ny122.out] at ho5)); have n0_ := Aside0.mk (Kd.R_lower ho5 (below_size (by repeat (first | (with_reducible first | exact HB.out | apply below_alloc | apply pw_below_drewN | apply below_drew1) | exact HB.out)))); have n1_ := Aside0.mk (below_step (by repeat (first | (with_reducible first | exact HB.out | apply below_alloc | apply pw_below_drewN | apply below_drew1) | exact HB.out)) hb); clear HB; have HO124 := n0_; have HB := n1_; clear n0_ n1_; clear hb ho5))
      go_loopg [11] k (fun kq v11 w' => ∃ (x3_1 : List Int) (x11_1 : Int), v11 = .int .i64 x11_1 ∧ Aside0 (stabchain_back.l0 kq x3_1 l0 (l0.length : Int) x11_1 = some r) ∧ Aside0 (kq ≤ k) ∧ Aside0 (Kd.R (Kd.int .i64) 3 w' w.heap.size (fun _ => True) v123 x3_1) ∧ Aside0 (Below w.heap.size w w'))
      case atStart => exact ⟨(y122), (0), (by first | rfl | (simp; done) | (simp [*]; done)), H', ⟨Nat.le_refl _⟩, ⟨by (with_reducible repeat (first | apply Kd.R_alloc | apply Kd.R_drewN | apply Kd.R_drew)); exact HO124.out⟩, ⟨by repeat (first | (with_reducible first | exact HB.out | apply below_alloc | apply pw_below_drewN | apply below_drew1) | exact HB.out)⟩⟩
      case round =>
        clear H'
        try clear c1
        try clear c2
        try clear c2b0
        try clear c2b1
        try clear p2
        try clear c3
        try clear c3b0
        try clear c3b1
        obtain ⟨x3_1, x11_1, rfl, HA, HK1, HO_3, HB⟩ := hrel; cases gk with
        | zero => exact absurd HA.out (by simp [stabchain_back.l0])
        | succ k1 =>
          have H := HA.out; clear HA
          simp only [stabchain_back.l0] at H
          by_cases c6 : x11_1 < (l0.length : Int)
          · rw [if_pos c6] at H
            have c6b0 : decide (x11_1 < (l0.length : Int)) = true := decide_eq_true c6; clear c6
            by_cases c7 : 0 ≤ x11_1
            · rw [if_pos c7] at H
              have c7b0 : decide (0 ≤ x11_1) = true := decide_eq_true c7; clear c7
              by_cases c8 : x11_1 < (l0.length : Int)
              · rw [if_pos c8] at H
                have c8b0 : decide (x11_1 < (l0.length : Int)) = true := decide_eq_true c8; clear c8
                by_cases c9 : 0 ≤ (rd l0 x11_1)
                · rw [if_pos c9] at H
                  have c9b0 : decide (0 ≤ (rd l0 x11_1)) = true := decide_eq_true c9; clear c9
                  by_cases c10 : (rd l0 x11_1) < (x3_1.length : Int)
                  · rw [if_pos c10] at H
                    have c10b0 : decide ((rd l0 x11_1) < (x3_1.length : Int)) = true := decide_eq_true c10; clear c10
                    obtain ⟨y126, hy126⟩ : ∃ y_ : List Int, y_ = (x3_1.set ((rd l0 x11_1) : Int).toNat x11_1) := ⟨_, rfl⟩
                    replace H : (stabchain_back.l0 k1 y126 l0 (l0.length : Int) (wrap64 (x11_1 + 1))) = some r := by first | (rw [hy126]; with_reducible exact H) | (have H2_ := (Option.bind_some _ _).symm.trans H; rw [hy126]; with_reducible exact H2_) | (have H2_ := (Option.bind_some _ _).symm.trans H; with_reducible exact H2_) | with_reducible exact H | (rw [hy126]; exact H) | exact H
                    have Ny126 := Aside0.mk hy126; clear hy126; have H' := Aside0.mk H; clear H; have p125 : 0 ≤ (x11_1 : Int) := of_decide_eq_true (by first | (with_reducible assumption) | assumption); have q125 : x11_1 < (l0.length : Int) := of_decide_eq_true (by first | (with_reducible assumption) | assumption); obtain ⟨ad125, e125, hx125_0⟩ := Kd.at_int HR0.out x11_1 p125 q125; cases e125; replace hx125_0 := (HB.out.cell (World.block_lt_of_cell? w _ hx125_0)).trans hx125_0; replace p125 := eq_true p125; replace q125 := eq_true q125; have p11 : 0 ≤ ((rd l0 x11_1) : Int) := of_decide_eq_true (by first | (with_reducible assumption) | assumption); have q11 : ((rd l0 x11_1) : Int) < ((x3_1.length : Int) : Int) := of_decide_eq_true (by first | (with_reducible assumption) | assumption); obtain ⟨go11, co11, eo11, gb11, gl11, cl11, HG11⟩ := Kd.R_form HO_3.out (by omega)
                    (first | cases eo11 | (injection eo11 with ea_ en_ ec_; (first | subst ea_ | (injection ea_ with ea_; subst ea_)); subst ec_; clear en_))
                    have GB11 := Aside0.mk gb11; have GG11 := Aside0.mk HG11; clear gb11 gl11 HG11; obtain ⟨hx11_0, hf11_0⟩ := Kd.R_celln 0 HO_3.out ((rd l0 x11_1) : Int) p11 q11; replace p11 := eq_true p11; replace q11 := eq_true q11; have HP12 := Kd.R_putg HO_3.out ((rd l0 x11_1) : Int) x11_1
                    go_wp2_with (first | ((with_reducible refine gate_store (t := 3) (p := 19) rfl ?_); refine store_event (t := 3) (p := 19) (v := ?vo_w13) (w1 := (wr.setCell ⟨go11, ((rd l0 x11_1) : Int).toNat, none⟩ (.int .i64 x11_1))) ?hg ?ho ?hn ?hr ?_; (case ho => rfl); (case hg => rfl); (case hn => rfl); (case hr => first | (go_simp; done) | (go_simp; rfl)); intro w13 hw; have hg : wr.grownBy w13 (some go11) := (by rw [hw]; exact HP12.2); have hp_ : Kd.R (Kd.int .i64) 3 w13 w.heap.size (fun _ => True) (.slice (some ⟨go11, 0, none⟩) x3_1.length co11) y126 := (by rw [hw, Ny126.out]; exact HP12.1); clear HP12; have n0_ := Aside0.mk (hp_); have n1_ := Aside0.mk ((by rw [hw]; exact below_set (HB.out) GB11.out : Below w.heap.size w w13)); clear HO_3; clear HB; have HO_3 := n0_; have HB := n1_; clear n0_ n1_; clear hg hw hp_))
                    go_roundg k1
                    case measure => have := HK1.out; omega
                    case rel => exact ⟨(y126), (wrap64 (x11_1 + 1)), (by first | rfl | (simp; done) | (simp [*]; done)), H', ⟨by have := HK1.out; omega⟩, ⟨by (with_reducible repeat (first | apply Kd.R_alloc | apply Kd.R_drewN | apply Kd.R_drew)); exact HO_3.out⟩, ⟨by repeat (first | (with_reducible first | exact HB.out | apply below_alloc | apply pw_below_drewN | apply below_drew1) | exact HB.out)⟩⟩
                  · rw [if_neg c10] at H
                    exact absurd H (by simp)
                · rw [if_neg c9] at H
                  exact absurd H (by simp)
              · rw [if_neg c8] at H
                exact absurd H (by simp)
            · rw [if_neg c7] at H
              exact absurd H (by simp)
          · rw [if_neg c6] at H
            have c6b0 : decide (x11_1 < (l0.length : Int)) = false := decide_eq_false c6; clear c6; obtain rfl := Option.some.inj H
            go_wp2
            go_ret
            exact ⟨_, by first | rfl | (simp [errW_none, errW_some] <;> rfl) | (simp [*, errW_none, errW_some] <;> rfl), by (with_reducible repeat (first | apply Kd.R_alloc | apply Kd.R_drewN | apply Kd.R_drew)); exact HO_3.out, by repeat (first | (with_reducible first | exact HB.out | apply below_alloc | apply pw_below_drewN | apply below_drew1) | exact HB.out)⟩
    · rw [if_neg c3] at H
      exact absurd H (by simp)
  · rw [if_neg c2] at H
    exact absurd H (by simp)
end Go.Proofs.Ytpkgckccfanchaa.M

namespace Go.Proofs.Ytpkgckccfanchaa.M
open Go.RowKit Go.Proofs.YtpkgckccfanchaaW.PrintWords Go.Proofs.YtpkgckccfanchaaW.PrintLast Go.Proofs.YtpkgckccfanchaaW.PrintMore
attribute [local go_sem] max2_int min2_int max_two min_two max_three min_three max_four min_four
set_option linter.unusedVariables false
set_option linter.unusedSimpArgs false
def stabchain_moved.l0 : Nat → List Int → Int → Int → Option (Int)
  | 0, _, _, _ => none
  | k + 1, x5, x6, x7 => if x7 < x6 then (if 0 ≤ x7 then (if x7 < (x5.length : Int) then (if (rd x5 x7) = x7 then (stabchain_moved.l0 k x5 x6 (wrap64 (x7 + 1))) else (some x7)) else (none)) else (none)) else (some (-1))
def stabchain_moved.f (k : Nat) (l0 : List Int) : Option (Int) := stabchain_moved.l0 k l0 (l0.length : Int) 0
theorem stabchain_moved.mono_l : ∀ k, (∀ y0 y1 y2, LeO (stabchain_moved.l0 k y0 y1 y2) (stabchain_moved.l0 (k + 1) y0 y1 y2))
  | 0 => fun _ _ _ r h => by simp [stabchain_moved.l0] at h
  | k + 1 => by
    have ih0 := stabchain_moved.mono_l k
    · intro y0 y1 y2
      unfold stabchain_moved.l0
      repeat' first
      | (with_reducible exact ih0 _ _ _)
      | (with_reducible exact LeO.refl _)
      | (with_reducible exact LeO.none _)
      | (with_reducible refine LeO.ite ?_ ?_)
      | (with_reducible refine LeO.bind ?_ (fun _ => ?_))
      | exact ih0 _ _ _
      | exact LeO.none _
      | refine LeO.ite ?_ ?_
      | refine LeO.bind ?_ (fun _ => ?_)
theorem stabchain_moved.mono : ∀ a0 k, LeO (stabchain_moved.f k a0) (stabchain_moved.f (k + 1) a0) := by
  intro a0 k; have ih0 := stabchain_moved.mono_l k
  unfold stabchain_moved.f
  repeat' first
      | (with_reducible exact ih0 _ _ _)
      | (with_reducible exact LeO.refl _)
      | (with_reducible exact LeO.none _)
      | (with_reducible refine LeO.ite ?_ ?_)
      | (with_reducible refine LeO.bind ?_ (fun _ => ?_))
      | exact ih0 _ _ _
      | exact LeO.none _
      | refine LeO.ite ?_ ?_
      | refine LeO.bind ?_ (fun _ => ?_)
set_option maxHeartbeats 8000000 in
set_option maxRecDepth 100000 in
theorem stabchain_moved.calls (k : Nat) (A0 : Option Addr) (c0 : Nat) (l0 : List Int) (r : Int) (w : World) (hr0 : Kd.C (Kd.int .i64) w A0 l0.length l0) (hc0 : l0.length ≤ c0) (h : stabchain_moved.f k l0 = some r) :
    Calls Try.prog 92 #[.slice A0 l0.length c0] w fun e w' => e = .returned (.int .i64 r) ∧ Drawn0 w w' := by
  have HR0 := Aside0.mk hr0; have HC0 := Aside0.mk hc0; clear hr0 hc0; have H : (stabchain_moved.l0 k l0 (l0.length : Int) 0) = some r := h; clear h; have H' := Aside0.mk H; clear H
  go_enter Try.func92, Try.ntmps92
  go_wp2
  go_loopg [7] k (fun kq v7 w' => ∃ (x7_1 : Int), v7 = .int .i64 x7_1 ∧ Aside0 (stabchain_moved.l0 kq l0 (l0.length : Int) x7_1 = some r) ∧ Aside0 (kq ≤ k) ∧ Drawn0 w w')
  case atStart => exact ⟨(0), (by first | rfl | (simp; done) | (simp [*]; done)), H', ⟨Nat.le_refl _⟩, by repeat (first | exact Drawn0.refl _ | apply Drawn0.step)⟩
  case round =>
    clear H'; obtain ⟨x7_1, rfl, HA, HK1, ⟨m1, rfl⟩⟩ := hrel; cases gk with
    | zero => exact absurd HA.out (by simp [stabchain_moved.l0])
    | succ k1 =>
      have H := HA.out; clear HA
      simp only [stabchain_moved.l0] at H
      by_cases c2 : x7_1 < (l0.length : Int)
      · rw [if_pos c2] at H
        have c2b0 : decide (x7_1 < (l0.length : Int)) = true := decide_eq_true c2; clear c2
        by_cases c3 : 0 ≤ x7_1
        · rw [if_pos c3] at H
          have c3b0 : decide (0 ≤ x7_1) = true := decide_eq_true c3; clear c3
          by_cases c4 : x7_1 < (l0.length : Int)
          · rw [if_pos c4] at H
            have c4b0 : decide (x7_1 < (l0.length : Int)) = true := decide_eq_true c4; clear c4
            by_cases c5 : (rd l0 x7_1) = x7_1
            · rw [if_pos c5] at H
              have c5b0 : ((rd l0 x7_1) == x7_1) = true := beq_iff_eq.mpr c5; have c5b1 : ((rd l0 x7_1) != x7_1) = false := bne_eq_false_iff_eq.mpr c5; clear c5; have H' := Aside0.mk H; clear H; have p121 : 0 ≤ (x7_1 : Int) := of_decide_eq_true (by first | (with_reducible assumption) | assumption); have q121 : x7_1 < (l0.length : Int) := of_decide_eq_true (by first | (with_reducible assumption) | assumption); obtain ⟨ad121, e121, hx121_0⟩ := Kd.at_int HR0.out x7_1 p121 q121; cases e121; replace p121 := eq_true p121; replace q121 := eq_true q121
              go_wp2
              go_roundg k1
              case measure => have := HK1.out; omega
              case rel => exact ⟨(wrap64 (x7_1 + 1)), (by first | rfl | (simp; done) | (simp [*]; done)), H', ⟨by have := HK1.out; omega⟩, by repeat (first | exact Drawn0.refl _ | apply Drawn0.step)⟩
            · rw [if_neg c5] at H
              have c5b0 : ((rd l0 x7_1) == x7_1) = false := beq_eq_false_iff_ne.mpr c5; have c5b1 : ((rd l0 x7_1) != x7_1) = true := bne_iff_ne.mpr c5; obtain rfl := Option.some.inj H; have p121 : 0 ≤ (x7_1 : Int) := of_decide_eq_true (by first | (with_reducible assumption) | assumption); have q121 : x7_1 < (l0.length : Int) := of_decide_eq_true (by first | (with_reducible assumption) | assumption); obtain ⟨ad121, e121, hx121_0⟩ := Kd.at_int HR0.out x7_1 p121 q121; cases e121; replace p121 := eq_true p121; replace q121 := eq_true q121
              go_wp2
              go_ret
              exact ⟨by first | rfl | (simp; done) | (simp [*]; done), by repeat (first | exact Drawn0.refl _ | apply Drawn0.step)⟩
          · rw [if_neg c4] at H
            exact absurd H (by simp)
        · rw [if_neg c3] at H
          exact absurd H (by simp)
      · rw [if_neg c2] at H
        have c2b0 : decide (x7_1 < (l0.length : Int)) = false := decide_eq_false c2; clear c2; obtain rfl := Option.some.inj H
        go_wp2
        go_ret
        exact ⟨by first | rfl | (simp; done) | (simp [*]; done), by repeat (first | exact Drawn0.refl _ | apply Drawn0.step)⟩
end Go.Proofs.Ytpkgckccfanchaa.M

namespace Go.Proofs.Ytpkgckccfanchaa.M
open Go.RowKit Go.Proofs.YtpkgckccfanchaaW.PrintWords Go.Proofs.YtpkgckccfanchaaW.PrintLast Go.Proofs.YtpkgckccfanchaaW.PrintMore
attribute [local go_sem] max2_int min2_int max_two min_two max_three min_three max_four min_four
set_option linter.unusedVariables false
set_option linter.unusedSimpArgs false
def permutation_Identity.f (a0 : Int) : Option (List Int × Bool) := if a0 < 1 ∨ a0 > 512 then some ([], false) else some (rangeI a0.toNat, true)
theorem permutation_Identity.calls (a0 : Int) (r1 : List Int) (r2 : Bool) (w : World) (h : permutation_Identity.f a0 = some (r1, r2)) :
    Calls Try.prog 77 #[.int .i64 a0] w fun e w' => ∃ v0_ : Value, e = .returned (.tuple #[v0_, .bool r2]) ∧ Kd.R (Kd.int .i64) 3 w' w.heap.size (fun _ => True) v0_ r1 ∧ Below w.heap.size w w' := by
  unfold permutation_Identity.f at h
  split at h
  case isTrue hx =>
    have hr := Option.some.inj h
    simp only [Prod.mk.injEq] at hr
    obtain ⟨rfl, rfl⟩ := hr; clear h
    by_cases h1 : a0 < 1
    · go_enter Try.func77, Try.ntmps77
      go_wp2
      go_ret2
      exact ⟨_, rfl, Kd.R_nil _ _ _ _ _, Below.refl _ _⟩
    · have h2 : 512 < a0 := by omega
      clear hx
      go_enter Try.func77, Try.ntmps77
      go_wp2
      go_ret2
      exact ⟨_, rfl, Kd.R_nil _ _ _ _ _, Below.refl _ _⟩
  case isFalse hx =>
    have hr := Option.some.inj h
    simp only [Prod.mk.injEq] at hr
    obtain ⟨hr1, rfl⟩ := hr; clear h; obtain ⟨n, rfl⟩ := Int.eq_ofNat_of_zero_le (show 0 ≤ a0 by omega)
    have hn1 : 1 ≤ (n : Int) := by omega
    have hn2 : (n : Int) ≤ 512 := by omega
    have hn3 : 1 ≤ n := by omega
    have hn4 : n ≤ 512 := by omega
    rw [Int.toNat_natCast] at hr1
    have H := Aside0.mk hr1; clear hr1 hx
    go_enter Try.func77, Try.ntmps77
    go_wp2_with ((with_reducible refine gate_dst (N := 13) rfl ?_); go_must (refine Kd.R_make (Kd.int .i64) w.heap.size 3 rfl (N := 13) rfl 28 _ _ rfl (n : Int) rfl rfl Try.underlying28 (.int .i64 0) 8 info3 rfl (by decide) (by omega) 0 (ok := fun _ => True) (okp := fun _ => True) rfl (fun _ hk => hk) trivial (by omega) (by omega) (Below.refl _ _) (Nat.le_refl _) ?_); intro v w1 ho hb hg hnew; obtain ⟨g, c1, e1, hgb, hgl, _⟩ := Kd.R_form ho (by simp; omega); subst e1; rw [show (List.replicate ((n : Int)).toNat (0 : Int)).length = n from by simp])
    have HO := Aside0.mk (show Kd.R (Kd.int .i64) 3 w1 w.heap.size (fun _ => True) (.slice (some ⟨g, 0, none⟩) (fillI 0 (List.replicate n 0)).length c1) (fillI 0 (List.replicate n 0)) from by simpa [fillI, rangeI] using ho); have HB := Aside0.mk hb; clear ho hb hg hnew
    go_loopw [5, 16] (fun _ v wr => ∃ k : Nat, k ≤ n ∧ v = .int .i64 k ∧ Aside0 (Kd.R (Kd.int .i64) 3 wr w.heap.size (fun _ => True) (.slice (some ⟨g, 0, none⟩) (fillI k (List.replicate n 0)).length c1) (fillI k (List.replicate n 0))) ∧ Aside0 (Below w.heap.size w wr)) (fun _ v _ => n - (intOf v).toNat)
    case atStart => exact ⟨0, by omega, rfl, HO, HB⟩
    case round =>
      obtain ⟨k, hk, rfl, HO, HB⟩ := hrel
      have hlen : (fillI k (List.replicate n 0)).length = n := by rw [fillI_length _ _ (by simpa using hk)]; simp
      by_cases hlt : k < n
      · have hlt2 : (k : Int) < n := by omega
        obtain ⟨hc, hf⟩ := Kd.R_cell (enc := Value.int .i64) (h1 := fun _ => rfl) 0 HO.out (k : Int) (by omega) (by omega); have hput := Kd.R_put (enc := Value.int .i64) (h1 := fun _ => rfl) HO.out (k : Int) (k : Int)
        rw [Int.toNat_natCast] at hc hf hput
        rw [fillI_set _ _ (by simpa using hlt)] at hput
        have HP := Aside0.mk hput; clear hput
        go_wp2
        go_roundw
        case rel => exact ⟨k + 1, by omega, by go_num, ⟨by have h1 := HP.out.1; rw [hlen] at h1; rw [fillI_length _ _ (by rw [List.length_replicate]; omega), List.length_replicate]; exact h1⟩, ⟨below_set HB.out hgb⟩⟩
        case measure => simp [intOf]; omega
      · obtain rfl : k = n := by omega
        have hfin : fillI k (List.replicate k 0) = rangeI k := by simp [fillI]
        have HF := Aside0.mk (show Kd.R (Kd.int .i64) 3 wr w.heap.size (fun _ => True) (.slice (some ⟨g, 0, none⟩) k c1) r1 from by have h1 := HO.out; rw [hlen] at h1; rw [hfin, H.out] at h1; exact h1); clear HO hfin hlen H
        go_wp2
        go_ret2
        exact ⟨_, rfl, HF.out, HB.out⟩
end Go.Proofs.Ytpkgckccfanchaa.M

namespace Go.Proofs.Ytpkgckccfanchaa.M
open Go.RowKit Go.Proofs.YtpkgckccfanchaaW.PrintWords Go.Proofs.YtpkgckccfanchaaW.PrintLast Go.Proofs.YtpkgckccfanchaaW.PrintMore
open Sims
set_option linter.unusedVariables false
theorem rd_rdl (p : List Int) (x : Int) : rd p x = rdl p x := rfl
theorem wrap_small {i : Int} (h0 : 0 ≤ i) (h1 : i ≤ 35184372088832) : wrap64 (i + 1) = i + 1 := by unfold wrap64; omega
theorem rdl_set {l : List Int} {i x v : Int} (hi0 : 0 ≤ i) (hi : i < l.length) (h0 : 0 ≤ x) (h1 : x < l.length) : rdl (l.set i.toNat v) x = if x = i then v else rdl l x := by
  rw [rdl_eq h0 (by rw [List.length_set]; exact h1), rdl_eq h0 h1, List.getElem_set]
  by_cases e : x = i
  · rw [if_pos (by omega), if_pos e]
  · rw [if_neg (by omega), if_neg e]
theorem then_loop {p q : List Int} (hp : p.length ≤ 35184372088832) (hq : ∀ x ∈ p, 0 ≤ x ∧ x < q.length) : ∀ (d k : Nat) (out : List Int) (i : Int), 0 ≤ i → i ≤ p.length → (p.length : Int) - i = d → d < k → out.length = p.length → (∀ x : Int, 0 ≤ x → x < i → rdl out x = rdl (thenL p q) x) →
    stabchain_then.l0 k q out p (p.length : Int) i = some (thenL p q)
  | d, 0, _, _, _, _, _, hk, _, _ => by omega
  | 0, k + 1, out, i, h0, h1, hd, _, hl, ho => by
    simp only [stabchain_then.l0]
    rw [if_neg (by omega)]
    rw [list_ext hl (thenL_length p q) (fun x k0 k1 => ho x k0 (by omega))]
  | d + 1, k + 1, out, i, h0, h1, hd, hk, hl, ho => by
    have hlt : i < (p.length : Int) := by omega
    have hm := hq _ (rdl_mem h0 hlt)
    simp only [stabchain_then.l0]
    rw [if_pos hlt, if_pos h0, if_pos hlt, if_pos (show 0 ≤ rd p i from hm.1), if_pos (show rd p i < (q.length : Int) from hm.2), if_pos (by rw [hl]; exact hlt), wrap_small h0 (by omega)]
    refine then_loop hp hq d k _ (i + 1) (by omega) (by omega) (by omega) (by omega) (by rw [List.length_set, hl]) (fun x k0 k1 => ?_)
    rw [rdl_set h0 (by rw [hl]; exact hlt) k0 (by rw [hl]; omega)]
    by_cases e : x = i
    · rw [if_pos e, e, rdl_then h0 hlt]
      rfl
    · rw [if_neg e]
      exact ho x k0 (by omega)
theorem then_f {p q : List Int} (hp : p.length ≤ 35184372088832) (hq : ∀ x ∈ p, 0 ≤ x ∧ x < q.length) : stabchain_then.f (p.length + 1) p q = some (thenL p q) := by
  unfold stabchain_then.f
  rw [if_pos (by omega), if_pos (by omega)]
  exact then_loop hp hq p.length _ _ 0 (by omega) (by omega) (by omega) (by omega) (by simp) (fun x k0 k1 => by omega)
theorem back_loop {n : Nat} {p : List Int} (hn : n ≤ 35184372088832) (hp : IsP n p) : ∀ (d k : Nat) (out : List Int) (i : Int), 0 ≤ i → i ≤ n → (n : Int) - i = d → d < k → out.length = n → (∀ x : Int, 0 ≤ x → x < i → rdl out (rdl p x) = x) →
    stabchain_back.l0 k out p (p.length : Int) i = some (backL p)
  | d, 0, _, _, _, _, _, hk, _, _ => by omega
  | 0, k + 1, out, i, h0, h1, hd, _, hl, ho => by
    have hpl := hp.len
    simp only [stabchain_back.l0]
    rw [if_neg (by omega)]
    rw [list_ext hl (by rw [backL_length, hpl]) (fun x k0 k1 => ?_)]
    have hi := idx_lt hp k0 k1
    have := ho (p.idxOf x : Int) (by omega) (by omega)
    rw [rdl_idx hp k0 k1] at this
    rw [this, rdl_back hp k0 k1]
  | d + 1, k + 1, out, i, h0, h1, hd, hk, hl, ho => by
    have hpl := hp.len
    have hlt : i < (n : Int) := by omega
    have hm := hp.rd h0 hlt
    simp only [stabchain_back.l0]
    rw [if_pos (by omega), if_pos h0, if_pos (by omega), if_pos (show 0 ≤ rd p i from hm.1), if_pos (by rw [hl]; exact hm.2), wrap_small h0 (by omega)]
    refine back_loop hn hp d k _ (i + 1) (by omega) (by omega) (by omega) (by omega) (by rw [List.length_set, hl]) (fun x k0 k1 => ?_)
    have hx := hp.rd k0 (show x < n by omega)
    rw [rd_rdl, rdl_set hm.1 (by rw [hl]; exact hm.2) hx.1 (by rw [hl]; exact hx.2)]
    by_cases e : rdl p x = rdl p i
    · rw [if_pos e]
      exact (hp.inj k0 (by omega) h0 hlt e).symm
    · rw [if_neg e]
      refine ho x k0 ?_
      have : x ≠ i := fun e' => e (by rw [e'])
      omega
theorem back_f {n : Nat} {p : List Int} (hn : n ≤ 35184372088832) (hp : IsP n p) : stabchain_back.f (n + 1) p = some (backL p) := by
  have hpl := hp.len
  unfold stabchain_back.f
  rw [if_pos (by omega), if_pos (by omega)]
  exact back_loop hn hp n _ _ 0 (by omega) (by omega) (by omega) (by omega) (by simp [hpl]) (fun x k0 k1 => by omega)
theorem moved_loop {p : List Int} (hp : p.length ≤ 35184372088832) : ∀ (d k : Nat) (i : Int), 0 ≤ i → i ≤ p.length → (p.length : Int) - i = d → d < k → stabchain_moved.l0 k p (p.length : Int) i = some (movedFrom i (p.drop i.toNat))
  | d, 0, _, _, _, _, hk => by omega
  | 0, k + 1, i, h0, h1, hd, _ => by
    simp only [stabchain_moved.l0]
    rw [if_neg (by omega), List.drop_eq_nil_of_le (by omega)]
    rfl
  | d + 1, k + 1, i, h0, h1, hd, hk => by
    have hlt : i < (p.length : Int) := by omega
    have e1 : p.drop i.toNat = rdl p i :: p.drop (i + 1).toNat := by
      rw [List.drop_eq_getElem_cons (show i.toNat < p.length by omega), rdl_eq h0 hlt, show (i + 1).toNat = i.toNat + 1 from by omega]
    simp only [stabchain_moved.l0]
    rw [if_pos hlt, if_pos h0, if_pos hlt, e1, wrap_small h0 (by omega)]
    unfold movedFrom
    by_cases e : rd p i = i
    · rw [if_pos e, if_pos (show rdl p i = i from e)]
      exact moved_loop hp d k (i + 1) (by omega) (by omega) (by omega) (by omega)
    · rw [if_neg e, if_neg (show ¬ rdl p i = i from e)]
theorem moved_f {p : List Int} (hp : p.length ≤ 35184372088832) : stabchain_moved.f (p.length + 1) p = some (movedL p) := by
  unfold stabchain_moved.f
  exact moved_loop hp p.length _ 0 (by omega) (by omega) (by omega) (by omega)
variable {n : Nat} {ok ok' : Nat → Prop} {w : World} {v u : Value} {p q : List Int}
theorem then_pv (hn : 0 < n) (hn' : n ≤ 512) (hv : PV w ok v p) (hu : PV w ok' u q) (hp : IsP n p) (hq : IsP n q) : Calls Try.prog 78 #[v, u] w fun e w' => ∃ r, e = .returned r ∧ PN w.heap.size w' r (thenL p q) ∧ Below w.heap.size w w' := by
  obtain ⟨A, c, rfl, hc, hC⟩ := PV.read hv
  obtain ⟨A', c', rfl, hc', hC'⟩ := PV.read hu
  refine (stabchain_then.calls _ A c p A' c' q _ w hC hc hC' hc' (then_f (by rw [hp.len]; omega) (fun x hx => by rw [hq.len]; exact hp.rng x hx))).mono ?_
  rintro e w' ⟨r, rfl, hR, hb⟩
  exact ⟨r, rfl, PN.of_R hR (by rw [thenL_length, hp.len]; exact hn), hb⟩
theorem back_pv (hn : 0 < n) (hn' : n ≤ 512) (hv : PV w ok v p) (hp : IsP n p) : Calls Try.prog 108 #[v] w fun e w' => ∃ r, e = .returned r ∧ PN w.heap.size w' r (backL p) ∧ Below w.heap.size w w' := by
  obtain ⟨A, c, rfl, hc, hC⟩ := PV.read hv
  refine (stabchain_back.calls _ A c p _ w hC hc (back_f (by omega) hp)).mono ?_
  rintro e w' ⟨r, rfl, hR, hb⟩
  exact ⟨r, rfl, PN.of_R hR (by rw [backL_length, hp.len]; exact hn), hb⟩
theorem moved_pv (hn' : p.length ≤ 512) (hv : PV w ok v p) : Calls Try.prog 92 #[v] w fun e w' => e = .returned (.int .i64 (movedL p)) ∧ Drawn0 w w' := by
  obtain ⟨A, c, rfl, hc, hC⟩ := PV.read hv
  exact stabchain_moved.calls _ A c p _ w hC hc (moved_f (by omega))
theorem identity_pv (hn : 0 < n) (hn' : n ≤ 512) : Calls Try.prog 77 #[.int .i64 (n : Int)] w fun e w' => ∃ r, e = .returned (.tuple #[r, .bool true]) ∧ PN w.heap.size w' r (oneL n) ∧ Below w.heap.size w w' := by
  refine (permutation_Identity.calls (n : Int) (oneL n) true w ?_).mono ?_
  · unfold permutation_Identity.f
    rw [if_neg (by omega), Int.toNat_natCast]
    rfl
  · rintro e w' ⟨r, rfl, hR, hb⟩
    exact ⟨r, rfl, PN.of_R hR (by rw [oneL_length]; exact hn), hb⟩
end Go.Proofs.Ytpkgckccfanchaa.M

namespace Go.Proofs.Ytpkgckccfanchaa.M
open Go.RowKit Go.Proofs.YtpkgckccfanchaaW.PrintWords Go.Proofs.YtpkgckccfanchaaW.PrintLast Go.Proofs.YtpkgckccfanchaaW.PrintMore
open Sims
open Go.ChangeMaps (setBlock)
set_option linter.unusedVariables false
set_option linter.unusedSimpArgs false
variable {n : Nat} {ok ok' : Nat → Prop} {w : World} {v u : Value} {p q : List Int}
theorem PV.cells {ad : Addr} (h : Kd.C (Kd.int .i64) w (some ad) p.length p) : ∀ j u, (nums .i64 p)[j]? = some u → w.cell? (ad.add j) = some u := by
  intro j u hu
  have hj : j < p.length := by
    rcases Nat.lt_or_ge j p.length with h1 | h1
    · exact h1
    · simp [nums, List.getElem?_eq_none h1] at hu
  have hr := Kd.reads_of_C (enc := Value.int .i64) (d := (0 : Int)) (h1 := fun _ => rfl) h
  obtain ⟨ad', e, hc⟩ := hr.2.2 (by omega)
  cases e
  rw [hc j hj]
  simp [nums, List.getElem?_eq_getElem hj] at hu
  rw [← hu]
  simp [List.getD_eq_getElem?_getD, List.getElem?_eq_getElem hj]
theorem PV.addr {A : Option Addr} {m : Nat} (h : Kd.C (Kd.int .i64) w A m p) (hp : 0 < m) : ∃ ad, A = some ad := by
  obtain ⟨ad, e, _⟩ := h.2.2 hp
  exact ⟨ad, e⟩
theorem PN.of_own {N : Nat} (h : w.ownsRow N 3 1 v p.length (nums .i64 p)) (hp : 0 < p.length) : PN N w v p :=
  PN.of_R (Kd.R_of_own (enc := Value.int .i64) (h1 := fun _ => rfl) (ok := fun _ => True) h (fun _ _ => trivial)) hp
set_option maxHeartbeats 1000000 in
set_option maxRecDepth 100000 in
theorem clone_pv (hn : 0 < p.length) (hn' : p.length ≤ 512) (hv : PV w ok v p) : Calls Try.prog 76 #[v] w fun e w' => ∃ r, e = .returned r ∧ PN w.heap.size w' r p ∧ Below w.heap.size w w' := by
  obtain ⟨A, c, rfl, hc, hC⟩ := PV.read hv
  obtain ⟨ad, rfl⟩ := PV.addr hC hn
  have HC := Aside0.mk (PV.cells hC)
  have HN := Aside0.mk hn
  obtain ⟨i0, hi, hz0, hz1, hz2⟩ := info_parts info3
  have HI := Aside0.mk hi
  have HZ := Aside0.mk hz0
  have HZ1 := Aside0.mk hz1
  have HZ2 := Aside0.mk hz2
  clear hC hv hn hi hz0 hz1 hz2
  have heq : ∀ W : World, (binOp BinOp.eql 28 (.slice (some ad) p.length c) (.slice none 0 0)).run Try.prog W = .ok (.bool false) W := fun W => by kernel_rfl
  go_enter Try.func76, Try.ntmps76
  go_wp2_with (first | (at_builtin; go_must (refine wpList_append_own_at _ rfl (.tmp 5) (.tmp 6) 28 rfl w.heap.size 3 i0 (.int .i64 0) 1 8 Try.underlying28 HI.out HZ.out HZ1.out HZ2.out rfl (by decide) _ 0 [] rfl (World.ownsRow_lit (e := 3) (size := 1) w #[] 0 (Nat.le_refl _) (by decide) rfl) ad p.length c (nums .i64 p) rfl (by simp [nums]) ?cc ?c1 ?c2 ?c3 ?c4 ?_); (case cc => (intro j u hu; exact pw_cell_below (below_alloc (Below.refl _ _) _) (HC.out j u hu))); (case c1 => (intro u hu; simp only [nums, List.mem_map] at hu; obtain ⟨q, _, rfl⟩ := hu; rfl)); (case c2 => (unfold maxLen; omega)); (case c3 => omega); (case c4 => simp); rintro v' w1 hown hg - -; have HO := Aside0.mk hown; have HG := Aside0.mk hg; clear hown hg))
  go_ret
  have ho := HO.out
  rw [Nat.zero_add, List.nil_append] at ho
  refine ⟨v', rfl, PN.of_own ho HN.out, pw_below_grown (below_alloc (Below.refl _ _) _) _ (by simp) HG.out ?_⟩
  intro k hk
  have e : some w.heap.size = some k := hk
  cases e
  exact Nat.le_refl _
theorem newMap_at (w1 : World) (o : Obj) : ((w1.alloc o).alloc (.map #[] 0)).heap[w1.heap.size + 1]? = some (.map #[] 0) := by
  have := heap_alloc_new (w1.alloc o) (.map #[] 0)
  rwa [World.size_alloc] at this
theorem newLevel_lv {w1 w2 : World} {r : Value} {b : Int} (hb : Below w.heap.size w w1) (hR : PN w.heap.size w1 r (oneL n)) (hW : w2 = setBlock ((w1.alloc (.cells #[.int .i64 b] 3)).alloc (.map #[] 0)) (w1.heap.size + 1) (.map #[⟨.int .i64 b, r, 0⟩] 1)) :
    LvAt ((w2.alloc (.map #[] 0)).alloc (.cells #[.int .i64 b, .slice none 0 0, .slice (some ⟨w1.heap.size, 0, none⟩) 1 1, .map (some (w1.heap.size + 1)), .map (some w2.heap.size)] 111)) w.heap.size (fun k => w.heap.size ≤ k ∧ k < w1.heap.size)
      ⟨w2.heap.size + 1, .slice none 0 0, .slice (some ⟨w1.heap.size, 0, none⟩) 1 1, w1.heap.size + 1, w2.heap.size⟩ (newLv n b) ∧
    Below w.heap.size w ((w2.alloc (.map #[] 0)).alloc (.cells #[.int .i64 b, .slice none 0 0, .slice (some ⟨w1.heap.size, 0, none⟩) 1 1, .map (some (w1.heap.size + 1)), .map (some w2.heap.size)] 111)) := by
  generalize hC : Obj.cells #[.int .i64 b, .slice none 0 0, .slice (some ⟨w1.heap.size, 0, none⟩) 1 1, .map (some (w1.heap.size + 1)), .map (some w2.heap.size)] 111 = C
  have hs2 : w2.heap.size = w1.heap.size + 2 := by rw [hW]; simp [setBlock]
  have g1 : w2.heap[w1.heap.size + 1]? = some (.map #[⟨.int .i64 b, r, 0⟩] 1) := by
    rw [hW]
    simp [setBlock]
  have g0 : w2.heap[w1.heap.size]? = some (.cells #[.int .i64 b] 3) := by
    rw [hW]
    simp only [setBlock]
    rw [Array.getElem?_setIfInBounds_ne (by omega)]
    exact heap_alloc2_old w1 _ _
  have gold : ∀ k, k < w1.heap.size → w2.heap[k]? = w1.heap[k]? := fun k hk => by
    rw [hW]
    simp only [setBlock]
    rw [Array.getElem?_setIfInBounds_ne (by omega), heap_alloc_old _ _ (by rw [World.size_alloc]; omega), heap_alloc_old _ _ hk]
  have f : ∀ k, k < w2.heap.size → ((w2.alloc (.map #[] 0)).alloc C).heap[k]? = w2.heap[k]? := fun k hk => by
    rw [heap_alloc_old _ _ (by rw [World.size_alloc]; omega), heap_alloc_old _ _ hk]
  have fC : ((w2.alloc (.map #[] 0)).alloc C).heap[w2.heap.size + 1]? = some C := heap_alloc2_new w2 _ _
  have fM : ((w2.alloc (.map #[] 0)).alloc C).heap[w2.heap.size]? = some (.map #[] 0) := heap_alloc2_old w2 _ _
  have hsz := hb.size
  have hkeep : ∀ k, k < w1.heap.size → ((w2.alloc (.map #[] 0)).alloc C).heap[k]? = w1.heap[k]? := fun k hk => (f k (by omega)).trans (gold k hk)
  have hfree : ∀ k, (⟨w2.heap.size + 1, .slice none 0 0, .slice (some ⟨w1.heap.size, 0, none⟩) 1 1, w1.heap.size + 1, w2.heap.size⟩ : LC).Blk k → w1.heap.size ≤ k := by
    intro k hk
    rcases hk with hk | hk | hk | hk | hk
    · have e : k = w2.heap.size + 1 := hk
      omega
    · cases hk
    · have e : some w1.heap.size = some k := hk
      cases e
      exact Nat.le_refl _
    · have e : k = w1.heap.size + 1 := hk
      omega
    · have e : k = w2.heap.size := hk
      omega
  refine ⟨⟨by rw [fC, ← hC]; rfl, ⟨[], ⟨rfl, .inl ⟨rfl, rfl⟩⟩, fun j p hj => by simp [newLv] at hj⟩, ⟨rfl, .inr ⟨w1.heap.size, 1, _, rfl, hsz, (f _ (by omega)).trans g0, Nat.le_refl _, by decide, rfl, rfl⟩⟩,
    ⟨_, _, (f (w1.heap.size + 1) (by omega)).trans g1, rfl, fun j q hq => ?_⟩, ⟨_, _, fM, rfl⟩, ⟨by show w.heap.size ≤ w2.heap.size + 1; omega, by show w.heap.size ≤ w1.heap.size + 1; omega, by show w.heap.size ≤ w2.heap.size; omega⟩, fun k hk hp => by have := hfree k hk; omega, by show w1.heap.size + 1 ≠ w2.heap.size; omega⟩, ?_⟩
  · cases j with
    | zero =>
      have e : q = (b, oneL n) := by simpa [newLv] using hq.symm
      subst e
      refine ⟨⟨.int .i64 b, r, 0⟩, rfl, ?_⟩
      obtain ⟨k, h1, h2, h3⟩ := hR
      exact PV.mono (Kd.V_step h3 (fun i hi hlt => hkeep i hlt)) (fun i hi => by subst hi; exact ⟨h1, h2⟩)
    | succ j => simp [newLv] at hq
  · refine ⟨?_, ?_, ?_, ?_, fun k hk => (hkeep k (by omega)).trans (hb.block k hk)⟩
    · rw [← hb.os]; rw [hW]; rfl
    · rw [← hb.tape]; rw [hW]; rfl
    · rw [← hb.output]; rw [hW]; rfl
    · simp only [World.size_alloc]; omega
set_option maxHeartbeats 1000000 in
set_option maxRecDepth 100000 in
theorem newLevel_calls {b : Int} (hn : 0 < n) (hn' : n ≤ 512) (h0 : 0 ≤ b) (h1 : b < n) : Calls Try.prog 83 #[.int .i64 (n : Int), .int .i64 b] w fun e w' => ∃ (c : LC) (PB : Nat → Prop), e = .returned c.ptr ∧ LvAt w' w.heap.size PB c (newLv n b) ∧ Below w.heap.size w w' ∧ ∀ k, PB k → w.heap.size ≤ k := by
  have hmm := @run_makeMap Try.prog
  go_enter Try.func83, Try.ntmps83
  go_wp2_with (first | (go_at_call 77; (with_reducible refine (identity_pv hn hn').mono ?_); rintro e w1 ⟨r, rfl, hR, hb⟩; obtain ⟨w2, HW, hst⟩ : ∃ w2, Aside0 (w2 = setBlock ((w1.alloc (.cells #[.int .i64 b] 3)).alloc (.map #[] 0)) (w1.heap.size + 1) (.map #[⟨.int .i64 b, r, 0⟩] 1)) ∧ (Instr.mapUpdate 108 (.map (some (w1.heap.size + 1))) (.int .i64 b) r).run Try.prog ((w1.alloc (.cells #[.int .i64 b] 3)).alloc (.map #[] 0)) = .ok () w2 := ⟨_, ⟨rfl⟩, gm_store_new law_int Try.underlying108 (newMap_at w1 _) (fun x hx => by simp at hx) (key_int (by omega) (by omega)) (fun x hx => by simp at hx) r⟩; have HR := Aside0.mk hR; have HB := Aside0.mk hb; clear hR hb))
  go_ret
  obtain ⟨h1, h2⟩ := newLevel_lv (b := b) HB.out HR.out HW.out
  exact ⟨_, _, rfl, h1, h2, fun k hk => hk.1⟩
theorem reps_look {PB : Nat → Prop} {b : Nat} {reps : List (Int × List Int)} (h : RepsAt w PB b reps) (hr : ∀ x : Int, x ∈ reps.map (·.1) → 0 ≤ x ∧ x < n) (hn : n ≤ 512) (hnd : (reps.map (·.1)).Nodup) {x : Int} (h0 : 0 ≤ x) (h1 : x < n) :
    ∃ (u : Value) (r : List Int) (f : Bool), (∀ (W : World) (c : Bool), W.heap[b]? = w.heap[b]? → (Instr.lookup 108 (.map (some b)) (.int .i64 x) c).run Try.prog W = .ok (if c then .tuple #[u, .bool f] else u) W) ∧ ((f = true ∧ lookA x reps = some r ∧ PV w PB u r) ∨ (f = false ∧ lookA x reps = none ∧ u = .slice none 0 0)) := by
  obtain ⟨es, ck, hb, hk, hv⟩ := h
  have hlen : es.toList.length = reps.length := by have := congrArg List.length hk; simpa using this
  have hkey : ∀ (j : Nat) e, es.toList[j]? = some e → ∃ q, reps[j]? = some q ∧ e.key = .int .i64 q.1 := by
    intro j e he
    have h2 : (es.toList.map (·.key))[j]? = some e.key := by rw [List.getElem?_map, he]; rfl
    rw [hk, List.getElem?_map] at h2
    obtain ⟨q, hq, e2⟩ := Option.map_eq_some_iff.1 h2
    exact ⟨q, hq, e2.symm⟩
  have hok : KeysOk Try.prog 3 es := fun e he => by
    obtain ⟨j, hj, e2⟩ := List.getElem_of_mem he
    obtain ⟨q, hq, e3⟩ := hkey j e (by rw [List.getElem?_eq_getElem hj, e2])
    have := hr q.1 (List.mem_map.2 ⟨q, List.mem_of_getElem? hq, rfl⟩)
    exact ⟨_, by rw [e3]; exact key_int (by omega) (by omega)⟩
  have hz : ∀ W : World, (zeroValue 28).run Try.prog W = .ok (.slice none 0 0) W := fun W => by kernel_rfl
  cases hl : lookA x reps with
  | none =>
    refine ⟨.slice none 0 0, [], false, fun W c hW => ?_, .inr ⟨rfl, rfl, rfl⟩⟩
    refine gm_look_none law_int Try.underlying108 (hz W) (hW.trans hb) hok (key_int (by omega) (by omega)) (fun e he hx => ?_) c
    obtain ⟨j, hj, e2⟩ := List.getElem_of_mem he
    obtain ⟨q, hq, e3⟩ := hkey j e (by rw [List.getElem?_eq_getElem hj, e2])
    rw [hx] at e3
    have e4 : x = q.1 := by injection e3
    exact lookA_none.1 hl (List.mem_map.2 ⟨q, List.mem_of_getElem? hq, e4.symm⟩)
  | some r =>
    obtain ⟨j, hj, e2⟩ := List.getElem_of_mem (lookA_mem hl)
    obtain ⟨e, he, hpv⟩ := hv j (x, r) (by rw [List.getElem?_eq_getElem hj, e2])
    obtain ⟨q, hq, e3⟩ := hkey j e he
    have hqx : q = (x, r) := by
      rw [List.getElem?_eq_getElem hj, e2] at hq
      exact (Option.some.inj hq).symm
    rw [hqx] at e3
    have hd : es.toList.Pairwise (fun a b => a.key ≠ b.key) := by
      have h5 : (reps.map (fun q => Value.int .i64 q.1)).Pairwise (· ≠ ·) := by
        have := List.nodup_iff_pairwise_ne.1 hnd
        rw [List.pairwise_map] at this ⊢
        exact this.imp (fun hne e => hne (by injection e))
      rw [← hk] at h5
      exact List.pairwise_map.1 h5
    exact ⟨e.val, r, true, fun W c hW => gm_look_some law_int Try.underlying108 (hW.trans hb) hok hd (key_int (by omega) (by omega)) he e3 c, .inl ⟨rfl, rfl, hpv⟩⟩
end Go.Proofs.Ytpkgckccfanchaa.M

namespace Go.Proofs.Ytpkgckccfanchaa.M
open Go.RowKit Go.Proofs.YtpkgckccfanchaaW.PrintWords Go.Proofs.YtpkgckccfanchaaW.PrintLast Go.Proofs.YtpkgckccfanchaaW.PrintMore
open Sims
open Go.ChangeMaps (setBlock)
set_option linter.unusedVariables false
set_option linter.unusedSimpArgs false
variable {n : Nat} {ok ok' : Nat → Prop} {w : World} {v u : Value} {p q : List Int}
theorem LvX.cell {B : Nat} {PB : Nat → Prop} {c : LC} {pt : Int} {gens : List (List Int)} {orb : List Int} {reps : List (Int × List Int)} {todo : List (Int × Int)} (h : LvX w B PB c pt gens orb reps todo) :
    w.cell? ⟨c.lb, 0, none⟩ = some (.int .i64 pt) ∧ w.cell? ⟨c.lb, 1, none⟩ = some c.gv ∧ w.cell? ⟨c.lb, 2, none⟩ = some c.ov ∧ w.cell? ⟨c.lb, 3, none⟩ = some (.map (some c.rb)) ∧ w.cell? ⟨c.lb, 4, none⟩ = some (.map (some c.tb)) := by
  simp [World.cell?, h.cells]
theorem PV.at_ {ad : Addr} (h : Kd.C (Kd.int .i64) w (some ad) p.length p) {x : Int} (h0 : 0 ≤ x) (h1 : x < p.length) : w.cell? (ad.add x.toNat) = some (.int .i64 (rdl p x)) := by
  refine PV.cells h x.toNat _ ?_
  simp [nums, rdl, List.getElem?_eq_getElem (show x.toNat < p.length by omega), List.getD_eq_getElem?_getD]
set_option maxHeartbeats 1000000 in
set_option maxRecDepth 100000 in
theorem divide_yes {B : Nat} {PB : Nat → Prop} {c : LC} {l : Lv} (hn : 0 < n) (hn' : n ≤ 512) (hl : LvAt w B PB c l) (ho : LvOk n l) (hv : PV w ok v p) (hp : IsP n p) {r : List Int} (hr : lookA (rdl p l.point) l.reps = some r) :
    Calls Try.prog 111 #[c.ptr, v] w fun e w' => ∃ u, e = .returned (.tuple #[u, .bool true]) ∧ PN w.heap.size w' u (thenL p (backL r)) ∧ Below w.heap.size w w' := by
  have hx := hp.rd ho.pt.1 ho.pt.2
  obtain ⟨uu, r', f, hlook, hcase⟩ := reps_look hl.reps ho.rng hn' ho.nd hx.1 hx.2
  obtain ⟨A, cc, rfl, hcc, hC⟩ := PV.read hv
  obtain ⟨ad, rfl⟩ := PV.addr hC (by rw [hp.len]; exact hn)
  have hpl := hp.len
  have hi0 : 0 ≤ l.point := ho.pt.1
  have hi1 : l.point < (p.length : Int) := by rw [hpl]; exact ho.pt.2
  have hcell := PV.at_ hC hi0 hi1
  obtain ⟨hc0, -, -, hc3, -⟩ := hl.cell
  rcases hcase with ⟨rfl, h2, hu⟩ | ⟨rfl, h2, _⟩
  · rw [hr] at h2
    obtain rfl : r = r' := Option.some.inj h2
    have hl1 : ∀ m, (Instr.lookup 108 (.map (some c.rb)) (.int .i64 (rdl p l.point)) true).run Try.prog (w.drewN m) = .ok (.tuple #[uu, .bool true]) (w.drewN m) := fun m => hlook (w.drewN m) true rfl
    have hrp : IsP n r := by
      have := (ho.rep _ (List.mem_map.2 ⟨_, lookA_mem hr, rfl⟩)).1
      unfold repL at this
      rwa [hr] at this
    have HRP := Aside0.mk hrp
    have HU := Aside0.mk hu
    have HV := Aside0.mk hv
    have HP := Aside0.mk hp
    have HN := Aside0.mk hn
    clear hlook h2 hrp hr hu hv hp hn hC hl hpl hx ho hcc
    unfold LC.ptr
    go_enter Try.func111, Try.ntmps111
    go_wp2_with (fail)
    go_quiet (fail)
    go_wp2_with (first | (go_at_call 108; (with_reducible refine (back_pv HN.out hn' (Kd.V_drewN HU.out nq) HRP.out).mono ?_); rintro e w1 ⟨rb, rfl, hRB, hb1⟩; have HRB := Aside0.mk hRB; have HB1 := Aside0.mk hb1; clear hRB hb1) | (go_at_call 78; (with_reducible refine (then_pv HN.out hn' (PV.below (Kd.V_drewN HV.out nq) HB1.out) HRB.out.any HP.out (backL_isP HRP.out)).mono ?_); rintro e w2 ⟨rt, rfl, hRT, hb2⟩; have HRT := Aside0.mk hRT; have HB2 := Aside0.mk hb2; clear hRT hb2))
    go_ret2
    have hs : w.heap.size ≤ w1.heap.size := HB1.out.size
    exact ⟨rt, rfl, HRT.out.lower hs, below_then (below_then (pw_below_drewN (Below.refl _ _) nq) (Nat.le_refl _) HB1.out) hs HB2.out⟩
  · rw [hr] at h2
    cases h2
set_option maxHeartbeats 1000000 in
set_option maxRecDepth 100000 in
theorem divide_no {B : Nat} {PB : Nat → Prop} {c : LC} {l : Lv} (hn : 0 < n) (hn' : n ≤ 512) (hl : LvAt w B PB c l) (ho : LvOk n l) (hv : PV w ok v p) (hp : IsP n p) (hr : lookA (rdl p l.point) l.reps = none) :
    Calls Try.prog 111 #[c.ptr, v] w fun e w' => e = .returned (.tuple #[v, .bool false]) ∧ Below w.heap.size w w' := by
  have hx := hp.rd ho.pt.1 ho.pt.2
  obtain ⟨uu, r', f, hlook, hcase⟩ := reps_look hl.reps ho.rng hn' ho.nd hx.1 hx.2
  obtain ⟨A, cc, rfl, hcc, hC⟩ := PV.read hv
  obtain ⟨ad, rfl⟩ := PV.addr hC (by rw [hp.len]; exact hn)
  have hpl := hp.len
  have hi0 : 0 ≤ l.point := ho.pt.1
  have hi1 : l.point < (p.length : Int) := by rw [hpl]; exact ho.pt.2
  have hcell := PV.at_ hC hi0 hi1
  obtain ⟨hc0, -, -, hc3, -⟩ := hl.cell
  rcases hcase with ⟨rfl, h2, hu⟩ | ⟨rfl, h2, _⟩
  · rw [hr] at h2
    cases h2
  · have hl1 : ∀ m, (Instr.lookup 108 (.map (some c.rb)) (.int .i64 (rdl p l.point)) true).run Try.prog (w.drewN m) = .ok (.tuple #[uu, .bool false]) (w.drewN m) := fun m => hlook (w.drewN m) true rfl
    clear hlook h2 hr hv hp hn hC hl hpl hx ho hcc
    unfold LC.ptr
    go_enter Try.func111, Try.ntmps111
    go_wp2_with (fail)
    go_quiet (fail)
    go_wp2_with (fail)
    go_ret2
    exact ⟨rfl, pw_below_drewN (Below.refl _ _) nq⟩
end Go.Proofs.Ytpkgckccfanchaa.M

namespace Go.Proofs.Ytpkgckccfanchaa.M
open Go.RowKit Go.Proofs.YtpkgckccfanchaaW.PrintWords Go.Proofs.YtpkgckccfanchaaW.PrintLast Go.Proofs.YtpkgckccfanchaaW.PrintMore
open Sims
open Go.ChangeMaps (setBlock)
set_option linter.unusedVariables false
set_option linter.unusedSimpArgs false
variable {w w0 w1 : World} {B : Nat} {PB : Nat → Prop} {c : LC} {pt : Int} {gens : List (List Int)} {orb : List Int} {reps : List (Int × List Int)} {todo : List (Int × Int)} {v v' : Value} {p : List Int}
structure Sep (c : LC) : Prop where
  gl : c.gv.ownBlock ≠ some c.lb
  ol : c.ov.ownBlock ≠ some c.lb
  go : ∀ b, c.gv.ownBlock = some b → c.ov.ownBlock ≠ some b
  lr : c.lb ≠ c.rb
  lt : c.lb ≠ c.tb
  gr : c.gv.ownBlock ≠ some c.rb
  gt : c.gv.ownBlock ≠ some c.tb
  or_ : c.ov.ownBlock ≠ some c.rb
  ot : c.ov.ownBlock ≠ some c.tb
  rt : c.rb ≠ c.tb
theorem LvX.sep (h : LvX w B PB c pt gens orb reps todo) : Sep c := by
  have hl := h.cells
  obtain ⟨es, ck, hr, _⟩ := h.reps
  obtain ⟨et, ct, ht, _⟩ := h.todo
  obtain ⟨gs, hgo, _⟩ := h.gens
  have kg := fun b (hb : c.gv.ownBlock = some b) => (own_kind hgo hb).2
  have ko := fun b (hb : c.ov.ownBlock = some b) => (own_kind h.orb hb).2
  refine ⟨fun e => ?_, fun e => ?_, fun b e e' => ?_, fun e => ?_, fun e => ?_, fun e => ?_, fun e => ?_, fun e => ?_, fun e => ?_, h.ne⟩
  · obtain ⟨cs, h1⟩ := kg _ e
    rw [hl] at h1; simp at h1
  · obtain ⟨cs, h1⟩ := ko _ e
    rw [hl] at h1; simp at h1
  · obtain ⟨cs, h1⟩ := kg _ e
    obtain ⟨cs', h2⟩ := ko _ e'
    rw [h1] at h2; simp at h2
  · rw [e, hr] at hl; simp at hl
  · rw [e, ht] at hl; simp at hl
  · obtain ⟨cs, h1⟩ := kg _ e
    rw [hr] at h1; simp at h1
  · obtain ⟨cs, h1⟩ := kg _ e
    rw [ht] at h1; simp at h1
  · obtain ⟨cs, h1⟩ := ko _ e
    rw [hr] at h1; simp at h1
  · obtain ⟨cs, h1⟩ := ko _ e
    rw [ht] at h1; simp at h1
theorem cells_set {w : World} {b : Nat} {cs : Array Value} {t : TypeId} (h : w.heap[b]? = some (.cells cs t (0, 0))) (i : Nat) (v : Value) : (w.setCell ⟨b, i, none⟩ v).heap[b]? = some (.cells (cs.setIfInBounds i v) t (0, 0)) := by
  obtain ⟨hlt, e⟩ := Array.getElem?_eq_some_iff.1 h
  simp [World.setCell, Array.getElem?_modify, h]
theorem lvx_gens (h : LvX w B PB c pt gens orb reps todo) (hb : ∀ b, PB b → b < w.heap.size) (hB : B ≤ w.heap.size) (hv : PV w PB v p) {gs : List Value} (hgl : gs.length = gens.length) (hgs : ∀ (j : Nat) q, gens[j]? = some q → ∃ u, gs[j]? = some u ∧ PV w PB u q)
    (ho : w1.ownsRow B 28 1 v' (gens.length + 1) (gs ++ [v])) (hg : (w.alloc (.cells #[v] 28)).grownBy w1 c.gv.ownBlock) (hat : v'.ownBlock = c.gv.ownBlock ∨ v'.ownBlock = some (w.heap.size + 1)) :
    LvX (w1.setCell ⟨c.lb, 1, none⟩ v') B PB { c with gv := v' } pt (gens ++ [p]) orb reps todo ∧ Chg c.Blk w (w1.setCell ⟨c.lb, 1, none⟩ v') ∧ ∀ b, LC.Blk { c with gv := v' } b → c.Blk b ∨ w.heap.size ≤ b := by
  have s := h.sep
  have hlt : ∀ b, c.Blk b → b < w.heap.size := fun b hb => h.lt hb
  have h1 : ∀ b, b < w.heap.size → c.gv.ownBlock ≠ some b → w1.heap[b]? = w.heap[b]? := fun b hb hne =>
    (hg.block b (by rw [World.size_alloc]; omega) (fun e => hne e.symm)).trans (heap_alloc_old _ _ hb)
  have hs1 : w.heap.size + 1 ≤ w1.heap.size := by have := hg.size; rwa [World.size_alloc] at this
  have h2 : ∀ b, b < w.heap.size → c.gv.ownBlock ≠ some b → b ≠ c.lb → (w1.setCell ⟨c.lb, 1, none⟩ v').heap[b]? = w.heap[b]? := fun b hb hne hl => (Below.heap_setCell w1 _ _ b hl).trans (h1 b hb hne)
  have hlb := hlt c.lb (.inl rfl)
  have hvne : v'.ownBlock ≠ some c.lb := by
    rcases hat with e | e
    · rw [e]; exact s.gl
    · rw [e]; intro e'; have := Option.some.inj e'; omega
  have hnew : ∀ b, LC.Blk { c with gv := v' } b → c.Blk b ∨ w.heap.size ≤ b := by
    rintro b (e | e | e | e | e)
    · exact .inl (.inl e)
    · rcases hat with e' | e'
      · exact .inl (.inr (.inl (e'.symm.trans e)))
      · have e2 : some (w.heap.size + 1) = some b := e'.symm.trans e
        cases e2
        exact .inr (Nat.le_succ _)
    · exact .inl (.inr (.inr (.inl e)))
    · exact .inl (.inr (.inr (.inr (.inl e))))
    · exact .inl (.inr (.inr (.inr (.inr e))))
  have hPB : ∀ b, PB b → b < w.heap.size → (w1.setCell ⟨c.lb, 1, none⟩ v').heap[b]? = w.heap[b]? := fun b hp hlt' => h2 b hlt' (fun e => h.free b (.inr (.inl e)) hp) (fun e => h.free b (.inl e) hp)
  refine ⟨⟨?_, ⟨gs ++ [v], ?_, fun j q hj => ?_⟩, own_same h.orb (fun b hb => h2 b (hlt b (.inr (.inr (.inl hb)))) (fun e => s.go b e hb) (fun e => s.ol (by rw [hb, e]))), h.reps.keep (h2 _ (hlt _ (.inr (.inr (.inr (.inl rfl))))) s.gr (fun e => s.lr e.symm)) hPB, ?_, h.base, fun b hb' hp => ?_, h.ne⟩, ?_, hnew⟩
  · have := cells_set ((h1 c.lb hlb s.gl).trans h.cells) 1 v'
    rw [this]
    rfl
  · rw [List.length_append, List.length_singleton]
    exact own_same ho (fun b hb => Below.heap_setCell w1 _ _ b (fun e => hvne (by rw [hb]; exact congrArg some e)))
  · rcases Nat.lt_or_ge j gens.length with hj' | hj'
    · rw [List.getElem?_append_left hj'] at hj
      obtain ⟨u, hu, hpv⟩ := hgs j q hj
      exact ⟨u, by rw [List.getElem?_append_left (by omega)]; exact hu, Kd.V_step hpv hPB⟩
    · rw [List.getElem?_append_right hj'] at hj
      have hj0 : j - gens.length = 0 := by
        have := (List.getElem?_eq_some_iff.1 hj).1
        simp at this
        omega
      rw [hj0] at hj
      have e : p = q := by simpa using hj
      subst e
      refine ⟨v, ?_, Kd.V_step hv hPB⟩
      rw [List.getElem?_append_right (by omega), show j - gs.length = 0 from by omega]
      rfl
  · obtain ⟨et, ct, e1, e2⟩ := h.todo
    exact ⟨et, ct, (h2 _ (hlt _ (.inr (.inr (.inr (.inr rfl))))) s.gt (fun e => s.lt e.symm)).trans e1, e2⟩
  · rcases hnew b hb' with h3 | h3
    · exact h.free b h3 hp
    · have := hb b hp; omega
  · refine ⟨?_, ?_, ?_, ?_, fun b hb' hn => h2 b hb' (fun e => hn (.inr (.inl e))) (fun e => hn (.inl e))⟩
    · exact hg.os
    · exact hg.tape
    · exact hg.output
    · show w.heap.size ≤ (w1.setCell _ _).heap.size
      simp [World.setCell]; omega
theorem lvx_orb (h : LvX w B PB c pt gens orb reps todo) (hb : ∀ b, PB b → b < w.heap.size) (hB : B ≤ w.heap.size) {x : Int}
    (ho : w1.ownsRow B 3 1 v' (orb.length + 1) (nums .i64 orb ++ [.int .i64 x])) (hg : (w.alloc (.cells #[.int .i64 x] 3)).grownBy w1 c.ov.ownBlock) (hat : v'.ownBlock = c.ov.ownBlock ∨ v'.ownBlock = some (w.heap.size + 1)) :
    LvX (w1.setCell ⟨c.lb, 2, none⟩ v') B PB { c with ov := v' } pt gens (orb ++ [x]) reps todo ∧ Chg c.Blk w (w1.setCell ⟨c.lb, 2, none⟩ v') ∧ ∀ b, LC.Blk { c with ov := v' } b → c.Blk b ∨ w.heap.size ≤ b := by
  have s := h.sep
  have hlt : ∀ b, c.Blk b → b < w.heap.size := fun b hb => h.lt hb
  have h1 : ∀ b, b < w.heap.size → c.ov.ownBlock ≠ some b → w1.heap[b]? = w.heap[b]? := fun b hb hne =>
    (hg.block b (by rw [World.size_alloc]; omega) (fun e => hne e.symm)).trans (heap_alloc_old _ _ hb)
  have hs1 : w.heap.size + 1 ≤ w1.heap.size := by have := hg.size; rwa [World.size_alloc] at this
  have h2 : ∀ b, b < w.heap.size → c.ov.ownBlock ≠ some b → b ≠ c.lb → (w1.setCell ⟨c.lb, 2, none⟩ v').heap[b]? = w.heap[b]? := fun b hb hne hl => (Below.heap_setCell w1 _ _ b hl).trans (h1 b hb hne)
  have hlb := hlt c.lb (.inl rfl)
  have hvne : v'.ownBlock ≠ some c.lb := by
    rcases hat with e | e
    · rw [e]; exact s.ol
    · rw [e]; intro e'; have := Option.some.inj e'; omega
  have hnew : ∀ b, LC.Blk { c with ov := v' } b → c.Blk b ∨ w.heap.size ≤ b := by
    rintro b (e | e | e | e | e)
    · exact .inl (.inl e)
    · exact .inl (.inr (.inl e))
    · rcases hat with e' | e'
      · exact .inl (.inr (.inr (.inl (e'.symm.trans e))))
      · have e2 : some (w.heap.size + 1) = some b := e'.symm.trans e
        cases e2
        exact .inr (Nat.le_succ _)
    · exact .inl (.inr (.inr (.inr (.inl e))))
    · exact .inl (.inr (.inr (.inr (.inr e))))
  have hPB : ∀ b, PB b → b < w.heap.size → (w1.setCell ⟨c.lb, 2, none⟩ v').heap[b]? = w.heap[b]? := fun b hp hlt' => h2 b hlt' (fun e => h.free b (.inr (.inr (.inl e))) hp) (fun e => h.free b (.inl e) hp)
  refine ⟨⟨?_, h.gens.keep (fun b hb => h2 b (hlt b (.inr (.inl hb))) (fun e => s.go b hb e) (fun e => s.gl (by rw [hb, e]))) hPB, ?_, h.reps.keep (h2 _ (hlt _ (.inr (.inr (.inr (.inl rfl))))) s.or_ (fun e => s.lr e.symm)) hPB, ?_, h.base, fun b hb' hp => ?_, h.ne⟩, ?_, hnew⟩
  · have := cells_set ((h1 c.lb hlb s.ol).trans h.cells) 2 v'
    rw [this]
    rfl
  · rw [List.length_append, List.length_singleton, nums_append]
    exact own_same ho (fun b hb => Below.heap_setCell w1 _ _ b (fun e => hvne (by rw [hb]; exact congrArg some e)))
  · obtain ⟨et, ct, e1, e2⟩ := h.todo
    exact ⟨et, ct, (h2 _ (hlt _ (.inr (.inr (.inr (.inr rfl))))) s.ot (fun e => s.lt e.symm)).trans e1, e2⟩
  · rcases hnew b hb' with h3 | h3
    · exact h.free b h3 hp
    · have := hb b hp; omega
  · refine ⟨?_, ?_, ?_, ?_, fun b hb' hn => h2 b hb' (fun e => hn (.inr (.inr (.inl e)))) (fun e => hn (.inl e))⟩
    · exact hg.os
    · exact hg.tape
    · exact hg.output
    · show w.heap.size ≤ (w1.setCell _ _).heap.size
      simp [World.setCell]; omega
theorem pair_keys {et : Array MapEntry} {todo : List (Int × Int)} (he : et.toList.map (fun x => (x.key, x.val)) = todo.map (fun q => (Value.agg #[.int .i64 q.1, .int .i64 q.2], Value.bool true))) :
    et.toList.length = todo.length ∧ (∀ (j : Nat) e, et.toList[j]? = some e → ∃ q, todo[j]? = some q ∧ e.key = .agg #[.int .i64 q.1, .int .i64 q.2] ∧ e.val = .bool true) ∧ ∀ (j : Nat) q, todo[j]? = some q → ∃ e, et.toList[j]? = some e ∧ e.key = .agg #[.int .i64 q.1, .int .i64 q.2] ∧ e.val = .bool true := by
  have hl : et.toList.length = todo.length := by have := congrArg List.length he; simpa using this
  refine ⟨hl, fun j e h => ?_, fun j q h => ?_⟩
  · have h2 : (et.toList.map (fun x => (x.key, x.val)))[j]? = some (e.key, e.val) := by rw [List.getElem?_map, h]; rfl
    rw [he, List.getElem?_map] at h2
    obtain ⟨q, hq, e2⟩ := Option.map_eq_some_iff.1 h2
    simp only [Prod.mk.injEq] at e2
    exact ⟨q, hq, e2.1.symm, e2.2.symm⟩
  · have h2 : (todo.map (fun q => (Value.agg #[.int .i64 q.1, .int .i64 q.2], Value.bool true)))[j]? = some (.agg #[.int .i64 q.1, .int .i64 q.2], .bool true) := by rw [List.getElem?_map, h]; rfl
    rw [← he, List.getElem?_map] at h2
    obtain ⟨e, hq, e2⟩ := Option.map_eq_some_iff.1 h2
    simp only [Prod.mk.injEq] at e2
    exact ⟨e, hq, e2.1, e2.2⟩
def Small (t : List (Int × Int)) : Prop := ∀ q ∈ t, 0 ≤ q.1 ∧ q.1 ≤ 1000000000000 ∧ 0 ≤ q.2 ∧ q.2 ≤ 1000000000000
theorem pairs_ok {et : Array MapEntry} {todo : List (Int × Int)} (he : et.toList.map (fun x => (x.key, x.val)) = todo.map (fun q => (Value.agg #[.int .i64 q.1, .int .i64 q.2], Value.bool true))) (hs : Small todo) : KeysOk Try.prog 139 et := by
  intro e hm
  obtain ⟨j, hj, e2⟩ := List.getElem_of_mem hm
  obtain ⟨q, hq, hk, _⟩ := (pair_keys he).2.1 j e (by rw [List.getElem?_eq_getElem hj, e2])
  have := hs q (List.mem_of_getElem? hq)
  rw [hk]
  exact key_pair (by omega) (by omega) (by omega) (by omega)
theorem pairs_distinct {et : Array MapEntry} {todo : List (Int × Int)} (he : et.toList.map (fun x => (x.key, x.val)) = todo.map (fun q => (Value.agg #[.int .i64 q.1, .int .i64 q.2], Value.bool true))) (hn : todo.Nodup) : et.toList.Pairwise (fun a b => a.key ≠ b.key) := by
  refine List.pairwise_iff_getElem.2 (fun i j hi hj hij e => ?_)
  obtain ⟨q, hq, hk, _⟩ := (pair_keys he).2.1 i _ (List.getElem?_eq_getElem hi)
  obtain ⟨r, hr, hk', _⟩ := (pair_keys he).2.1 j _ (List.getElem?_eq_getElem hj)
  rw [hk, hk'] at e
  simp only [Value.agg.injEq, Array.mk.injEq, List.cons.injEq, Value.int.injEq, true_and, and_true] at e
  have e3 : q = r := Prod.ext e.1 e.2
  obtain ⟨h1, h2⟩ := List.getElem?_eq_some_iff.1 hq
  obtain ⟨h3, h4⟩ := List.getElem?_eq_some_iff.1 hr
  have := nodup_inj hn h1 h3 (by rw [h2, h4, e3])
  omega
theorem pair_key_inj {a b x y : Int} (e : Value.agg #[.int .i64 a, .int .i64 b] = Value.agg #[.int .i64 x, .int .i64 y]) : (a, b) = (x, y) := by
  simp only [Value.agg.injEq, Array.mk.injEq, List.cons.injEq, Value.int.injEq, true_and, and_true] at e
  exact Prod.ext e.1 e.2
theorem setBlock_at (w : World) (b : Nat) (o : Obj) (h : b < w.heap.size) : (setBlock w b o).heap[b]? = some o := by
  simp [setBlock, h]
theorem todo_put {b : Nat} (h : TodoAt w b todo) (hs : Small todo) (hn : todo.Nodup) {k : Int × Int} (hk : 0 ≤ k.1 ∧ k.1 ≤ 1000000000000 ∧ 0 ≤ k.2 ∧ k.2 ≤ 1000000000000) :
    ∃ w1, (Instr.mapUpdate 109 (.map (some b)) (.agg #[.int .i64 k.1, .int .i64 k.2]) (.bool true)).run Try.prog w = .ok () w1 ∧ TodoAt w1 b (setT todo k) ∧ Chg (fun i => i = b) w w1 := by
  obtain ⟨et, ct, h1, h2⟩ := h
  obtain ⟨l, hl⟩ := key_pair (x := k.1) (y := k.2) (by omega) (by omega) (by omega) (by omega)
  have hlt := lt_of_some h1
  unfold setT
  split
  · rename_i hm
    obtain ⟨j, hj, e⟩ := List.getElem_of_mem hm
    obtain ⟨e0, he0, hk0, hv0⟩ := (pair_keys h2).2.2 j k (by rw [List.getElem?_eq_getElem hj, e])
    refine ⟨_, gm_store_old law_pair Try.underlying109 h1 (pairs_ok h2 hs) (pairs_distinct h2 hn) hl he0 hk0 (.bool true), ⟨_, ct, setBlock_at w b _ hlt, ?_⟩, Chg.block w b _⟩
    rw [← h2]
    refine List.ext_getElem (by simp) (fun i h3 h4 => ?_)
    simp only [List.getElem_map, Array.getElem_toList, Array.getElem_modify]
    split
    · rename_i eij
      subst eij
      have : et.toList[j]? = some e0 := he0
      have e5 : et[j]'(by simpa using h4) = e0 := by
        have := (List.getElem?_eq_some_iff.1 he0).2
        simpa using this
      rw [e5, hk0, hv0]
    · rfl
  · rename_i hm
    refine ⟨_, gm_store_new law_pair Try.underlying109 h1 (pairs_ok h2 hs) hl (fun e he hke => ?_) (.bool true), ⟨_, ct + 1, setBlock_at w b _ hlt, ?_⟩, Chg.block w b _⟩
    · obtain ⟨j, hj, e2⟩ := List.getElem_of_mem he
      obtain ⟨q, hq, hkq, _⟩ := (pair_keys h2).2.1 j e (by rw [List.getElem?_eq_getElem hj, e2])
      rw [hkq] at hke
      have : q = k := pair_key_inj hke
      exact hm (this ▸ List.mem_of_getElem? hq)
    · rw [Array.toList_push, List.map_append, h2, List.map_append]
      rfl
theorem todo_look {b : Nat} (h : TodoAt w b todo) (hs : Small todo) (hn : todo.Nodup) {k : Int × Int} (hk : 0 ≤ k.1 ∧ k.1 ≤ 1000000000000 ∧ 0 ≤ k.2 ∧ k.2 ≤ 1000000000000) :
    ∀ W : World, W.heap[b]? = w.heap[b]? → (Instr.lookup 109 (.map (some b)) (.agg #[.int .i64 k.1, .int .i64 k.2]) false).run Try.prog W = .ok (.bool (decide (k ∈ todo))) W := by
  intro W hW
  obtain ⟨et, ct, h1, h2⟩ := h
  obtain ⟨l, hl⟩ := key_pair (x := k.1) (y := k.2) (by omega) (by omega) (by omega) (by omega)
  have hz : (zeroValue 4).run Try.prog W = .ok (.bool false) W := by kernel_rfl
  by_cases hm : k ∈ todo
  · obtain ⟨j, hj, e⟩ := List.getElem_of_mem hm
    obtain ⟨e0, he0, hk0, hv0⟩ := (pair_keys h2).2.2 j k (by rw [List.getElem?_eq_getElem hj, e])
    rw [gm_look_some law_pair Try.underlying109 (hW.trans h1) (pairs_ok h2 hs) (pairs_distinct h2 hn) hl he0 hk0 false, hv0, decide_eq_true hm]
    rfl
  · rw [gm_look_none law_pair Try.underlying109 hz (hW.trans h1) (pairs_ok h2 hs) hl (fun e he hke => by
      obtain ⟨j, hj, e2⟩ := List.getElem_of_mem he
      obtain ⟨q, hq, hkq, _⟩ := (pair_keys h2).2.1 j e (by rw [List.getElem?_eq_getElem hj, e2])
      rw [hkq] at hke
      have : q = k := pair_key_inj hke
      exact hm (this ▸ List.mem_of_getElem? hq)) false, decide_eq_false hm]
    rfl
theorem erase_at {α : Type} [BEq α] [LawfulBEq α] : ∀ {l : List α} {j : Nat} {k : α}, l.Nodup → l[j]? = some k → l.erase k = l.eraseIdx j
  | [], j, k, _, h => by simp at h
  | x :: t, 0, k, _, h => by
    have e : x = k := by simpa using h
    subst e
    simp
  | x :: t, j + 1, k, hn, h => by
    obtain ⟨hx, ht⟩ := List.nodup_cons.1 hn
    have hj : t[j]? = some k := by simpa using h
    have hne : x ≠ k := fun e => hx (e ▸ List.mem_of_getElem? hj)
    rw [List.erase_cons_tail (by simpa using hne), erase_at ht hj]
    rfl
theorem todo_drop {b : Nat} (h : TodoAt w b todo) (hs : Small todo) (hn : todo.Nodup) {k : Int × Int} (hk : 0 ≤ k.1 ∧ k.1 ≤ 1000000000000 ∧ 0 ≤ k.2 ∧ k.2 ≤ 1000000000000) (hm : k ∈ todo) (ty : TypeId) :
    ∃ w1, (Builtin.delete_ #[109, 139] ty #[.map (some b), .agg #[.int .i64 k.1, .int .i64 k.2]]).run Try.prog w = .ok (.tuple #[]) w1 ∧ TodoAt w1 b (todo.erase k) ∧ Chg (fun i => i = b) w w1 := by
  obtain ⟨et, ct, h1, h2⟩ := h
  obtain ⟨l, hl⟩ := key_pair (x := k.1) (y := k.2) (by omega) (by omega) (by omega) (by omega)
  have hlt := lt_of_some h1
  obtain ⟨j, hj, e⟩ := List.getElem_of_mem hm
  have hjk : todo[j]? = some k := by rw [List.getElem?_eq_getElem hj, e]
  obtain ⟨e0, he0, hk0, hv0⟩ := (pair_keys h2).2.2 j k hjk
  refine ⟨_, gm_delete law_pair Try.underlying109 h1 (pairs_ok h2 hs) (pairs_distinct h2 hn) hl he0 hk0 ty, ⟨_, ct, setBlock_at w b _ hlt, ?_⟩, Chg.block w b _⟩
  have e5 : (et.eraseIdxIfInBounds j).toList = et.toList.eraseIdx j := by simp
  rw [erase_at hn hjk, e5, ChangeMaps.map_eraseIdx, ChangeMaps.map_eraseIdx, h2]
theorem reps_put {n b : Nat} (h : RepsAt w PB b reps) (hr : ∀ x : Int, x ∈ reps.map (·.1) → 0 ≤ x ∧ x < n) (hn : n ≤ 512) {x : Int} (h0 : 0 ≤ x) (h1 : x < n) (hno : x ∉ reps.map (·.1)) {v : Value} {r : List Int} (hv : PV w PB v r) (hb : ¬ PB b) :
    ∃ w1, (Instr.mapUpdate 108 (.map (some b)) (.int .i64 x) v).run Try.prog w = .ok () w1 ∧ RepsAt w1 PB b (reps ++ [(x, r)]) ∧ Chg (fun i => i = b) w w1 := by
  obtain ⟨es, ck, h1', h2, h3⟩ := h
  have hlt := lt_of_some h1'
  have hkey : ∀ (j : Nat) e, es.toList[j]? = some e → ∃ q, reps[j]? = some q ∧ e.key = .int .i64 q.1 := by
    intro j e he
    have h2' : (es.toList.map (·.key))[j]? = some e.key := by rw [List.getElem?_map, he]; rfl
    rw [h2, List.getElem?_map] at h2'
    obtain ⟨q, hq, e2⟩ := Option.map_eq_some_iff.1 h2'
    exact ⟨q, hq, e2.symm⟩
  have hok : KeysOk Try.prog 3 es := fun e he => by
    obtain ⟨j, hj, e2⟩ := List.getElem_of_mem he
    obtain ⟨q, hq, e3⟩ := hkey j e (by rw [List.getElem?_eq_getElem hj, e2])
    have := hr q.1 (List.mem_map.2 ⟨q, List.mem_of_getElem? hq, rfl⟩)
    exact ⟨_, by rw [e3]; exact key_int (by omega) (by omega)⟩
  have hlen : es.toList.length = reps.length := by have := congrArg List.length h2; simpa using this
  have hkeep : ∀ o : Obj, ∀ i, PB i → i < w.heap.size → (setBlock w b o).heap[i]? = w.heap[i]? := fun o i hp hi => (Chg.block w b o).keep i hi (fun e => hb (e ▸ hp))
  refine ⟨_, gm_store_new law_int Try.underlying108 h1' hok (key_int (by omega) (by omega)) (fun e he hx => ?_) v, ⟨_, ck + 1, setBlock_at w b _ hlt, ?_, fun j q hq => ?_⟩, Chg.block w b _⟩
  · obtain ⟨j, hj, e2⟩ := List.getElem_of_mem he
    obtain ⟨q, hq, e3⟩ := hkey j e (by rw [List.getElem?_eq_getElem hj, e2])
    rw [hx] at e3
    have e4 : x = q.1 := by injection e3
    exact hno (List.mem_map.2 ⟨q, List.mem_of_getElem? hq, e4.symm⟩)
  · rw [Array.toList_push, List.map_append, h2, List.map_append]
    rfl
  · rw [Array.toList_push]
    rcases Nat.lt_or_ge j reps.length with hj | hj
    · rw [List.getElem?_append_left hj] at hq
      obtain ⟨e, he, hpv⟩ := h3 j q hq
      exact ⟨e, by rw [List.getElem?_append_left (by omega)]; exact he, Kd.V_step hpv (hkeep _)⟩
    · rw [List.getElem?_append_right hj] at hq
      have hj0 : j - reps.length = 0 := by
        have := (List.getElem?_eq_some_iff.1 hq).1
        simp at this
        omega
      rw [hj0] at hq
      have e : (x, r) = q := by simpa using hq
      subst e
      refine ⟨⟨.int .i64 x, v, ck⟩, ?_, Kd.V_step hv (hkeep _)⟩
      rw [List.getElem?_append_right (by omega), show j - es.toList.length = 0 from by omega]
      rfl
theorem lvx_todo (h : LvX w B PB c pt gens orb reps todo) {todo' : List (Int × Int)} (ht : TodoAt w1 c.tb todo') (hc : Chg (fun i => i = c.tb) w w1) : LvX w1 B PB c pt gens orb reps todo' := by
  have s := h.sep
  have hk : ∀ b, b < w.heap.size → b ≠ c.tb → w1.heap[b]? = w.heap[b]? := fun b hb hne => hc.keep b hb hne
  have hPB : ∀ b, PB b → b < w.heap.size → w1.heap[b]? = w.heap[b]? := fun b hp hlt => hk b hlt (fun e => h.free b (.inr (.inr (.inr (.inr e)))) hp)
  exact ⟨(hk _ (h.lt (.inl rfl)) s.lt).trans h.cells, h.gens.keep (fun b hb => hk b (h.lt (.inr (.inl hb))) (fun e => s.gt (by rw [hb, e]))) hPB, own_same h.orb (fun b hb => hk b (h.lt (.inr (.inr (.inl hb)))) (fun e => s.ot (by rw [hb, e]))),
    h.reps.keep (hk _ (h.lt (.inr (.inr (.inr (.inl rfl))))) s.rt) hPB, ht, h.base, h.free, h.ne⟩
theorem lvx_reps (h : LvX w B PB c pt gens orb reps todo) {reps' : List (Int × List Int)} (hr : RepsAt w1 PB c.rb reps') (hc : Chg (fun i => i = c.rb) w w1) : LvX w1 B PB c pt gens orb reps' todo := by
  have s := h.sep
  have hk : ∀ b, b < w.heap.size → b ≠ c.rb → w1.heap[b]? = w.heap[b]? := fun b hb hne => hc.keep b hb hne
  have hPB : ∀ b, PB b → b < w.heap.size → w1.heap[b]? = w.heap[b]? := fun b hp hlt => hk b hlt (fun e => h.free b (.inr (.inr (.inr (.inl e)))) hp)
  refine ⟨(hk _ (h.lt (.inl rfl)) s.lr).trans h.cells, h.gens.keep (fun b hb => hk b (h.lt (.inr (.inl hb))) (fun e => s.gr (by rw [hb, e]))) hPB, own_same h.orb (fun b hb => hk b (h.lt (.inr (.inr (.inl hb)))) (fun e => s.or_ (by rw [hb, e]))),
    hr, ?_, h.base, h.free, h.ne⟩
  obtain ⟨et, ct, e1, e2⟩ := h.todo
  exact ⟨et, ct, (hk _ (h.lt (.inr (.inr (.inr (.inr rfl))))) (fun e => s.rt e.symm)).trans e1, e2⟩
end Go.Proofs.Ytpkgckccfanchaa.M

namespace Go.Proofs.Ytpkgckccfanchaa.M
open Go.RowKit Go.Proofs.YtpkgckccfanchaaW.PrintWords Go.Proofs.YtpkgckccfanchaaW.PrintLast Go.Proofs.YtpkgckccfanchaaW.PrintMore
open Sims
open Go.ChangeMaps (setBlock)
set_option linter.unusedVariables false
set_option linter.unusedSimpArgs false
theorem infoSl : (Try.prog.info? 28).map (fun i => (i.zero, i.size, i.bytes)) = some (some (.slice none 0 0), 1, 24) := by kernel_rfl
structure AddSt (w0 : World) (B : Nat) (PB0 : Nat → Prop) (c0 : LC) (wr : World) (PB : Nat → Prop) (c : LC) (pt : Int) (gens : List (List Int)) (orb : List Int) (reps : List (Int × List Int)) (todo : List (Int × Int)) : Prop where
  lv : LvX wr B PB c pt gens orb reps todo
  lb : c.lb = c0.lb
  chg : Chg c0.Blk w0 wr
  blk : ∀ b, c.Blk b → c0.Blk b ∨ w0.heap.size ≤ b
  up : ∀ b, PB0 b → PB b
  pb : ∀ b, PB b → PB0 b ∨ w0.heap.size ≤ b
  bd : ∀ b, PB b → b < wr.heap.size
section
variable {w0 w1 wr : World} {B : Nat} {PB0 PB : Nat → Prop} {c0 c c' : LC} {pt : Int} {gens gens' : List (List Int)} {orb orb' : List Int} {reps reps' : List (Int × List Int)} {todo todo' : List (Int × Int)}
theorem AddSt.step (h : AddSt w0 B PB0 c0 wr PB c pt gens orb reps todo) (hl : LvX w1 B PB c' pt gens' orb' reps' todo') (hlb : c'.lb = c.lb) (hc : Chg c.Blk wr w1) (hb : ∀ b, c'.Blk b → c.Blk b ∨ wr.heap.size ≤ b) : AddSt w0 B PB0 c0 w1 PB c' pt gens' orb' reps' todo' :=
  ⟨hl, hlb.trans h.lb, h.chg.trans hc h.blk, fun b hb' => (hb b hb').elim (h.blk b) (fun h1 => .inr (Nat.le_trans h.chg.size h1)), h.up, h.pb, fun b hp => Nat.lt_of_lt_of_le (h.bd b hp) hc.size⟩
theorem AddSt.drew (h : AddSt w0 B PB0 c0 wr PB c pt gens orb reps todo) (m : Nat) : AddSt w0 B PB0 c0 (wr.drewN m) PB c pt gens orb reps todo :=
  h.step (h.lv.chg (Chg.drewN (S := fun _ => False) wr m) (fun _ _ => id)) rfl (Chg.drewN wr m) (fun b hb => .inl hb)
theorem AddSt.drew1 (h : AddSt w0 B PB0 c0 wr PB c pt gens orb reps todo) : AddSt w0 B PB0 c0 wr.drew PB c pt gens orb reps todo :=
  h.step (h.lv.chg (Chg.drew (S := fun _ => False) wr) (fun _ _ => id)) rfl (Chg.drew wr) (fun b hb => .inl hb)
theorem AddSt.cells (h : AddSt w0 B PB0 c0 wr PB c pt gens orb reps todo) : ∃ A cap A' cap', c.gv = .slice A gens.length cap ∧ c.ov = .slice A' orb.length cap' ∧
    wr.cell? ⟨c0.lb, 1, none⟩ = some (.slice A gens.length cap) ∧ wr.cell? ⟨c0.lb, 2, none⟩ = some (.slice A' orb.length cap') ∧ wr.cell? ⟨c0.lb, 3, none⟩ = some (.map (some c.rb)) ∧ wr.cell? ⟨c0.lb, 4, none⟩ = some (.map (some c.tb)) := by
  obtain ⟨_, h1, h2, h3, h4⟩ := h.lv.cell
  rw [h.lb] at h1 h2 h3 h4
  obtain ⟨gs, hg, _⟩ := h.lv.gens
  obtain ⟨A, cap, e⟩ := own_slice hg
  obtain ⟨A', cap', e'⟩ := own_slice h.lv.orb
  exact ⟨A, cap, A', cap', e, e', by rw [h1, e], by rw [h2, e'], h3, h4⟩
theorem AddSt.putTodo (h : AddSt w0 B PB0 c0 wr PB c pt gens orb reps todo) (hs : Small todo) (hn : todo.Nodup) {k : Int × Int} (hk : 0 ≤ k.1 ∧ k.1 ≤ 1000000000000 ∧ 0 ≤ k.2 ∧ k.2 ≤ 1000000000000) :
    ∃ w1, (Instr.mapUpdate 109 (.map (some c.tb)) (.agg #[.int .i64 k.1, .int .i64 k.2]) (.bool true)).run Try.prog wr = .ok () w1 ∧ AddSt w0 B PB0 c0 w1 PB c pt gens orb reps (setT todo k) := by
  obtain ⟨w1, hr, ht, hc⟩ := todo_put h.lv.todo hs hn hk
  exact ⟨w1, hr, h.step (lvx_todo h.lv ht hc) rfl (hc.mono (fun b e => .inr (.inr (.inr (.inr e))))) (fun b hb => .inl hb)⟩
end
theorem todoRow_succ (k : Nat) (b : Int) (t : List (Int × Int)) : todoRow (k + 1) b t = setT (todoRow k b t) ((k : Int), b) := by
  unfold todoRow
  rw [List.range'_1_concat, List.foldl_append]
  simp
theorem todoCol_succ (k : Nat) (a : Int) (t : List (Int × Int)) : todoCol a (k + 1) t = setT (todoCol a k t) (a, (k : Int)) := by
  unfold todoCol
  rw [List.range'_1_concat, List.foldl_append]
  simp
theorem todoRow_small {m : Nat} {b : Int} {t : List (Int × Int)} (h : Small t) (hm : m ≤ 1000000000000) (hb : 0 ≤ b ∧ b ≤ 1000000000000) : Small (todoRow m b t) := by
  intro q hq
  rcases todoRow_mem.1 hq with hq | ⟨i, hi, rfl⟩
  · exact h q hq
  · exact ⟨by show (0 : Int) ≤ i; omega, by show (i : Int) ≤ _; omega, hb.1, hb.2⟩
theorem todoCol_small {m : Nat} {a : Int} {t : List (Int × Int)} (h : Small t) (hm : m ≤ 1000000000000) (hb : 0 ≤ a ∧ a ≤ 1000000000000) : Small (todoCol a m t) := by
  intro q hq
  rcases todoCol_mem.1 hq with hq | ⟨i, hi, rfl⟩
  · exact h q hq
  · exact ⟨hb.1, hb.2, by show (0 : Int) ≤ i; omega, by show (i : Int) ≤ _; omega⟩
theorem todoRow_nodup {m : Nat} {b : Int} {t : List (Int × Int)} (h : t.Nodup) : (todoRow m b t).Nodup := (foldT _ _ _).2 h
theorem todoCol_nodup {m : Nat} {a : Int} {t : List (Int × Int)} (h : t.Nodup) : (todoCol a m t).Nodup := (foldT _ _ _).2 h
theorem lvx_lb_gens {w w1 : World} {B : Nat} {PB : Nat → Prop} {c : LC} {pt : Int} {gens : List (List Int)} {orb : List Int} {reps : List (Int × List Int)} {todo : List (Int × Int)} (h : LvX w B PB c pt gens orb reps todo) {o : Obj} (hg : (w.alloc o).grownBy w1 c.gv.ownBlock) : w1.heap[c.lb]? = w.heap[c.lb]? :=
  (hg.block c.lb (by rw [World.size_alloc]; exact Nat.lt_succ_of_lt (h.lt (.inl rfl))) (fun e => h.sep.gl e.symm)).trans (heap_alloc_old _ _ (h.lt (.inl rfl)))
section
variable {w0 w1 wr : World} {B n : Nat} {PB0 PB : Nat → Prop} {c0 c c' : LC} {pt : Int} {gens gens' : List (List Int)} {orb orb' : List Int} {reps reps' : List (Int × List Int)} {todo todo' : List (Int × Int)}
def Agree (PB : Nat → Prop) (w w' : World) : Prop := ∀ b, PB b → b < w.heap.size → w'.heap[b]? = w.heap[b]?
theorem PV.agree {w w' : World} {v : Value} {p : List Int} (h : PV w PB v p) (ha : Agree PB w w') : PV w' PB v p := Kd.V_step h ha
theorem PV.readAt {w w' : World} {ad : Addr} {m c : Nat} {p : List Int} (h : PV w PB (.slice (some ad) m c) p) (ha : Agree PB w w') : Kd.C (Kd.int .i64) w' (some ad) p.length p := by
  obtain ⟨A, c', e, _, hC⟩ := PV.read (PV.agree h ha)
  have e1 : some ad = A := by injection e
  rw [e1]
  exact hC
theorem AddSt.made (h : AddSt w0 B PB0 c0 wr PB c pt gens orb reps todo) (hb : Below wr.heap.size wr w1) {r : Value} {rp : List Int} (hr : PN wr.heap.size w1 r rp) :
    ∃ PB', AddSt w0 B PB0 c0 w1 PB' c pt gens orb reps todo ∧ PV w1 PB' r rp ∧ (∀ b, PB b → PB' b) ∧ ∀ b, c.Blk b → ¬ PB' b := by
  have hf : ∀ b, c.Blk b → ¬ (PB b ∨ (wr.heap.size ≤ b ∧ b < w1.heap.size)) := fun b hb' hp => hp.elim (h.lv.free b hb') (fun h2 => by have := h.lv.lt hb'; omega)
  refine ⟨fun b => PB b ∨ (wr.heap.size ≤ b ∧ b < w1.heap.size), ⟨?_, h.lb, h.chg.trans (Chg.of_below (S := fun _ => False) hb) (fun _ h => h.elim), h.blk, fun b hb' => .inl (h.up b hb'), fun b hb' => hb'.elim (h.pb b) (fun h2 => .inr (Nat.le_trans h.chg.size h2.1)), fun b hb' => hb'.elim (fun h2 => Nat.lt_of_lt_of_le (h.bd b h2) hb.size) (fun h2 => h2.2)⟩, hr.pv (fun b h1 h2 => .inr ⟨h1, h2⟩), fun b hb' => .inl hb', hf⟩
  have h1 := h.lv.chg (Chg.of_below (S := fun _ => False) hb) (fun _ _ => id)
  exact ⟨h1.cells, h1.gens.mono (fun b hb' => .inl hb'), h1.orb, h1.reps.mono (fun b hb' => .inl hb'), h1.todo, h1.base, hf, h1.ne⟩
theorem AddSt.putRep (h : AddSt w0 B PB0 c0 wr PB c pt gens orb reps todo) (hr : ∀ x : Int, x ∈ reps.map (·.1) → 0 ≤ x ∧ x < n) (hn : n ≤ 512) {x : Int} (h0 : 0 ≤ x) (h1 : x < n) (hno : x ∉ reps.map (·.1)) {r : Value} {rp : List Int} (hv : PV wr PB r rp) :
    ∃ w1, (Instr.mapUpdate 108 (.map (some c.rb)) (.int .i64 x) r).run Try.prog wr = .ok () w1 ∧ AddSt w0 B PB0 c0 w1 PB c pt gens orb (reps ++ [(x, rp)]) todo ∧ Agree PB wr w1 := by
  obtain ⟨w1, hrun, hR, hc⟩ := reps_put h.lv.reps hr hn h0 h1 hno hv (fun hp => h.lv.free _ (.inr (.inr (.inr (.inl rfl)))) hp)
  exact ⟨w1, hrun, h.step (lvx_reps h.lv hR hc) rfl (hc.mono (fun b e => .inr (.inr (.inr (.inl e))))) (fun b hb => .inl hb), fun b hb hlt => hc.keep b hlt (fun e => h.lv.free b (.inr (.inr (.inr (.inl e)))) hb)⟩
theorem AddSt.newRep (h : AddSt w0 B PB0 c0 wr PB c pt gens orb reps todo) (hr : ∀ x : Int, x ∈ reps.map (·.1) → 0 ≤ x ∧ x < n) (hn : n ≤ 512) {x : Int} (h0 : 0 ≤ x) (h1 : x < n) (hno : x ∉ reps.map (·.1)) (hb : Below wr.heap.size wr w1) {r : Value} {rp : List Int} (hv : PN wr.heap.size w1 r rp) :
    ∃ w2, (Instr.mapUpdate 108 (.map (some c.rb)) (.int .i64 x) r).run Try.prog w1 = .ok () w2 ∧ (∃ PB', AddSt w0 B PB0 c0 w2 PB' c pt gens orb (reps ++ [(x, rp)]) todo) ∧ Agree PB wr w1 ∧ Agree PB wr w2 ∧ w1.cell? ⟨c0.lb, 3, none⟩ = some (.map (some c.rb)) ∧ w2.cell? ⟨c0.lb, 3, none⟩ = some (.map (some c.rb)) := by
  obtain ⟨PB', hA, hpv, hup, hf⟩ := h.made hb hv
  obtain ⟨w2, hrun, hA2, hag⟩ := hA.putRep hr hn h0 h1 hno hpv
  obtain ⟨_, _, _, _, _, _, _, _, k1, _⟩ := hA.cells
  obtain ⟨_, _, _, _, _, _, _, _, k2, _⟩ := hA2.cells
  exact ⟨w2, hrun, ⟨PB', hA2⟩, fun b _ hlt => hb.block b hlt, fun b hp hlt => (hag b (hup b hp) (Nat.lt_of_lt_of_le hlt hb.size)).trans (hb.block b hlt), k1, k2⟩
theorem AddSt.pushOrb (h : AddSt w0 B PB0 c0 wr PB c pt gens orb reps todo) (hB : B ≤ wr.heap.size) {x : Int} {v' : Value}
    (ho : w1.ownsRow B 3 1 v' (orb.length + 1) (nums .i64 orb ++ [.int .i64 x])) (hg : (wr.alloc (.cells #[.int .i64 x] 3)).grownBy w1 c.ov.ownBlock) (hat : v'.ownBlock = c.ov.ownBlock ∨ v'.ownBlock = some (wr.heap.size + 1)) :
    ∃ c', AddSt w0 B PB0 c0 (w1.setCell ⟨c0.lb, 2, none⟩ v') PB c' pt gens (orb ++ [x]) reps todo ∧ c'.gv = c.gv := by
  obtain ⟨k1, k2, k3⟩ := lvx_orb h.lv h.bd hB ho hg hat
  rw [h.lb] at k1 k2 k3
  exact ⟨⟨c0.lb, c.gv, v', c.rb, c.tb⟩, h.step k1 h.lb.symm k2 k3, rfl⟩
theorem orb_at (h : LvX wr B PB c pt gens orb reps todo) {A : Option Addr} {m cap : Nat} (hov : c.ov = .slice A m cap) {k : Nat} {x : Int} (hx : orb[k]? = some x) : ∃ ad, A = some ad ∧ wr.cell? (ad.add k) = some (.int .i64 x) := by
  obtain ⟨A', c', e, hr⟩ := own_reads h.orb
  rw [hov] at e
  obtain ⟨e1, -, -⟩ : A = A' ∧ m = orb.length ∧ cap = c' := by injection e with a b c; exact ⟨a, b, c⟩
  subst e1
  obtain ⟨hk, e2⟩ := List.getElem?_eq_some_iff.1 hx
  obtain ⟨ad, e3, hc⟩ := hr.at_ (k : Int) (by omega) (by omega)
  refine ⟨ad, e3, ?_⟩
  rw [Int.toNat_natCast] at hc
  rw [hc]
  simp [rd, List.getD_eq_getElem?_getD, hx]
theorem gens_at {w : World} {v : Value} (h : GensAt w B PB v gens) {A : Option Addr} {m cap : Nat} (hv : v = .slice A m cap) {k : Nat} {p : List Int} (hp : gens[k]? = some p) : ∃ ad u, A = some ad ∧ w.cell? (ad.add k) = some u ∧ PV w PB u p := by
  obtain ⟨gs, ho, hg⟩ := h
  obtain ⟨u, hu, hpv⟩ := hg k p hp
  rcases ho.2 with ⟨h1, h2⟩ | ⟨g, cap', cur, h1, h2, h3, h4⟩
  · have := (List.getElem?_eq_some_iff.1 hp).1
    omega
  · rw [hv] at h1
    obtain ⟨e1, -, -⟩ : A = some ⟨g, 0, none⟩ ∧ m = gens.length ∧ cap = cap' := by injection h1 with a b c; exact ⟨a, b, c⟩
    exact ⟨_, u, e1, ho.cells (g := g) (by rw [hv, e1]; rfl) k u hu, hpv⟩
theorem growIn_some {gens : List (List Int)} {x y : Int} {g r : List Int} {b : Nat} {s : List (Int × List Int) × List (Int × Int)} (hg : gens[b]? = some g) (hy : rdl g x = y) (hl : lookA y s.1 = some r) : growIn gens x (gens.drop b) s = growIn gens x (gens.drop (b + 1)) s := by
  obtain ⟨h1, h2⟩ := List.getElem?_eq_some_iff.1 hg
  rw [List.drop_eq_getElem_cons h1, h2, growIn, hy, hl]
theorem growIn_none {gens : List (List Int)} {x y : Int} {g : List Int} {b : Nat} {s : List (Int × List Int) × List (Int × Int)} (hg : gens[b]? = some g) (hy : rdl g x = y) (hl : lookA y s.1 = none) :
    growIn gens x (gens.drop b) s = growIn gens x (gens.drop (b + 1)) (s.1 ++ [(y, thenL (repL s.1 x) g)], todoCol (s.1.length : Int) gens.length s.2) := by
  obtain ⟨h1, h2⟩ := List.getElem?_eq_some_iff.1 hg
  rw [List.drop_eq_getElem_cons h1, h2, growIn, hy, hl]
end
end Go.Proofs.Ytpkgckccfanchaa.M

namespace Go.Proofs.Ytpkgckccfanchaa.M
open Go.RowKit Go.Proofs.YtpkgckccfanchaaW.PrintWords Go.Proofs.YtpkgckccfanchaaW.PrintLast Go.Proofs.YtpkgckccfanchaaW.PrintMore
open Sims
set_option linter.unusedVariables false
set_option linter.unusedSimpArgs false
set_option maxHeartbeats 4000000 in
set_option maxRecDepth 100000 in
theorem add_region15 {Q : Exit → Act → World → Prop} {w : World} {lb m cx rb : Nat} {x y : Int} {adx : Addr} {ux : Value} {s1 s2 s3 s4 s5 s7 s9 s10 s11 s12 s13 s14 s15 s16 s17 s18 s19 s20 s21 s22 s23 s24 s25 s26 s27 s28 s29 s30 s31 s32 s33 s34 s35 s36 s37 s38 s39 s40 s41 s42 s43 s44 s45 s46 s47 s48 s49 s50 s51 s52 s53 s54 s55 s56 s57 s58 s59 s60 s61 s62 s63 s64 s65 s66 s67 s68 s69 s70 s71 s72 s73 s74 s75 s76 s77 s78 s79 s80 s81 s82 s83 s84 s85 s86 s87 s88 s89 s90 s91 s92 s93 s94 s95 s96 s97 s98 s99 s100 s101 s102 s103 s104 s105 s106 s107 s108 s109 s110 s111 s112 s113 s114 s115 s116 s117 s118 s119 s120 s121 s122 s123 s124 s125 s126 s127 s128 s129 s130 s131 : Value}
    (h3 : w.cell? ⟨lb, 3, none⟩ = some (.map (some rb))) (hy : w.cell? (adx.add x.toNat) = some (.int .i64 y)) (hx0 : 0 ≤ x) (hx1 : x < (m : Int))
    (hlx : (Instr.lookup 108 (.map (some rb)) (.int .i64 x) false).run Try.prog w.drew = .ok ux w.drew)
    (R : Value → World → World → Prop)
    (hcall : Calls Try.prog 78 #[ux, .slice (some adx) m cx] w.drew fun e w1 => ∃ rt, e = .returned rt ∧ ∃ w2, (Instr.mapUpdate 108 (.map (some rb)) (.int .i64 y) rt).run Try.prog w1 = .ok () w2 ∧ R rt w1 w2 ∧ w1.cell? ⟨lb, 3, none⟩ = some (.map (some rb)) ∧ w1.cell? (adx.add x.toNat) = some (.int .i64 y) ∧ w2.cell? ⟨lb, 3, none⟩ = some (.map (some rb)) ∧ w2.cell? (adx.add x.toNat) = some (.int .i64 y))
    (hQ : ∀ (w1 w2 : World) (rt t81 t82 t83 t84 t85 t86 t87 t88 t89 t90 t91 t92 t93 t94 t95 t96 : Value), R rt w1 w2 → Q .normal { tmps := #[.pointer (some ⟨lb, 0, none⟩), s1, s2, s3, s4, s5, .int .i64 x, s7, .slice (some adx) m cx, s9, s10, s11, s12, s13, s14, s15, s16, s17, s18, s19, s20, s21, s22, s23, s24, s25, s26, s27, s28, s29, s30, s31, s32, s33, s34, s35, s36, s37, s38, s39, s40, s41, s42, s43, s44, s45, s46, s47, s48, s49, s50, s51, s52, s53, s54, s55, s56, s57, s58, s59, s60, s61, s62, s63, s64, s65, s66, s67, s68, s69, s70, s71, s72, s73, s74, s75, s76, s77, s78, s79, s80, t81, t82, t83, t84, t85, t86, t87, t88, t89, t90, t91, t92, t93, t94, t95, t96, s97, s98, s99, s100, s101, s102, s103, s104, s105, s106, s107, s108, s109, s110, s111, s112, s113, s114, s115, s116, s117, s118, s119, s120, s121, s122, s123, s124, s125, s126, s127, s128, s129, s130, s131], defers := [] } w2) :
    (Code.region 15 #[{ dst := some 81, op := Go.Op.move (Go.Operand.tmp 0), type := 107, pos := "levels.go:78", after := #[], guard := none }, { dst := some 82, op := Go.Op.nilCheck (Go.Operand.tmp 81), type := 0, pos := "levels.go:78", after := #[{ on := 0, ground := Go.Ground.data }], guard := none }, { dst := some 83, op := Go.Op.fieldAddr 111 (Go.Operand.tmp 82) 3, type := 0, pos := "levels.go:78", after := #[{ on := 1, ground := Go.Ground.data }], guard := none }, { dst := some 84, op := Go.Op.load 108 (Go.Operand.tmp 83), type := 108, pos := "levels.go:78", after := #[{ on := 2, ground := Go.Ground.data }], guard := none }, { dst := some 85, op := Go.Op.move (Go.Operand.tmp 8), type := 28, pos := "levels.go:78", after := #[], guard := none }, { dst := some 86, op := Go.Op.move (Go.Operand.tmp 6), type := 3, pos := "levels.go:78", after := #[], guard := none }, { dst := some 87, op := Go.Op.indexAddr 28 (Go.Operand.tmp 85) (Go.Operand.tmp 86), type := 0, pos := "levels.go:78", after := #[{ on := 4, ground := Go.Ground.data }, { on := 5, ground := Go.Ground.data }], guard := none }, { dst := some 88, op := Go.Op.load 3 (Go.Operand.tmp 87), type := 3, pos := "levels.go:78", after := #[{ on := 6, ground := Go.Ground.data }], guard := none }, { dst := some 89, op := Go.Op.move (Go.Operand.tmp 0), type := 107, pos := "levels.go:78", after := #[], guard := none }, { dst := some 90, op := Go.Op.nilCheck (Go.Operand.tmp 89), type := 0, pos := "levels.go:78", after := #[{ on := 8, ground := Go.Ground.data }], guard := none }, { dst := some 91, op := Go.Op.fieldAddr 111 (Go.Operand.tmp 90) 3, type := 0, pos := "levels.go:78", after := #[{ on := 9, ground := Go.Ground.data }], guard := none }, { dst := some 92, op := Go.Op.load 108 (Go.Operand.tmp 91), type := 108, pos := "levels.go:78", after := #[{ on := 10, ground := Go.Ground.data }], guard := none }, { dst := some 93, op := Go.Op.move (Go.Operand.tmp 6), type := 3, pos := "levels.go:78", after := #[], guard := none }, { dst := some 94, op := Go.Op.lookup 108 (Go.Operand.tmp 92) (Go.Operand.tmp 93) false, type := 28, pos := "levels.go:78", after := #[{ on := 11, ground := Go.Ground.data }, { on := 12, ground := Go.Ground.data }], guard := none }, { dst := some 95, op := Go.Op.move (Go.Operand.tmp 8), type := 28, pos := "levels.go:78", after := #[], guard := none }, { dst := some 96, op := Go.Op.call { callee := Go.Callee.value (Go.Operand.func 78), args := #[Go.Operand.tmp 94, Go.Operand.tmp 95], argTypes := #[28, 28] }, type := 28, pos := "levels.go:78", after := #[{ on := 13, ground := Go.Ground.data }, { on := 14, ground := Go.Ground.data }], guard := none }, { dst := none, op := Go.Op.mapUpdate 108 (Go.Operand.tmp 84) (Go.Operand.tmp 88) (Go.Operand.tmp 96), type := 0, pos := "levels.go:78", after := #[{ on := 3, ground := Go.Ground.data }, { on := 7, ground := Go.Ground.data }, { on := 15, ground := Go.Ground.data }, { on := 15, ground := Go.Ground.chain }, { on := 0, ground := Go.Ground.phase }, { on := 1, ground := Go.Ground.phase }, { on := 2, ground := Go.Ground.phase }, { on := 3, ground := Go.Ground.phase }, { on := 4, ground := Go.Ground.phase }, { on := 5, ground := Go.Ground.phase }, { on := 6, ground := Go.Ground.phase }, { on := 7, ground := Go.Ground.phase }, { on := 8, ground := Go.Ground.phase }, { on := 9, ground := Go.Ground.phase }, { on := 10, ground := Go.Ground.phase }, { on := 11, ground := Go.Ground.phase }, { on := 12, ground := Go.Ground.phase }, { on := 13, ground := Go.Ground.phase }, { on := 14, ground := Go.Ground.phase }, { on := 15, ground := Go.Ground.phase }], guard := none }] true).wp Try.prog Q { tmps := #[.pointer (some ⟨lb, 0, none⟩), s1, s2, s3, s4, s5, .int .i64 x, s7, .slice (some adx) m cx, s9, s10, s11, s12, s13, s14, s15, s16, s17, s18, s19, s20, s21, s22, s23, s24, s25, s26, s27, s28, s29, s30, s31, s32, s33, s34, s35, s36, s37, s38, s39, s40, s41, s42, s43, s44, s45, s46, s47, s48, s49, s50, s51, s52, s53, s54, s55, s56, s57, s58, s59, s60, s61, s62, s63, s64, s65, s66, s67, s68, s69, s70, s71, s72, s73, s74, s75, s76, s77, s78, s79, s80, s81, s82, s83, s84, s85, s86, s87, s88, s89, s90, s91, s92, s93, s94, s95, s96, s97, s98, s99, s100, s101, s102, s103, s104, s105, s106, s107, s108, s109, s110, s111, s112, s113, s114, s115, s116, s117, s118, s119, s120, s121, s122, s123, s124, s125, s126, s127, s128, s129, s130, s131], defers := [] } w := by
  have HC := Aside0.mk hcall
  have HQ := Aside0.mk hQ
  clear hcall hQ
  go_region_held3 (fun W' => W'.cell? ⟨lb, 3, none⟩ = some (.map (some rb)) ∧ W'.cell? (adx.add x.toNat) = some (.int .i64 y)) ((first | exact ⟨h3, hy⟩ | exact ⟨hk1, hk2⟩ | exact ⟨hk3, hk4⟩)) (first | (go_at_call 78; (with_reducible refine HC.out.mono ?_); rintro e w1 ⟨rt, rfl, w2, hst, hR, hk1, hk2, hk3, hk4⟩; have HR := Aside0.mk hR; clear hR))
  exact HQ.out _ _ _ _ _ _ _ _ _ _ _ _ _ _ _ _ _ _ _ HR.out
set_option maxHeartbeats 4000000 in
set_option maxRecDepth 100000 in
theorem add_region16 {Q : Exit → Act → World → Prop} {w : World} {lb m cx B mo co : Nat} {x y : Int} {adx : Addr} {Ao : Option Addr} {xs : List Value} {s1 s2 s3 s4 s5 s7 s9 s10 s11 s12 s13 s14 s15 s16 s17 s18 s19 s20 s21 s22 s23 s24 s25 s26 s27 s28 s29 s30 s31 s32 s33 s34 s35 s36 s37 s38 s39 s40 s41 s42 s43 s44 s45 s46 s47 s48 s49 s50 s51 s52 s53 s54 s55 s56 s57 s58 s59 s60 s61 s62 s63 s64 s65 s66 s67 s68 s69 s70 s71 s72 s73 s74 s75 s76 s77 s78 s79 s80 s81 s82 s83 s84 s85 s86 s87 s88 s89 s90 s91 s92 s93 s94 s95 s96 s97 s98 s99 s100 s101 s102 s103 s104 s105 s106 s107 s108 s109 s110 s111 s112 s113 s114 s115 s116 s117 s118 s119 s120 s121 s122 s123 s124 s125 s126 s127 s128 s129 s130 s131 : Value}
    (h2 : w.cell? ⟨lb, 2, none⟩ = some (.slice Ao mo co)) (hf : w.frozen? ⟨lb, 2, none⟩ = false) (hy : w.cell? (adx.add x.toNat) = some (.int .i64 y)) (hx0 : 0 ≤ x) (hx1 : x < (m : Int)) (hlb : lb < w.heap.size) (hB : B ≤ w.heap.size) (hmo : mo < 1000000)
    (hown : w.ownsRow B 3 1 (.slice Ao mo co) mo xs) (hne : (Value.slice Ao mo co).ownBlock ≠ some lb)
    (hQ : ∀ (w1 : World) (g cap : Nat) (t97 t98 t99 t100 t101 t102 t103 t104 t105 t106 t107 t108 t109 : Value), w1.ownsRow B 3 1 (.slice (some ⟨g, 0, none⟩) (mo + 1) cap) (mo + 1) (xs ++ [.int .i64 y]) → (w.alloc (.cells #[.int .i64 y] 3)).grownBy w1 (Value.slice Ao mo co).ownBlock → ((Value.slice Ao mo co).ownBlock = some g ∨ g = w.heap.size + 1) → Q .normal { tmps := #[.pointer (some ⟨lb, 0, none⟩), s1, s2, s3, s4, s5, .int .i64 x, s7, .slice (some adx) m cx, s9, s10, s11, s12, s13, s14, s15, s16, s17, s18, s19, s20, s21, s22, s23, s24, s25, s26, s27, s28, s29, s30, s31, s32, s33, s34, s35, s36, s37, s38, s39, s40, s41, s42, s43, s44, s45, s46, s47, s48, s49, s50, s51, s52, s53, s54, s55, s56, s57, s58, s59, s60, s61, s62, s63, s64, s65, s66, s67, s68, s69, s70, s71, s72, s73, s74, s75, s76, s77, s78, s79, s80, s81, s82, s83, s84, s85, s86, s87, s88, s89, s90, s91, s92, s93, s94, s95, s96, t97, t98, t99, t100, t101, t102, t103, t104, t105, t106, t107, t108, t109, s110, s111, s112, s113, s114, s115, s116, s117, s118, s119, s120, s121, s122, s123, s124, s125, s126, s127, s128, s129, s130, s131], defers := [] } (w1.setCell ⟨lb, 2, none⟩ (.slice (some ⟨g, 0, none⟩) (mo + 1) cap))) :
    (Code.region 16 #[{ dst := some 97, op := Go.Op.move (Go.Operand.tmp 0), type := 107, pos := "levels.go:79", after := #[], guard := none }, { dst := some 98, op := Go.Op.move (Go.Operand.tmp 0), type := 107, pos := "levels.go:79", after := #[], guard := none }, { dst := some 99, op := Go.Op.nilCheck (Go.Operand.tmp 98), type := 0, pos := "levels.go:79", after := #[{ on := 1, ground := Go.Ground.data }], guard := none }, { dst := some 100, op := Go.Op.fieldAddr 111 (Go.Operand.tmp 99) 2, type := 0, pos := "levels.go:79", after := #[{ on := 2, ground := Go.Ground.data }], guard := none }, { dst := some 101, op := Go.Op.load 28 (Go.Operand.tmp 100), type := 28, pos := "levels.go:79", after := #[{ on := 3, ground := Go.Ground.data }], guard := none }, { dst := some 102, op := Go.Op.move (Go.Operand.tmp 8), type := 28, pos := "levels.go:79", after := #[], guard := none }, { dst := some 103, op := Go.Op.move (Go.Operand.tmp 6), type := 3, pos := "levels.go:79", after := #[], guard := none }, { dst := some 104, op := Go.Op.indexAddr 28 (Go.Operand.tmp 102) (Go.Operand.tmp 103), type := 0, pos := "levels.go:79", after := #[{ on := 5, ground := Go.Ground.data }, { on := 6, ground := Go.Ground.data }], guard := none }, { dst := some 105, op := Go.Op.load 3 (Go.Operand.tmp 104), type := 3, pos := "levels.go:79", after := #[{ on := 7, ground := Go.Ground.data }], guard := none }, { dst := some 106, op := Go.Op.buildSlice 28 1 #[(0, Go.Operand.tmp 105)], type := 28, pos := "levels.go:79", after := #[{ on := 8, ground := Go.Ground.data }], guard := none }, { dst := some 107, op := Go.Op.call { callee := Go.Callee.builtin Go.Builtin.append, args := #[Go.Operand.tmp 101, Go.Operand.tmp 106], argTypes := #[28, 28] }, type := 28, pos := "levels.go:79", after := #[{ on := 4, ground := Go.Ground.data }, { on := 9, ground := Go.Ground.data }], guard := none }, { dst := some 108, op := Go.Op.nilCheck (Go.Operand.tmp 97), type := 0, pos := "levels.go:79", after := #[{ on := 0, ground := Go.Ground.data }, { on := 0, ground := Go.Ground.phase }, { on := 1, ground := Go.Ground.phase }, { on := 2, ground := Go.Ground.phase }, { on := 3, ground := Go.Ground.phase }, { on := 4, ground := Go.Ground.phase }, { on := 5, ground := Go.Ground.phase }, { on := 6, ground := Go.Ground.phase }, { on := 7, ground := Go.Ground.phase }, { on := 8, ground := Go.Ground.phase }, { on := 9, ground := Go.Ground.phase }, { on := 10, ground := Go.Ground.phase }], guard := none }, { dst := some 109, op := Go.Op.fieldAddr 111 (Go.Operand.tmp 108) 2, type := 0, pos := "levels.go:79", after := #[{ on := 11, ground := Go.Ground.data }, { on := 0, ground := Go.Ground.phase }, { on := 1, ground := Go.Ground.phase }, { on := 2, ground := Go.Ground.phase }, { on := 3, ground := Go.Ground.phase }, { on := 4, ground := Go.Ground.phase }, { on := 5, ground := Go.Ground.phase }, { on := 6, ground := Go.Ground.phase }, { on := 7, ground := Go.Ground.phase }, { on := 8, ground := Go.Ground.phase }, { on := 9, ground := Go.Ground.phase }, { on := 10, ground := Go.Ground.phase }], guard := none }, { dst := none, op := Go.Op.store 28 (Go.Operand.tmp 109) (Go.Operand.tmp 107), type := 0, pos := "levels.go:79", after := #[{ on := 12, ground := Go.Ground.data }, { on := 10, ground := Go.Ground.data }, { on := 10, ground := Go.Ground.chain }, { on := 0, ground := Go.Ground.phase }, { on := 1, ground := Go.Ground.phase }, { on := 2, ground := Go.Ground.phase }, { on := 3, ground := Go.Ground.phase }, { on := 4, ground := Go.Ground.phase }, { on := 5, ground := Go.Ground.phase }, { on := 6, ground := Go.Ground.phase }, { on := 7, ground := Go.Ground.phase }, { on := 8, ground := Go.Ground.phase }, { on := 9, ground := Go.Ground.phase }, { on := 10, ground := Go.Ground.phase }], guard := none }] true).wp Try.prog Q { tmps := #[.pointer (some ⟨lb, 0, none⟩), s1, s2, s3, s4, s5, .int .i64 x, s7, .slice (some adx) m cx, s9, s10, s11, s12, s13, s14, s15, s16, s17, s18, s19, s20, s21, s22, s23, s24, s25, s26, s27, s28, s29, s30, s31, s32, s33, s34, s35, s36, s37, s38, s39, s40, s41, s42, s43, s44, s45, s46, s47, s48, s49, s50, s51, s52, s53, s54, s55, s56, s57, s58, s59, s60, s61, s62, s63, s64, s65, s66, s67, s68, s69, s70, s71, s72, s73, s74, s75, s76, s77, s78, s79, s80, s81, s82, s83, s84, s85, s86, s87, s88, s89, s90, s91, s92, s93, s94, s95, s96, s97, s98, s99, s100, s101, s102, s103, s104, s105, s106, s107, s108, s109, s110, s111, s112, s113, s114, s115, s116, s117, s118, s119, s120, s121, s122, s123, s124, s125, s126, s127, s128, s129, s130, s131], defers := [] } w := by
  have HQ := Aside0.mk hQ
  have HO := Aside0.mk hown
  have HNE := Aside0.mk hne
  have HB := Aside0.mk hB
  obtain ⟨i0, hi, hz0, hz1, hz2⟩ := info_parts info3
  have HI := Aside0.mk hi
  have HZ := Aside0.mk hz0
  have HZ1 := Aside0.mk hz1
  have HZ2 := Aside0.mk hz2
  have hcell : ∀ w1 : World, (w.alloc (.cells #[.int .i64 y] 3)).grownBy w1 (Value.slice Ao mo co).ownBlock → w1.heap[lb]? = w.heap[lb]? := fun w1 hg => (hg.block lb (by rw [World.size_alloc]; exact Nat.lt_succ_of_lt hlb) (fun e => hne e.symm)).trans (heap_alloc_old w _ hlb)
  have HC := Aside0.mk hcell
  have HSZ : Aside0 (((w.alloc (.cells #[.int .i64 y] 3)).drew).heap.size = w.heap.size + 1) := ⟨World.size_alloc _ _⟩
  have HBB : Aside0 (B ≤ ((w.alloc (.cells #[.int .i64 y] 3)).drew).heap.size) := ⟨by rw [HSZ.out]; exact Nat.le_succ_of_le HB.out⟩
  have HON : Aside0 (∀ u ∈ [Value.int .i64 y], u.oneCell' = true) := ⟨by simp [Value.oneCell']⟩
  have HML : Aside0 (mo + 1 ≤ maxLen) := ⟨by unfold maxLen; omega⟩
  have HBY : Aside0 ((mo + 1) * 8 ≤ 140737488355328) := ⟨by omega⟩
  clear hQ hown hne hcell hB hi hz0 hz1 hz2
  refine wp_region_noPanic ?_
  go_region_law ((refine step_append_lies _ rfl (.tmp 101) (.tmp 106) 28 rfl B 3 i0 (.int .i64 0) 1 8 Try.underlying28 HI.out HZ.out HZ1.out HZ2.out rfl (by decide) _ mo xs rfl (HO.out.alloc _).drew ⟨w.heap.size, 0, none⟩ 1 1 [.int .i64 y] rfl rfl (World.news_of_block (cs := #[.int .i64 y]) (t := 3) (fr := (0, 0)) (heap_alloc_new w _)) HON.out (by decide) HML.out HBY.out HBB.out (w.heap.size + 1) HSZ.out ?_; intro g cap w1 hown hgr0 hat hlt; have hgr : (w.alloc (.cells #[.int .i64 y] 3)).grownBy w1 (Value.slice Ao mo co).ownBlock := ⟨hgr0.os, hgr0.tape, hgr0.output, hgr0.size, hgr0.block⟩; have hx1' := (World.cell?_of_block (a := ⟨lb, 2, none⟩) (HC.out w1 hgr)).trans h2; have hx2' := (World.frozen?_of_block (a := ⟨lb, 2, none⟩) (HC.out w1 hgr)).trans hf; have HO1 := Aside0.mk hown; have HG1 := Aside0.mk hgr; have HT1 := Aside0.mk hat; clear hown hgr0 hgr hat))
  all_goals (refine NoPanic.normal ?_; exact HQ.out _ _ _ _ _ _ _ _ _ _ _ _ _ _ _ _ HO1.out HG1.out HT1.out)
end Go.Proofs.Ytpkgckccfanchaa.M
