/- Part of the proof of StabchainProducts: merged and pruned by merge2.py. -/
import Derived.Test.YtpkgckccfanchaaBStabchainProducts3
import Derived.Test.YtpkgckccfanchaaBStabchainProducts2
import Derived.StillTailTactics

namespace Go.Proofs.Ytpkgckccfanchaa.M
open Go.RowKit YtpkgckccfanchaaW.PrintWords YtpkgckccfanchaaW.PrintLast YtpkgckccfanchaaW.PrintMore
open Sims
open Go.ChangeMaps (setBlock)
set_option linter.unusedVariables false
set_option linter.unusedSimpArgs false
theorem infoSl : (Try.prog.info? 28).map (fun i => (i.zero, i.size, i.bytes)) = some (some (.slice none 0 0), 1, 24) := by kernel_rfl
structure AddSt (w0 : World) (B : Nat) (PB0 : Nat → Prop) (c0 : LC) (wr : World) (PB : Nat → Prop) (c : LC) (pt : Int) (gens : List (List Int)) (orb : List Int) (reps : List (Int × List Int)) (todo : List (Int × Int)) : Prop where
  lv : LvX wr B PB c pt gens orb reps todo
  lb : c.lb = c0.lb
  chg : Chg c0.Blk w0 wr
  blk : ∀ b, c.Blk b → c0.Blk b ∨ w0.heap.size ≤ b
  up : ∀ b, PB0 b → PB b
  pb : ∀ b, PB b → PB0 b ∨ w0.heap.size ≤ b
  bd : ∀ b, PB b → b < wr.heap.size
section
variable {w0 w1 wr : World} {B : Nat} {PB0 PB : Nat → Prop} {c0 c c' : LC} {pt : Int} {gens gens' : List (List Int)} {orb orb' : List Int} {reps reps' : List (Int × List Int)} {todo todo' : List (Int × Int)}
theorem AddSt.step (h : AddSt w0 B PB0 c0 wr PB c pt gens orb reps todo) (hl : LvX w1 B PB c' pt gens' orb' reps' todo') (hlb : c'.lb = c.lb) (hc : Chg c.Blk wr w1) (hb : ∀ b, c'.Blk b → c.Blk b ∨ wr.heap.size ≤ b) : AddSt w0 B PB0 c0 w1 PB c' pt gens' orb' reps' todo' :=
  ⟨hl, hlb.trans h.lb, h.chg.trans hc h.blk, fun b hb' => (hb b hb').elim (h.blk b) (fun h1 => .inr (Nat.le_trans h.chg.size h1)), h.up, h.pb, fun b hp => Nat.lt_of_lt_of_le (h.bd b hp) hc.size⟩
theorem AddSt.drew (h : AddSt w0 B PB0 c0 wr PB c pt gens orb reps todo) (m : Nat) : AddSt w0 B PB0 c0 (wr.drewN m) PB c pt gens orb reps todo :=
  h.step (h.lv.chg (Chg.drewN (S := fun _ => False) wr m) (fun _ _ => id)) rfl (Chg.drewN wr m) (fun b hb => .inl hb)
theorem AddSt.drew1 (h : AddSt w0 B PB0 c0 wr PB c pt gens orb reps todo) : AddSt w0 B PB0 c0 wr.drew PB c pt gens orb reps todo :=
  h.step (h.lv.chg (Chg.drew (S := fun _ => False) wr) (fun _ _ => id)) rfl (Chg.drew wr) (fun b hb => .inl hb)
theorem AddSt.cells (h : AddSt w0 B PB0 c0 wr PB c pt gens orb reps todo) : ∃ A cap A' cap', c.gv = .slice A gens.length cap ∧ c.ov = .slice A' orb.length cap' ∧
    wr.cell? ⟨c0.lb, 1, none⟩ = some (.slice A gens.length cap) ∧ wr.cell? ⟨c0.lb, 2, none⟩ = some (.slice A' orb.length cap') ∧ wr.cell? ⟨c0.lb, 3, none⟩ = some (.map (some c.rb)) ∧ wr.cell? ⟨c0.lb, 4, none⟩ = some (.map (some c.tb)) := by
  obtain ⟨_, h1, h2, h3, h4⟩ := h.lv.cell
  rw [h.lb] at h1 h2 h3 h4
  obtain ⟨gs, hg, _⟩ := h.lv.gens
  obtain ⟨A, cap, e⟩ := own_slice hg
  obtain ⟨A', cap', e'⟩ := own_slice h.lv.orb
  exact ⟨A, cap, A', cap', e, e', by rw [h1, e], by rw [h2, e'], h3, h4⟩
theorem AddSt.putTodo (h : AddSt w0 B PB0 c0 wr PB c pt gens orb reps todo) (hs : Small todo) (hn : todo.Nodup) {k : Int × Int} (hk : 0 ≤ k.1 ∧ k.1 ≤ 1000000000000 ∧ 0 ≤ k.2 ∧ k.2 ≤ 1000000000000) :
    ∃ w1, (Instr.mapUpdate 109 (.map (some c.tb)) (.agg #[.int .i64 k.1, .int .i64 k.2]) (.bool true)).run Try.prog wr = .ok () w1 ∧ AddSt w0 B PB0 c0 w1 PB c pt gens orb reps (setT todo k) := by
  obtain ⟨w1, hr, ht, hc⟩ := todo_put h.lv.todo hs hn hk
  exact ⟨w1, hr, h.step (lvx_todo h.lv ht hc) rfl (hc.mono (fun b e => .inr (.inr (.inr (.inr e))))) (fun b hb => .inl hb)⟩
end
theorem todoRow_succ (k : Nat) (b : Int) (t : List (Int × Int)) : todoRow (k + 1) b t = setT (todoRow k b t) ((k : Int), b) := by
  unfold todoRow
  rw [List.range'_1_concat, List.foldl_append]
  simp
theorem todoCol_succ (k : Nat) (a : Int) (t : List (Int × Int)) : todoCol a (k + 1) t = setT (todoCol a k t) (a, (k : Int)) := by
  unfold todoCol
  rw [List.range'_1_concat, List.foldl_append]
  simp
theorem todoRow_small {m : Nat} {b : Int} {t : List (Int × Int)} (h : Small t) (hm : m ≤ 1000000000000) (hb : 0 ≤ b ∧ b ≤ 1000000000000) : Small (todoRow m b t) := by
  intro q hq
  rcases todoRow_mem.1 hq with hq | ⟨i, hi, rfl⟩
  · exact h q hq
  · exact ⟨by show (0 : Int) ≤ i; omega, by show (i : Int) ≤ _; omega, hb.1, hb.2⟩
theorem todoCol_small {m : Nat} {a : Int} {t : List (Int × Int)} (h : Small t) (hm : m ≤ 1000000000000) (hb : 0 ≤ a ∧ a ≤ 1000000000000) : Small (todoCol a m t) := by
  intro q hq
  rcases todoCol_mem.1 hq with hq | ⟨i, hi, rfl⟩
  · exact h q hq
  · exact ⟨hb.1, hb.2, by show (0 : Int) ≤ i; omega, by show (i : Int) ≤ _; omega⟩
theorem todoRow_nodup {m : Nat} {b : Int} {t : List (Int × Int)} (h : t.Nodup) : (todoRow m b t).Nodup := (foldT _ _ _).2 h
theorem todoCol_nodup {m : Nat} {a : Int} {t : List (Int × Int)} (h : t.Nodup) : (todoCol a m t).Nodup := (foldT _ _ _).2 h
theorem lvx_lb_gens {w w1 : World} {B : Nat} {PB : Nat → Prop} {c : LC} {pt : Int} {gens : List (List Int)} {orb : List Int} {reps : List (Int × List Int)} {todo : List (Int × Int)} (h : LvX w B PB c pt gens orb reps todo) {o : Obj} (hg : (w.alloc o).grownBy w1 c.gv.ownBlock) : w1.heap[c.lb]? = w.heap[c.lb]? :=
  (hg.block c.lb (by rw [World.size_alloc]; exact Nat.lt_succ_of_lt (h.lt (.inl rfl))) (fun e => h.sep.gl e.symm)).trans (heap_alloc_old _ _ (h.lt (.inl rfl)))
section
variable {w0 w1 wr : World} {B n : Nat} {PB0 PB : Nat → Prop} {c0 c c' : LC} {pt : Int} {gens gens' : List (List Int)} {orb orb' : List Int} {reps reps' : List (Int × List Int)} {todo todo' : List (Int × Int)}
def Agree (PB : Nat → Prop) (w w' : World) : Prop := ∀ b, PB b → b < w.heap.size → w'.heap[b]? = w.heap[b]?
theorem PV.agree {w w' : World} {v : Value} {p : List Int} (h : PV w PB v p) (ha : Agree PB w w') : PV w' PB v p := Kd.V_step h ha
theorem PV.readAt {w w' : World} {ad : Addr} {m c : Nat} {p : List Int} (h : PV w PB (.slice (some ad) m c) p) (ha : Agree PB w w') : Kd.C (Kd.int .i64) w' (some ad) p.length p := by
  obtain ⟨A, c', e, _, hC⟩ := PV.read (PV.agree h ha)
  have e1 : some ad = A := by injection e
  rw [e1]
  exact hC
theorem AddSt.made (h : AddSt w0 B PB0 c0 wr PB c pt gens orb reps todo) (hb : Below wr.heap.size wr w1) {r : Value} {rp : List Int} (hr : PN wr.heap.size w1 r rp) :
    ∃ PB', AddSt w0 B PB0 c0 w1 PB' c pt gens orb reps todo ∧ PV w1 PB' r rp ∧ (∀ b, PB b → PB' b) ∧ ∀ b, c.Blk b → ¬ PB' b := by
  have hf : ∀ b, c.Blk b → ¬ (PB b ∨ (wr.heap.size ≤ b ∧ b < w1.heap.size)) := fun b hb' hp => hp.elim (h.lv.free b hb') (fun h2 => by have := h.lv.lt hb'; omega)
  refine ⟨fun b => PB b ∨ (wr.heap.size ≤ b ∧ b < w1.heap.size), ⟨?_, h.lb, h.chg.trans (Chg.of_below (S := fun _ => False) hb) (fun _ h => h.elim), h.blk, fun b hb' => .inl (h.up b hb'), fun b hb' => hb'.elim (h.pb b) (fun h2 => .inr (Nat.le_trans h.chg.size h2.1)), fun b hb' => hb'.elim (fun h2 => Nat.lt_of_lt_of_le (h.bd b h2) hb.size) (fun h2 => h2.2)⟩, hr.pv (fun b h1 h2 => .inr ⟨h1, h2⟩), fun b hb' => .inl hb', hf⟩
  have h1 := h.lv.chg (Chg.of_below (S := fun _ => False) hb) (fun _ _ => id)
  exact ⟨h1.cells, h1.gens.mono (fun b hb' => .inl hb'), h1.orb, h1.reps.mono (fun b hb' => .inl hb'), h1.todo, h1.base, hf, h1.ne⟩
theorem AddSt.putRep (h : AddSt w0 B PB0 c0 wr PB c pt gens orb reps todo) (hr : ∀ x : Int, x ∈ reps.map (·.1) → 0 ≤ x ∧ x < n) (hn : n ≤ 512) {x : Int} (h0 : 0 ≤ x) (h1 : x < n) (hno : x ∉ reps.map (·.1)) {r : Value} {rp : List Int} (hv : PV wr PB r rp) :
    ∃ w1, (Instr.mapUpdate 108 (.map (some c.rb)) (.int .i64 x) r).run Try.prog wr = .ok () w1 ∧ AddSt w0 B PB0 c0 w1 PB c pt gens orb (reps ++ [(x, rp)]) todo ∧ Agree PB wr w1 := by
  obtain ⟨w1, hrun, hR, hc⟩ := reps_put h.lv.reps hr hn h0 h1 hno hv (fun hp => h.lv.free _ (.inr (.inr (.inr (.inl rfl)))) hp)
  exact ⟨w1, hrun, h.step (lvx_reps h.lv hR hc) rfl (hc.mono (fun b e => .inr (.inr (.inr (.inl e))))) (fun b hb => .inl hb), fun b hb hlt => hc.keep b hlt (fun e => h.lv.free b (.inr (.inr (.inr (.inl e)))) hb)⟩
theorem AddSt.newRep (h : AddSt w0 B PB0 c0 wr PB c pt gens orb reps todo) (hr : ∀ x : Int, x ∈ reps.map (·.1) → 0 ≤ x ∧ x < n) (hn : n ≤ 512) {x : Int} (h0 : 0 ≤ x) (h1 : x < n) (hno : x ∉ reps.map (·.1)) (hb : Below wr.heap.size wr w1) {r : Value} {rp : List Int} (hv : PN wr.heap.size w1 r rp) :
    ∃ w2, (Instr.mapUpdate 108 (.map (some c.rb)) (.int .i64 x) r).run Try.prog w1 = .ok () w2 ∧ (∃ PB', AddSt w0 B PB0 c0 w2 PB' c pt gens orb (reps ++ [(x, rp)]) todo) ∧ Agree PB wr w1 ∧ Agree PB wr w2 ∧ w1.cell? ⟨c0.lb, 3, none⟩ = some (.map (some c.rb)) ∧ w2.cell? ⟨c0.lb, 3, none⟩ = some (.map (some c.rb)) := by
  obtain ⟨PB', hA, hpv, hup, hf⟩ := h.made hb hv
  obtain ⟨w2, hrun, hA2, hag⟩ := hA.putRep hr hn h0 h1 hno hpv
  obtain ⟨_, _, _, _, _, _, _, _, k1, _⟩ := hA.cells
  obtain ⟨_, _, _, _, _, _, _, _, k2, _⟩ := hA2.cells
  exact ⟨w2, hrun, ⟨PB', hA2⟩, fun b _ hlt => hb.block b hlt, fun b hp hlt => (hag b (hup b hp) (Nat.lt_of_lt_of_le hlt hb.size)).trans (hb.block b hlt), k1, k2⟩
theorem AddSt.pushOrb (h : AddSt w0 B PB0 c0 wr PB c pt gens orb reps todo) (hB : B ≤ wr.heap.size) {x : Int} {v' : Value}
    (ho : w1.ownsRow B 3 1 v' (orb.length + 1) (nums .i64 orb ++ [.int .i64 x])) (hg : (wr.alloc (.cells #[.int .i64 x] 3)).grownBy w1 c.ov.ownBlock) (hat : v'.ownBlock = c.ov.ownBlock ∨ v'.ownBlock = some (wr.heap.size + 1)) :
    ∃ c', AddSt w0 B PB0 c0 (w1.setCell ⟨c0.lb, 2, none⟩ v') PB c' pt gens (orb ++ [x]) reps todo ∧ c'.gv = c.gv := by
  obtain ⟨k1, k2, k3⟩ := lvx_orb h.lv h.bd hB ho hg hat
  rw [h.lb] at k1 k2 k3
  exact ⟨⟨c0.lb, c.gv, v', c.rb, c.tb⟩, h.step k1 h.lb.symm k2 k3, rfl⟩
theorem orb_at (h : LvX wr B PB c pt gens orb reps todo) {A : Option Addr} {m cap : Nat} (hov : c.ov = .slice A m cap) {k : Nat} {x : Int} (hx : orb[k]? = some x) : ∃ ad, A = some ad ∧ wr.cell? (ad.add k) = some (.int .i64 x) := by
  obtain ⟨A', c', e, hr⟩ := own_reads h.orb
  rw [hov] at e
  obtain ⟨e1, -, -⟩ : A = A' ∧ m = orb.length ∧ cap = c' := by injection e with a b c; exact ⟨a, b, c⟩
  subst e1
  obtain ⟨hk, e2⟩ := List.getElem?_eq_some_iff.1 hx
  obtain ⟨ad, e3, hc⟩ := hr.at_ (k : Int) (by omega) (by omega)
  refine ⟨ad, e3, ?_⟩
  rw [Int.toNat_natCast] at hc
  rw [hc]
  simp [rd, List.getD_eq_getElem?_getD, hx]
theorem gens_at {w : World} {v : Value} (h : GensAt w B PB v gens) {A : Option Addr} {m cap : Nat} (hv : v = .slice A m cap) {k : Nat} {p : List Int} (hp : gens[k]? = some p) : ∃ ad u, A = some ad ∧ w.cell? (ad.add k) = some u ∧ PV w PB u p := by
  obtain ⟨gs, ho, hg⟩ := h
  obtain ⟨u, hu, hpv⟩ := hg k p hp
  rcases ho.2 with ⟨h1, h2⟩ | ⟨g, cap', cur, h1, h2, h3, h4⟩
  · have := (List.getElem?_eq_some_iff.1 hp).1
    omega
  · rw [hv] at h1
    obtain ⟨e1, -, -⟩ : A = some ⟨g, 0, none⟩ ∧ m = gens.length ∧ cap = cap' := by injection h1 with a b c; exact ⟨a, b, c⟩
    exact ⟨_, u, e1, ho.cells (g := g) (by rw [hv, e1]; rfl) k u hu, hpv⟩
theorem growIn_some {gens : List (List Int)} {x y : Int} {g r : List Int} {b : Nat} {s : List (Int × List Int) × List (Int × Int)} (hg : gens[b]? = some g) (hy : rdl g x = y) (hl : lookA y s.1 = some r) : growIn gens x (gens.drop b) s = growIn gens x (gens.drop (b + 1)) s := by
  obtain ⟨h1, h2⟩ := List.getElem?_eq_some_iff.1 hg
  rw [List.drop_eq_getElem_cons h1, h2, growIn, hy, hl]
theorem growIn_none {gens : List (List Int)} {x y : Int} {g : List Int} {b : Nat} {s : List (Int × List Int) × List (Int × Int)} (hg : gens[b]? = some g) (hy : rdl g x = y) (hl : lookA y s.1 = none) :
    growIn gens x (gens.drop b) s = growIn gens x (gens.drop (b + 1)) (s.1 ++ [(y, thenL (repL s.1 x) g)], todoCol (s.1.length : Int) gens.length s.2) := by
  obtain ⟨h1, h2⟩ := List.getElem?_eq_some_iff.1 hg
  rw [List.drop_eq_getElem_cons h1, h2, growIn, hy, hl]
end
end Go.Proofs.Ytpkgckccfanchaa.M

namespace Go.Proofs.Ytpkgckccfanchaa.M
open Go.RowKit YtpkgckccfanchaaW.PrintWords YtpkgckccfanchaaW.PrintLast YtpkgckccfanchaaW.PrintMore
open Sims
set_option linter.unusedVariables false
set_option linter.unusedSimpArgs false
set_option maxHeartbeats 4000000 in
set_option maxRecDepth 100000 in
theorem add_region15 {Q : Exit → Act → World → Prop} {w : World} {lb m cx rb : Nat} {x y : Int} {adx : Addr} {ux : Value} {s1 s2 s3 s4 s5 s7 s9 s10 s11 s12 s13 s14 s15 s16 s17 s18 s19 s20 s21 s22 s23 s24 s25 s26 s27 s28 s29 s30 s31 s32 s33 s34 s35 s36 s37 s38 s39 s40 s41 s42 s43 s44 s45 s46 s47 s48 s49 s50 s51 s52 s53 s54 s55 s56 s57 s58 s59 s60 s61 s62 s63 s64 s65 s66 s67 s68 s69 s70 s71 s72 s73 s74 s75 s76 s77 s78 s79 s80 s81 s82 s83 s84 s85 s86 s87 s88 s89 s90 s91 s92 s93 s94 s95 s96 s97 s98 s99 s100 s101 s102 s103 s104 s105 s106 s107 s108 s109 s110 s111 s112 s113 s114 s115 s116 s117 s118 s119 s120 s121 s122 s123 s124 s125 s126 s127 s128 s129 s130 s131 : Value}
    (h3 : w.cell? ⟨lb, 3, none⟩ = some (.map (some rb))) (hy : w.cell? (adx.add x.toNat) = some (.int .i64 y)) (hx0 : 0 ≤ x) (hx1 : x < (m : Int))
    (hlx : (Instr.lookup 108 (.map (some rb)) (.int .i64 x) false).run Try.prog w.drew = .ok ux w.drew)
    (R : Value → World → World → Prop)
    (hcall : Calls Try.prog 78 #[ux, .slice (some adx) m cx] w.drew fun e w1 => ∃ rt, e = .returned rt ∧ ∃ w2, (Instr.mapUpdate 108 (.map (some rb)) (.int .i64 y) rt).run Try.prog w1 = .ok () w2 ∧ R rt w1 w2 ∧ w1.cell? ⟨lb, 3, none⟩ = some (.map (some rb)) ∧ w1.cell? (adx.add x.toNat) = some (.int .i64 y) ∧ w2.cell? ⟨lb, 3, none⟩ = some (.map (some rb)) ∧ w2.cell? (adx.add x.toNat) = some (.int .i64 y))
    (hQ : ∀ (w1 w2 : World) (rt t81 t82 t83 t84 t85 t86 t87 t88 t89 t90 t91 t92 t93 t94 t95 t96 : Value), R rt w1 w2 → Q .normal { tmps := #[.pointer (some ⟨lb, 0, none⟩), s1, s2, s3, s4, s5, .int .i64 x, s7, .slice (some adx) m cx, s9, s10, s11, s12, s13, s14, s15, s16, s17, s18, s19, s20, s21, s22, s23, s24, s25, s26, s27, s28, s29, s30, s31, s32, s33, s34, s35, s36, s37, s38, s39, s40, s41, s42, s43, s44, s45, s46, s47, s48, s49, s50, s51, s52, s53, s54, s55, s56, s57, s58, s59, s60, s61, s62, s63, s64, s65, s66, s67, s68, s69, s70, s71, s72, s73, s74, s75, s76, s77, s78, s79, s80, t81, t82, t83, t84, t85, t86, t87, t88, t89, t90, t91, t92, t93, t94, t95, t96, s97, s98, s99, s100, s101, s102, s103, s104, s105, s106, s107, s108, s109, s110, s111, s112, s113, s114, s115, s116, s117, s118, s119, s120, s121, s122, s123, s124, s125, s126, s127, s128, s129, s130, s131], defers := [] } w2) :
    (Code.region 15 #[{ dst := some 81, op := Go.Op.move (Go.Operand.tmp 0), type := 107, pos := "levels.go:78", after := #[], guard := none }, { dst := some 82, op := Go.Op.nilCheck (Go.Operand.tmp 81), type := 0, pos := "levels.go:78", after := #[{ on := 0, ground := Go.Ground.data }], guard := none }, { dst := some 83, op := Go.Op.fieldAddr 111 (Go.Operand.tmp 82) 3, type := 0, pos := "levels.go:78", after := #[{ on := 1, ground := Go.Ground.data }], guard := none }, { dst := some 84, op := Go.Op.load 108 (Go.Operand.tmp 83), type := 108, pos := "levels.go:78", after := #[{ on := 2, ground := Go.Ground.data }], guard := none }, { dst := some 85, op := Go.Op.move (Go.Operand.tmp 8), type := 28, pos := "levels.go:78", after := #[], guard := none }, { dst := some 86, op := Go.Op.move (Go.Operand.tmp 6), type := 3, pos := "levels.go:78", after := #[], guard := none }, { dst := some 87, op := Go.Op.indexAddr 28 (Go.Operand.tmp 85) (Go.Operand.tmp 86), type := 0, pos := "levels.go:78", after := #[{ on := 4, ground := Go.Ground.data }, { on := 5, ground := Go.Ground.data }], guard := none }, { dst := some 88, op := Go.Op.load 3 (Go.Operand.tmp 87), type := 3, pos := "levels.go:78", after := #[{ on := 6, ground := Go.Ground.data }], guard := none }, { dst := some 89, op := Go.Op.move (Go.Operand.tmp 0), type := 107, pos := "levels.go:78", after := #[], guard := none }, { dst := some 90, op := Go.Op.nilCheck (Go.Operand.tmp 89), type := 0, pos := "levels.go:78", after := #[{ on := 8, ground := Go.Ground.data }], guard := none }, { dst := some 91, op := Go.Op.fieldAddr 111 (Go.Operand.tmp 90) 3, type := 0, pos := "levels.go:78", after := #[{ on := 9, ground := Go.Ground.data }], guard := none }, { dst := some 92, op := Go.Op.load 108 (Go.Operand.tmp 91), type := 108, pos := "levels.go:78", after := #[{ on := 10, ground := Go.Ground.data }], guard := none }, { dst := some 93, op := Go.Op.move (Go.Operand.tmp 6), type := 3, pos := "levels.go:78", after := #[], guard := none }, { dst := some 94, op := Go.Op.lookup 108 (Go.Operand.tmp 92) (Go.Operand.tmp 93) false, type := 28, pos := "levels.go:78", after := #[{ on := 11, ground := Go.Ground.data }, { on := 12, ground := Go.Ground.data }], guard := none }, { dst := some 95, op := Go.Op.move (Go.Operand.tmp 8), type := 28, pos := "levels.go:78", after := #[], guard := none }, { dst := some 96, op := Go.Op.call { callee := Go.Callee.value (Go.Operand.func 78), args := #[Go.Operand.tmp 94, Go.Operand.tmp 95], argTypes := #[28, 28] }, type := 28, pos := "levels.go:78", after := #[{ on := 13, ground := Go.Ground.data }, { on := 14, ground := Go.Ground.data }], guard := none }, { dst := none, op := Go.Op.mapUpdate 108 (Go.Operand.tmp 84) (Go.Operand.tmp 88) (Go.Operand.tmp 96), type := 0, pos := "levels.go:78", after := #[{ on := 3, ground := Go.Ground.data }, { on := 7, ground := Go.Ground.data }, { on := 15, ground := Go.Ground.data }, { on := 15, ground := Go.Ground.chain }, { on := 0, ground := Go.Ground.phase }, { on := 1, ground := Go.Ground.phase }, { on := 2, ground := Go.Ground.phase }, { on := 3, ground := Go.Ground.phase }, { on := 4, ground := Go.Ground.phase }, { on := 5, ground := Go.Ground.phase }, { on := 6, ground := Go.Ground.phase }, { on := 7, ground := Go.Ground.phase }, { on := 8, ground := Go.Ground.phase }, { on := 9, ground := Go.Ground.phase }, { on := 10, ground := Go.Ground.phase }, { on := 11, ground := Go.Ground.phase }, { on := 12, ground := Go.Ground.phase }, { on := 13, ground := Go.Ground.phase }, { on := 14, ground := Go.Ground.phase }, { on := 15, ground := Go.Ground.phase }], guard := none }] true).wp Try.prog Q { tmps := #[.pointer (some ⟨lb, 0, none⟩), s1, s2, s3, s4, s5, .int .i64 x, s7, .slice (some adx) m cx, s9, s10, s11, s12, s13, s14, s15, s16, s17, s18, s19, s20, s21, s22, s23, s24, s25, s26, s27, s28, s29, s30, s31, s32, s33, s34, s35, s36, s37, s38, s39, s40, s41, s42, s43, s44, s45, s46, s47, s48, s49, s50, s51, s52, s53, s54, s55, s56, s57, s58, s59, s60, s61, s62, s63, s64, s65, s66, s67, s68, s69, s70, s71, s72, s73, s74, s75, s76, s77, s78, s79, s80, s81, s82, s83, s84, s85, s86, s87, s88, s89, s90, s91, s92, s93, s94, s95, s96, s97, s98, s99, s100, s101, s102, s103, s104, s105, s106, s107, s108, s109, s110, s111, s112, s113, s114, s115, s116, s117, s118, s119, s120, s121, s122, s123, s124, s125, s126, s127, s128, s129, s130, s131], defers := [] } w := by
  have HC := Aside0.mk hcall
  have HQ := Aside0.mk hQ
  clear hcall hQ
  go_region_held3 (fun W' => W'.cell? ⟨lb, 3, none⟩ = some (.map (some rb)) ∧ W'.cell? (adx.add x.toNat) = some (.int .i64 y)) ((first | exact ⟨h3, hy⟩ | exact ⟨hk1, hk2⟩ | exact ⟨hk3, hk4⟩)) (first | (go_at_call 78; (with_reducible refine HC.out.mono ?_); rintro e w1 ⟨rt, rfl, w2, hst, hR, hk1, hk2, hk3, hk4⟩; have HR := Aside0.mk hR; clear hR))
  exact HQ.out _ _ _ _ _ _ _ _ _ _ _ _ _ _ _ _ _ _ _ HR.out
set_option maxHeartbeats 4000000 in
set_option maxRecDepth 100000 in
theorem add_region16 {Q : Exit → Act → World → Prop} {w : World} {lb m cx B mo co : Nat} {x y : Int} {adx : Addr} {Ao : Option Addr} {xs : List Value} {s1 s2 s3 s4 s5 s7 s9 s10 s11 s12 s13 s14 s15 s16 s17 s18 s19 s20 s21 s22 s23 s24 s25 s26 s27 s28 s29 s30 s31 s32 s33 s34 s35 s36 s37 s38 s39 s40 s41 s42 s43 s44 s45 s46 s47 s48 s49 s50 s51 s52 s53 s54 s55 s56 s57 s58 s59 s60 s61 s62 s63 s64 s65 s66 s67 s68 s69 s70 s71 s72 s73 s74 s75 s76 s77 s78 s79 s80 s81 s82 s83 s84 s85 s86 s87 s88 s89 s90 s91 s92 s93 s94 s95 s96 s97 s98 s99 s100 s101 s102 s103 s104 s105 s106 s107 s108 s109 s110 s111 s112 s113 s114 s115 s116 s117 s118 s119 s120 s121 s122 s123 s124 s125 s126 s127 s128 s129 s130 s131 : Value}
    (h2 : w.cell? ⟨lb, 2, none⟩ = some (.slice Ao mo co)) (hf : w.frozen? ⟨lb, 2, none⟩ = false) (hy : w.cell? (adx.add x.toNat) = some (.int .i64 y)) (hx0 : 0 ≤ x) (hx1 : x < (m : Int)) (hlb : lb < w.heap.size) (hB : B ≤ w.heap.size) (hmo : mo < 1000000)
    (hown : w.ownsRow B 3 1 (.slice Ao mo co) mo xs) (hne : (Value.slice Ao mo co).ownBlock ≠ some lb)
    (hQ : ∀ (w1 : World) (g cap : Nat) (t97 t98 t99 t100 t101 t102 t103 t104 t105 t106 t107 t108 t109 : Value), w1.ownsRow B 3 1 (.slice (some ⟨g, 0, none⟩) (mo + 1) cap) (mo + 1) (xs ++ [.int .i64 y]) → (w.alloc (.cells #[.int .i64 y] 3)).grownBy w1 (Value.slice Ao mo co).ownBlock → ((Value.slice Ao mo co).ownBlock = some g ∨ g = w.heap.size + 1) → Q .normal { tmps := #[.pointer (some ⟨lb, 0, none⟩), s1, s2, s3, s4, s5, .int .i64 x, s7, .slice (some adx) m cx, s9, s10, s11, s12, s13, s14, s15, s16, s17, s18, s19, s20, s21, s22, s23, s24, s25, s26, s27, s28, s29, s30, s31, s32, s33, s34, s35, s36, s37, s38, s39, s40, s41, s42, s43, s44, s45, s46, s47, s48, s49, s50, s51, s52, s53, s54, s55, s56, s57, s58, s59, s60, s61, s62, s63, s64, s65, s66, s67, s68, s69, s70, s71, s72, s73, s74, s75, s76, s77, s78, s79, s80, s81, s82, s83, s84, s85, s86, s87, s88, s89, s90, s91, s92, s93, s94, s95, s96, t97, t98, t99, t100, t101, t102, t103, t104, t105, t106, t107, t108, t109, s110, s111, s112, s113, s114, s115, s116, s117, s118, s119, s120, s121, s122, s123, s124, s125, s126, s127, s128, s129, s130, s131], defers := [] } (w1.setCell ⟨lb, 2, none⟩ (.slice (some ⟨g, 0, none⟩) (mo + 1) cap))) :
    (Code.region 16 #[{ dst := some 97, op := Go.Op.move (Go.Operand.tmp 0), type := 107, pos := "levels.go:79", after := #[], guard := none }, { dst := some 98, op := Go.Op.move (Go.Operand.tmp 0), type := 107, pos := "levels.go:79", after := #[], guard := none }, { dst := some 99, op := Go.Op.nilCheck (Go.Operand.tmp 98), type := 0, pos := "levels.go:79", after := #[{ on := 1, ground := Go.Ground.data }], guard := none }, { dst := some 100, op := Go.Op.fieldAddr 111 (Go.Operand.tmp 99) 2, type := 0, pos := "levels.go:79", after := #[{ on := 2, ground := Go.Ground.data }], guard := none }, { dst := some 101, op := Go.Op.load 28 (Go.Operand.tmp 100), type := 28, pos := "levels.go:79", after := #[{ on := 3, ground := Go.Ground.data }], guard := none }, { dst := some 102, op := Go.Op.move (Go.Operand.tmp 8), type := 28, pos := "levels.go:79", after := #[], guard := none }, { dst := some 103, op := Go.Op.move (Go.Operand.tmp 6), type := 3, pos := "levels.go:79", after := #[], guard := none }, { dst := some 104, op := Go.Op.indexAddr 28 (Go.Operand.tmp 102) (Go.Operand.tmp 103), type := 0, pos := "levels.go:79", after := #[{ on := 5, ground := Go.Ground.data }, { on := 6, ground := Go.Ground.data }], guard := none }, { dst := some 105, op := Go.Op.load 3 (Go.Operand.tmp 104), type := 3, pos := "levels.go:79", after := #[{ on := 7, ground := Go.Ground.data }], guard := none }, { dst := some 106, op := Go.Op.buildSlice 28 1 #[(0, Go.Operand.tmp 105)], type := 28, pos := "levels.go:79", after := #[{ on := 8, ground := Go.Ground.data }], guard := none }, { dst := some 107, op := Go.Op.call { callee := Go.Callee.builtin Go.Builtin.append, args := #[Go.Operand.tmp 101, Go.Operand.tmp 106], argTypes := #[28, 28] }, type := 28, pos := "levels.go:79", after := #[{ on := 4, ground := Go.Ground.data }, { on := 9, ground := Go.Ground.data }], guard := none }, { dst := some 108, op := Go.Op.nilCheck (Go.Operand.tmp 97), type := 0, pos := "levels.go:79", after := #[{ on := 0, ground := Go.Ground.data }, { on := 0, ground := Go.Ground.phase }, { on := 1, ground := Go.Ground.phase }, { on := 2, ground := Go.Ground.phase }, { on := 3, ground := Go.Ground.phase }, { on := 4, ground := Go.Ground.phase }, { on := 5, ground := Go.Ground.phase }, { on := 6, ground := Go.Ground.phase }, { on := 7, ground := Go.Ground.phase }, { on := 8, ground := Go.Ground.phase }, { on := 9, ground := Go.Ground.phase }, { on := 10, ground := Go.Ground.phase }], guard := none }, { dst := some 109, op := Go.Op.fieldAddr 111 (Go.Operand.tmp 108) 2, type := 0, pos := "levels.go:79", after := #[{ on := 11, ground := Go.Ground.data }, { on := 0, ground := Go.Ground.phase }, { on := 1, ground := Go.Ground.phase }, { on := 2, ground := Go.Ground.phase }, { on := 3, ground := Go.Ground.phase }, { on := 4, ground := Go.Ground.phase }, { on := 5, ground := Go.Ground.phase }, { on := 6, ground := Go.Ground.phase }, { on := 7, ground := Go.Ground.phase }, { on := 8, ground := Go.Ground.phase }, { on := 9, ground := Go.Ground.phase }, { on := 10, ground := Go.Ground.phase }], guard := none }, { dst := none, op := Go.Op.store 28 (Go.Operand.tmp 109) (Go.Operand.tmp 107), type := 0, pos := "levels.go:79", after := #[{ on := 12, ground := Go.Ground.data }, { on := 10, ground := Go.Ground.data }, { on := 10, ground := Go.Ground.chain }, { on := 0, ground := Go.Ground.phase }, { on := 1, ground := Go.Ground.phase }, { on := 2, ground := Go.Ground.phase }, { on := 3, ground := Go.Ground.phase }, { on := 4, ground := Go.Ground.phase }, { on := 5, ground := Go.Ground.phase }, { on := 6, ground := Go.Ground.phase }, { on := 7, ground := Go.Ground.phase }, { on := 8, ground := Go.Ground.phase }, { on := 9, ground := Go.Ground.phase }, { on := 10, ground := Go.Ground.phase }], guard := none }] true).wp Try.prog Q { tmps := #[.pointer (some ⟨lb, 0, none⟩), s1, s2, s3, s4, s5, .int .i64 x, s7, .slice (some adx) m cx, s9, s10, s11, s12, s13, s14, s15, s16, s17, s18, s19, s20, s21, s22, s23, s24, s25, s26, s27, s28, s29, s30, s31, s32, s33, s34, s35, s36, s37, s38, s39, s40, s41, s42, s43, s44, s45, s46, s47, s48, s49, s50, s51, s52, s53, s54, s55, s56, s57, s58, s59, s60, s61, s62, s63, s64, s65, s66, s67, s68, s69, s70, s71, s72, s73, s74, s75, s76, s77, s78, s79, s80, s81, s82, s83, s84, s85, s86, s87, s88, s89, s90, s91, s92, s93, s94, s95, s96, s97, s98, s99, s100, s101, s102, s103, s104, s105, s106, s107, s108, s109, s110, s111, s112, s113, s114, s115, s116, s117, s118, s119, s120, s121, s122, s123, s124, s125, s126, s127, s128, s129, s130, s131], defers := [] } w := by
  have HQ := Aside0.mk hQ
  have HO := Aside0.mk hown
  have HNE := Aside0.mk hne
  have HB := Aside0.mk hB
  obtain ⟨i0, hi, hz0, hz1, hz2⟩ := info_parts info3
  have HI := Aside0.mk hi
  have HZ := Aside0.mk hz0
  have HZ1 := Aside0.mk hz1
  have HZ2 := Aside0.mk hz2
  have hcell : ∀ w1 : World, (w.alloc (.cells #[.int .i64 y] 3)).grownBy w1 (Value.slice Ao mo co).ownBlock → w1.heap[lb]? = w.heap[lb]? := fun w1 hg => (hg.block lb (by rw [World.size_alloc]; exact Nat.lt_succ_of_lt hlb) (fun e => hne e.symm)).trans (heap_alloc_old w _ hlb)
  have HC := Aside0.mk hcell
  have HSZ : Aside0 (((w.alloc (.cells #[.int .i64 y] 3)).drew).heap.size = w.heap.size + 1) := ⟨World.size_alloc _ _⟩
  have HBB : Aside0 (B ≤ ((w.alloc (.cells #[.int .i64 y] 3)).drew).heap.size) := ⟨by rw [HSZ.out]; exact Nat.le_succ_of_le HB.out⟩
  have HON : Aside0 (∀ u ∈ [Value.int .i64 y], u.oneCell' = true) := ⟨by simp [Value.oneCell']⟩
  have HML : Aside0 (mo + 1 ≤ maxLen) := ⟨by unfold maxLen; omega⟩
  have HBY : Aside0 ((mo + 1) * 8 ≤ 140737488355328) := ⟨by omega⟩
  clear hQ hown hne hcell hB hi hz0 hz1 hz2
  refine wp_region_noPanic ?_
  go_region_law ((refine step_append_lies _ rfl (.tmp 101) (.tmp 106) 28 rfl B 3 i0 (.int .i64 0) 1 8 Try.underlying28 HI.out HZ.out HZ1.out HZ2.out rfl (by decide) _ mo xs rfl (HO.out.alloc _).drew ⟨w.heap.size, 0, none⟩ 1 1 [.int .i64 y] rfl rfl (World.news_of_block (cs := #[.int .i64 y]) (t := 3) (fr := (0, 0)) (heap_alloc_new w _)) HON.out (by decide) HML.out HBY.out HBB.out (w.heap.size + 1) HSZ.out ?_; intro g cap w1 hown hgr0 hat hlt; have hgr : (w.alloc (.cells #[.int .i64 y] 3)).grownBy w1 (Value.slice Ao mo co).ownBlock := ⟨hgr0.os, hgr0.tape, hgr0.output, hgr0.size, hgr0.block⟩; have hx1' := (World.cell?_of_block (a := ⟨lb, 2, none⟩) (HC.out w1 hgr)).trans h2; have hx2' := (World.frozen?_of_block (a := ⟨lb, 2, none⟩) (HC.out w1 hgr)).trans hf; have HO1 := Aside0.mk hown; have HG1 := Aside0.mk hgr; have HT1 := Aside0.mk hat; clear hown hgr0 hgr hat))
  all_goals (refine NoPanic.normal ?_; exact HQ.out _ _ _ _ _ _ _ _ _ _ _ _ _ _ _ _ HO1.out HG1.out HT1.out)
end Go.Proofs.Ytpkgckccfanchaa.M

namespace Go.Proofs.Ytpkgckccfanchaa.M
open Go.RowKit YtpkgckccfanchaaW.PrintWords YtpkgckccfanchaaW.PrintLast YtpkgckccfanchaaW.PrintMore
open Sims
open Go.ChangeMaps (setBlock)
set_option linter.unusedVariables false
set_option linter.unusedSimpArgs false
variable {n : Nat} {w : World} {v : Value} {p : List Int}
set_option maxHeartbeats 4000000 in
set_option maxRecDepth 100000 in
theorem add_calls {B : Nat} {PB : Nat → Prop} {c : LC} {l : Lv} (hn : 0 < n) (hn' : n ≤ 512) (hl : LvAt w B PB c l) (hB : B ≤ w.heap.size) (hbd : ∀ b, PB b → b < w.heap.size) (hv : PV w PB v p)
    (hg : ∀ g ∈ l.gens ++ [p], IsP n g) (hpt : 0 ≤ l.point ∧ l.point < n) (hgr : GR n l.point (l.gens ++ [p]) l.reps) (hsm : Small l.todo) (htn : l.todo.Nodup) (hlen : l.gens.length < 1000000000000) :
    Calls Try.prog 107 #[.pointer (some ⟨c.lb, 0, none⟩), v] w fun e w' => ∃ c' PB', e = .returned (.tuple #[]) ∧ AddSt w B PB c w' PB' c' l.point (l.gens ++ [p]) (dom (addF n l p)) (addF n l p).reps (addF n l p).todo := by
  obtain ⟨gs, hgo, hgs⟩ := hl.gens
  obtain ⟨hc0, hc1, hc2, hc3, hc4⟩ := hl.cell
  obtain ⟨Ag, cg, hge⟩ := own_slice hgo
  rw [hge] at hc1
  have hf1 : w.frozen? ⟨c.lb, 1, none⟩ = false := by simp [World.frozen?, hl.cells]
  obtain ⟨i0, hi, hz0, hz1, hz2⟩ := info_parts infoSl
  have HI := Aside0.mk hi
  have HZ := Aside0.mk hz0
  have HZ1 := Aside0.mk hz1
  have HZ2 := Aside0.mk hz2
  have HG := Aside0.mk hgo
  have HGE := Aside0.mk hge
  rw [hge] at hgo
  have HG' := Aside0.mk hgo
  have HLB : Aside0 (c.lb < w.heap.size) := ⟨hl.lt (.inl rfl)⟩
  have HL := Aside0.mk hl
  have HV := Aside0.mk hv
  obtain ⟨Av, cv, rfl, -, -⟩ := PV.read hv
  clear hv hge hgo hi hz0 hz1 hz2 hc0 hc2 hc3 hc4
  go_enter Try.func107, Try.ntmps107
  go_upto_region 1 with (first | (at_builtin; go_must (refine wpList_append_own_at _ rfl (.tmp 16) (.tmp 18) 29 rfl B 28 i0 (.slice none 0 0) 1 24 Try.underlying29 HI.out HZ.out HZ1.out HZ2.out rfl (by decide) _ l.gens.length gs rfl (HG'.out.alloc _) ⟨w.heap.size, 0, none⟩ 1 1 [.slice Av p.length cv] rfl rfl (World.news_of_block (cs := #[.slice Av p.length cv]) (t := 28) (fr := (0, 0)) (heap_alloc_new w _)) (by simp [Value.oneCell']) (by unfold maxLen; omega) (by omega) (by simp; omega) ?_); rintro v1 w1 hown hgr1 - hat; obtain ⟨A1, c1, rfl⟩ := own_slice hown; have hgr2 : (w.alloc (.cells #[.slice Av p.length cv] 28)).grownBy w1 c.gv.ownBlock := (by rw [HGE.out]; exact hgr1); have hk := lvx_lb_gens HL.out hgr2; have hx1 := (World.cell?_of_block (a := ⟨c.lb, 1, none⟩) hk).trans hc1; have hx2 := (World.frozen?_of_block (a := ⟨c.lb, 1, none⟩) hk).trans hf1; have HO := Aside0.mk hown; have HGR := Aside0.mk hgr2; have HAT : Aside0 ((Value.slice A1 (l.gens.length + 1) c1).ownBlock = c.gv.ownBlock ∨ (Value.slice A1 (l.gens.length + 1) c1).ownBlock = some (w.heap.size + 1)) := ⟨by rw [HGE.out]; have h := hat; rw [World.size_alloc] at h; exact h⟩; clear hown hgr1 hgr2 hat hk))
  obtain ⟨wr, hwr⟩ : ∃ wr, wr = w1.setCell ⟨c.lb, 1, none⟩ (.slice A1 (l.gens.length + 1) c1) := ⟨_, rfl⟩
  rw [← hwr]
  have HS : Aside0 (∃ c' PB', AddSt w B PB c wr PB' c' l.point (l.gens ++ [p]) (dom l) l.reps l.todo ∧ c'.gv = .slice A1 (l.gens.length + 1) c1) := by
    have hgl : gs.length = l.gens.length := by have := HG.out.1; omega
    obtain ⟨k1, k2, k3⟩ := lvx_gens HL.out hbd hB HV.out hgl hgs HO.out HGR.out HAT.out
    rw [← hwr] at k1 k2
    refine ⟨⟨{ c with gv := .slice A1 (l.gens.length + 1) c1 }, PB, ?_, rfl⟩⟩
    exact ⟨k1, rfl, k2, k3, fun _ h => h, fun _ h => .inl h, fun b hb => Nat.lt_of_lt_of_le (hbd b hb) k2.size⟩
  have HN := Aside0.mk hn
  have HHG := Aside0.mk hg
  have HPT := Aside0.mk hpt
  have HGRR := Aside0.mk hgr
  have HSM := Aside0.mk hsm
  have HTN := Aside0.mk htn
  have HB := Aside0.mk hB
  clear hwr HG HG' HGE HV HL HI HZ HZ1 HZ2 hgs hl hc1 hf1 hx1 hx2 HO HGR HAT HLB hbd hg hpt hgr hsm htn hB hn
  obtain ⟨c', PB', hS, hgv⟩ := HS.out
  obtain ⟨Ac, cc, Ao, co, -, -, hc1, hc2, hc3, hc4⟩ := hS.cells
  have hlo : (dom l).length = l.reps.length := by simp [dom]
  rw [hlo] at hc2
  obtain ⟨m0, hm0⟩ : ∃ m0, l.reps.length = m0 := ⟨_, rfl⟩
  rw [hm0] at hc2
  obtain ⟨g0, hg0⟩ : ∃ g0, l.gens.length = g0 := ⟨_, rfl⟩
  have hgl1 : (l.gens ++ [p]).length = g0 + 1 := by rw [List.length_append, hg0]; rfl
  have hm0' : m0 ≤ 512 := by have := HGRR.out.length; omega
  have hg0' : g0 < 1000000000000 := by omega
  have HS1 : Aside0 (∃ c' PB', AddSt w B PB c wr PB' c' l.point (l.gens ++ [p]) (dom l) l.reps (todoRow 0 (g0 : Int) l.todo)) := ⟨⟨c', PB', hS⟩⟩
  have HM0 := Aside0.mk hm0
  have HG0 := Aside0.mk hg0
  have HGL := Aside0.mk hgl1
  clear hlo hm0 hg0 hgl1 hS hgv hc1 hc3 hc4 HS hlen
  go_wp2_with (fail)
  go_loopw [27] (fun i wq => ∃ k : Nat, k ≤ m0 ∧ i = .int .i64 k ∧ Aside0 (∃ c' PB', AddSt w B PB c wq PB' c' l.point (l.gens ++ [p]) (dom l) l.reps (todoRow k (g0 : Int) l.todo))) (fun i _ => m0 - (intOf i).toNat)
  case atStart => exact ⟨0, by omega, rfl, HS1⟩
  case round =>
    obtain ⟨k, hk, rfl, HS⟩ := hrel
    by_cases hlt : k < m0
    · obtain ⟨c', PB', hS⟩ := HS.out
      obtain ⟨Ac, cc, Ao, co, -, -, hc1, -, -, hc4⟩ := hS.cells
      rw [HGL.out] at hc1
      obtain ⟨w2, hst, hS2⟩ := hS.drew1.putTodo (todoRow_small HSM.out (by omega) ⟨by omega, by omega⟩) (todoRow_nodup HTN.out) (k := ((k : Int), (g0 : Int))) ⟨by show (0 : Int) ≤ k; omega, by show (k : Int) ≤ _; omega, by show (0 : Int) ≤ g0; omega, by show (g0 : Int) ≤ _; omega⟩
      rw [← todoRow_succ] at hS2
      have HS2 := Aside0.mk hS2
      have hlt2 : (k : Int) < m0 := by omega
      have hw1 : IntKind.i64.wrap (g0 : Int) = (g0 : Int) := IntWalk.i64_in _ (by omega)
      dsimp only at hst
      clear hS hS2 HS
      go_wp2_with (fail)
      go_still_tail 12, (by kernel_rfl)
      change wpList _ _ _ _ _ wr.drew
      go_wp2_with (fail)
      go_roundw
      case rel => exact ⟨k + 1, by omega, by go_num, ⟨_, _, HS2.out⟩⟩
      case measure => simp [intOf]; omega
    · obtain rfl : k = m0 := by omega
      clear hlt
      have HS0 : Aside0 (∃ (c' : LC) (PB' : Nat → Prop), AddSt w B PB c wr PB' c' l.point (l.gens ++ [p]) (l.reps.map (·.1)) l.reps (todoRow l.reps.length (l.gens.length : Int) l.todo)) := ⟨by
        obtain ⟨c', PB', h⟩ := HS.out
        rw [HM0.out, HG0.out]
        exact ⟨c', PB', h⟩⟩
      have HT0 : Aside0 (Small (todoRow l.reps.length (l.gens.length : Int) l.todo) ∧ (todoRow l.reps.length (l.gens.length : Int) l.todo).Nodup) := ⟨todoRow_small HSM.out (by rw [HM0.out]; omega) ⟨by omega, by rw [HG0.out]; omega⟩, todoRow_nodup HTN.out⟩
      clear HS HM0 HG0
      obtain ⟨s0, hs0⟩ : ∃ s0, s0 = (l.reps, todoRow l.reps.length (l.gens.length : Int) l.todo) := ⟨_, rfl⟩
      have HF0 : Aside0 (grow (l.gens ++ [p]) (n + 1) 0 s0 = ((addF n l p).reps, (addF n l p).todo)) := ⟨by rw [hs0]; rfl⟩
      have HS1 : Aside0 (∃ (c' : LC) (PB' : Nat → Prop), AddSt w B PB c wr PB' c' l.point (l.gens ++ [p]) (s0.1.map (·.1)) s0.1 s0.2) := ⟨by rw [hs0]; exact HS0.out⟩
      have HG1 : Aside0 (GR n l.point (l.gens ++ [p]) s0.1) := ⟨by rw [hs0]; exact HGRR.out⟩
      have HT1 : Aside0 (Small s0.2 ∧ s0.2.Nodup) := ⟨by rw [hs0]; exact HT0.out⟩
      clear hs0 HS0 HT0 HGRR HSM HTN
      go_wp2_with (fail)
      go_loopw [5] (fun i wr => ∃ (k f : Nat) (s : List (Int × List Int) × List (Int × Int)), i = .int .i64 k ∧ k ≤ n ∧ Aside0 (n + 1 ≤ f + k) ∧ Aside0 (∃ (c' : LC) (PB' : Nat → Prop), AddSt w B PB c wr PB' c' l.point (l.gens ++ [p]) (s.1.map (·.1)) s.1 s.2) ∧ Aside0 (GR n l.point (l.gens ++ [p]) s.1) ∧ Aside0 (Small s.2 ∧ s.2.Nodup) ∧ Aside0 (grow (l.gens ++ [p]) f k s = ((addF n l p).reps, (addF n l p).todo))) (fun i _ => n + 1 - (intOf i).toNat)
      case atStart => exact ⟨0, n + 1, s0, rfl, by omega, ⟨by omega⟩, HS1, HG1, HT1, HF0⟩
      case round =>
        clear HS1 HG1 HT1 HF0
        obtain ⟨k, f, s, rfl, hkn, HFK, HS, HG1, HT1, HF⟩ := hrel
        obtain ⟨ca, PBa, hS⟩ := HS.out
        obtain ⟨Ac, cc, Ao, co, hgv, hov, hc1, hc2, -, -⟩ := hS.cells
        rw [HGL.out] at hc1
        rw [List.length_map] at hc2
        obtain ⟨ms, hms⟩ : ∃ ms, s.1.length = ms := ⟨_, rfl⟩
        rw [hms] at hc2
        have HMS := Aside0.mk hms
        have hmsn : ms ≤ n := by have := HG1.out.length; omega
        clear hms HS
        by_cases hlt : k < ms
        · obtain ⟨f, rfl⟩ : ∃ f', f = f' + 1 := ⟨f - 1, by have := HFK.out; omega⟩
          obtain ⟨q, hq⟩ : ∃ q, s.1[k]? = some q := ⟨s.1[k]'(by have := HMS.out; omega), List.getElem?_eq_getElem _⟩
          have HF2 : Aside0 (grow (l.gens ++ [p]) f (k + 1) (growIn (l.gens ++ [p]) q.1 (l.gens ++ [p]) s) = ((addF n l p).reps, (addF n l p).todo)) := ⟨by
            have hf := HF.out
            rw [grow, hq] at hf
            exact hf⟩
          obtain ⟨ado, rfl, hco⟩ := orb_at hS.lv hov (k := k) (x := q.1) (by rw [List.getElem?_map, hq]; rfl)
          have hqm : q.1 ∈ s.1.map (·.1) := List.mem_map.2 ⟨q, List.mem_of_getElem? hq, rfl⟩
          obtain ⟨x, hx⟩ : ∃ x, q.1 = x := ⟨_, rfl⟩
          rw [hx] at hco hqm HF2
          have hlt2 : (k : Int) < ms := by omega
          have HQM := Aside0.mk hqm
          have HXR := Aside0.mk (HG1.out.rng x hqm)
          have HS2 : Aside0 (∃ (c' : LC) (PB' : Nat → Prop), AddSt w B PB c wr PB' c' l.point (l.gens ++ [p]) (s.1.map (·.1)) s.1 s.2 ∧ c'.gv = .slice Ac (g0 + 1) cc) := ⟨ca, PBa, hS, by rw [hgv, HGL.out]⟩
          have HFK2 : Aside0 (n + 1 ≤ f + (k + 1)) := ⟨by have := HFK.out; omega⟩
          clear hS hgv hov hq hx hqm HF HFK HMS
          go_wp2_with (fail)
          go_loopw [64] (fun i wr => ∃ (b : Nat) (s' : List (Int × List Int) × List (Int × Int)), i = .int .i64 b ∧ b ≤ g0 + 1 ∧ Aside0 (∃ (c' : LC) (PB' : Nat → Prop), AddSt w B PB c wr PB' c' l.point (l.gens ++ [p]) (s'.1.map (·.1)) s'.1 s'.2 ∧ c'.gv = .slice Ac (g0 + 1) cc) ∧ Aside0 (GR n l.point (l.gens ++ [p]) s'.1) ∧ Aside0 (Small s'.2 ∧ s'.2.Nodup) ∧ Aside0 (x ∈ s'.1.map (·.1)) ∧ Aside0 (growIn (l.gens ++ [p]) x ((l.gens ++ [p]).drop b) s' = growIn (l.gens ++ [p]) x (l.gens ++ [p]) s)) (fun i _ => g0 + 1 - (intOf i).toNat)
          case atStart => exact ⟨0, s, rfl, by omega, HS2, HG1, HT1, HQM, ⟨rfl⟩⟩
          case round =>
            clear HS2 HG1 HT1 HQM hc1 hc2 hco
            obtain ⟨b, s', rfl, hb, HS, HG1, HT1, HQM, HGI⟩ := hrel
            obtain ⟨ca, PBa, hS, hgv⟩ := HS.out
            by_cases hltb : b < g0 + 1
            · obtain ⟨g, hgb⟩ : ∃ g, (l.gens ++ [p])[b]? = some g := ⟨(l.gens ++ [p])[b]'(by have := HGL.out; omega), List.getElem?_eq_getElem _⟩
              obtain ⟨adg, u, rfl, hcu, hpu⟩ := gens_at hS.lv.gens hgv hgb
              have hgm : g ∈ l.gens ++ [p] := List.mem_of_getElem? hgb
              have hgp := HHG.out g hgm
              obtain ⟨Ax, cx, rfl, hcx, hCx⟩ := PV.read hpu
              obtain ⟨adx, rfl⟩ := PV.addr hCx (by rw [hgp.len]; exact HN.out)
              have hx0 := HXR.out.1
              have hx1 : x < (g.length : Int) := by rw [hgp.len]; exact HXR.out.2
              have hcy := PV.at_ hCx hx0 hx1
              have hyr := hgp.rd hx0 HXR.out.2
              obtain ⟨y, hy⟩ : ∃ y, rdl g x = y := ⟨_, rfl⟩
              rw [hy] at hcy hyr
              obtain ⟨-, -, -, -, -, -, -, -, hc3, -⟩ := hS.cells
              obtain ⟨uu, r', fl, hlook, hcase⟩ := reps_look hS.lv.reps HG1.out.rng hn' HG1.out.nd hyr.1 hyr.2
              have hl1 : ∀ m, (Instr.lookup 108 (.map (some ca.rb)) (.int .i64 y) true).run Try.prog (wr.drewN m) = .ok (.tuple #[uu, .bool fl]) (wr.drewN m) := fun m => hlook (wr.drewN m) true rfl
              have hltb2 : (b : Int) < (g0 : Int) + 1 := by omega
              have HS3 := Aside0.mk hS
              have HGV := Aside0.mk hgv
              have HGB := Aside0.mk hgb
              have HPU := Aside0.mk hpu
              have HGP := Aside0.mk hgp
              have HGM := Aside0.mk hgm
              have HY := Aside0.mk hy
              have HYR := Aside0.mk hyr
              have HLOOK := Aside0.mk hlook
              clear hS hgv hpu hgp hgm hy hgb hcx hCx hlook HS hyr
              rcases hcase with ⟨rfl, hlk, hu⟩ | ⟨rfl, hlk, rfl⟩
              · have HGI : Aside0 (growIn (l.gens ++ [p]) x ((l.gens ++ [p]).drop (b + 1)) s' = growIn (l.gens ++ [p]) x (l.gens ++ [p]) s) := ⟨(growIn_some HGB.out HY.out hlk).symm.trans HGI.out⟩
                clear hlk hu HGB HYR HY HPU HGM HLOOK
                go_wp2_with (fail)
                go_quiet (fail)
                go_wp2_with (fail)
                go_roundw
                case rel => exact ⟨b + 1, s', by go_num, by omega, ⟨⟨ca, PBa, HS3.out.drew nq, HGV.out⟩⟩, HG1, HT1, HQM, HGI⟩
                case measure => simp [intOf]; omega
              · have HLK := Aside0.mk hlk
                have HGI := Aside0.mk ((growIn_none HGB.out HY.out hlk).symm.trans HGI.out)
                clear hlk HGB
                go_wp2_with (fail)
                go_quiet (fail)
                go_wp2_with (fail)
                obtain ⟨wa, hwa⟩ : ∃ wa, wa = wr.drewN nq := ⟨_, rfl⟩
                rw [← hwa]
                have HSA : Aside0 (AddSt w B PB c wa PBa ca l.point (l.gens ++ [p]) (s'.1.map (·.1)) s'.1 s'.2) := ⟨by rw [hwa]; exact HS3.out.drew nq⟩
                have HPA : Aside0 (PV wa PBa (.slice (some adx) g.length cx) g) := ⟨by rw [hwa]; exact Kd.V_drewN HPU.out nq⟩
                have hc3a : wa.cell? ⟨c.lb, 3, none⟩ = some (.map (some ca.rb)) := by rw [hwa]; exact hc3
                have hcya : wa.cell? (adx.add x.toNat) = some (.int .i64 y) := by rw [hwa]; exact hcy
                clear hwa hc3 hcy hcu hl1 HLOOK HS3 HPU
                obtain ⟨ux, rx, fx, hlookx, hcasex⟩ := reps_look HSA.out.lv.reps HG1.out.rng hn' HG1.out.nd HXR.out.1 HXR.out.2
                have hxr : Aside0 (lookA x s'.1 = some (repL s'.1 x)) := ⟨by
                  obtain ⟨r, hr⟩ := lookA_some HQM.out
                  rw [hr]; unfold repL; rw [hr]; rfl⟩
                have hpx : Aside0 (PV wa PBa ux (repL s'.1 x)) := ⟨by
                  rcases hcasex with ⟨_, h1, h2⟩ | ⟨_, h1, _⟩
                  · rw [hxr.out] at h1; cases h1; exact h2
                  · rw [hxr.out] at h1; cases h1⟩
                have hlx : (Instr.lookup 108 (.map (some ca.rb)) (.int .i64 x) false).run Try.prog wa.drew = .ok ux wa.drew := hlookx wa.drew false rfl
                have hno : Aside0 (y ∉ s'.1.map (·.1)) := ⟨lookA_none.1 HLK.out⟩
                have hipx : Aside0 (IsP n (repL s'.1 x)) := ⟨(HG1.out.rep x HQM.out).1⟩
                clear hlookx hcasex hxr HLK
                obtain ⟨r2, hr2⟩ : ∃ r2, r2 = s'.1 ++ [(y, thenL (repL s'.1 x) g)] := ⟨_, rfl⟩
                have HR2 := Aside0.mk hr2
                have hcall : Calls Try.prog 78 #[ux, .slice (some adx) g.length cx] wa.drew fun e w1 => ∃ rt, e = .returned rt ∧ ∃ w2, (Instr.mapUpdate 108 (.map (some ca.rb)) (.int .i64 y) rt).run Try.prog w1 = .ok () w2 ∧ (∃ PB', AddSt w B PB c w2 PB' ca l.point (l.gens ++ [p]) (s'.1.map (·.1)) r2 s'.2) ∧ w1.cell? ⟨c.lb, 3, none⟩ = some (.map (some ca.rb)) ∧ w1.cell? (adx.add x.toNat) = some (.int .i64 y) ∧ w2.cell? ⟨c.lb, 3, none⟩ = some (.map (some ca.rb)) ∧ w2.cell? (adx.add x.toNat) = some (.int .i64 y) := by
                  refine (then_pv HN.out hn' (Kd.V_drew hpx.out) (Kd.V_drew HPA.out) hipx.out HGP.out).mono ?_
                  rintro e w1 ⟨rt, rfl, hR, hb⟩
                  obtain ⟨w2, hst, hA2, hag1, hag2, hk1, hk3⟩ := HSA.out.drew1.newRep HG1.out.rng hn' HYR.out.1 HYR.out.2 hno.out hb hR
                  have hk2 := PV.at_ (PV.readAt (Kd.V_drew HPA.out) hag1) hx0 hx1
                  have hk4 := PV.at_ (PV.readAt (Kd.V_drew HPA.out) hag2) hx0 hx1
                  rw [HY.out] at hk2 hk4
                  exact ⟨rt, rfl, w2, hst, by rw [hr2]; exact hA2, hk1, hk2, hk3, hk4⟩
                clear hr2
                refine add_region15 hc3a hcya hx0 hx1 hlx (fun _ _ w2 => (∃ PB', AddSt w B PB c w2 PB' ca l.point (l.gens ++ [p]) (s'.1.map (·.1)) r2 s'.2) ∧ w2.cell? (adx.add x.toNat) = some (.int .i64 y)) (hcall.mono (fun e w1 ⟨rt, h1, w2, h2, h3, h4, h5, h6, h7⟩ => ⟨rt, h1, w2, h2, ⟨h3, h7⟩, h4, h5, h6, h7⟩)) ?_
                rintro w1 w2 rt t81 t82 t83 t84 t85 t86 t87 t88 t89 t90 t91 t92 t93 t94 t95 t96 ⟨⟨PBb, hA2⟩, hy2⟩
                clear hcall hc3a hcya hlx HSA HPA hpx hipx
                obtain ⟨-, -, Ao2, co2, -, hov2, -, hc22, -, -⟩ := hA2.cells
                rw [List.length_map] at hc22 hov2
                obtain ⟨mo, hmo⟩ : ∃ mo, s'.1.length = mo := ⟨_, rfl⟩
                rw [hmo] at hc22 hov2
                have hmon : mo ≤ n := by have := HG1.out.length; omega
                have HA2 := Aside0.mk hA2
                have HOV := Aside0.mk hov2
                have HMO := Aside0.mk hmo
                clear hA2 hov2 hmo
                go_wp2_with (fail)
                have hf22 : w2.frozen? ⟨c.lb, 2, none⟩ = false := by
                  have h := HA2.out.lv.cells
                  rw [HA2.out.lb] at h
                  simp [World.frozen?, h]
                have hlb2 : c.lb < w2.heap.size := by
                  have h := HA2.out.lv.lt (.inl rfl)
                  rwa [HA2.out.lb] at h
                have hB2 : B ≤ w2.heap.size := Nat.le_trans HB.out HA2.out.chg.size
                have hown2 : w2.ownsRow B 3 1 (.slice Ao2 mo co2) mo (nums .i64 (s'.1.map (·.1))) := by
                  have h := HA2.out.lv.orb
                  rw [HOV.out, List.length_map, HMO.out] at h
                  exact h
                have hne2 : (Value.slice Ao2 mo co2).ownBlock ≠ some c.lb := by
                  have h := HA2.out.lv.sep.ol
                  rwa [HA2.out.lb, HOV.out] at h
                refine add_region16 hc22 hf22 hy2 hx0 hx1 hlb2 hB2 (by omega) hown2 hne2 ?_
                intro w3 g2 cap2 q97 q98 q99 q100 q101 q102 q103 q104 q105 q106 q107 q108 q109 ho3 hg3 hat3
                clear hc22 hf22 hlb2 hB2 hown2 hne2 hy2
                obtain ⟨w4, hw4⟩ : ∃ w4, w4 = w3.setCell ⟨c.lb, 2, none⟩ (.slice (some ⟨g2, 0, none⟩) (mo + 1) cap2) := ⟨_, rfl⟩
                rw [← hw4]
                have HA3 : Aside0 (∃ (c' : LC) (PB' : Nat → Prop), AddSt w B PB c w4 PB' c' l.point (l.gens ++ [p]) (r2.map (·.1)) r2 (todoCol (mo : Int) 0 s'.2) ∧ c'.gv = .slice (some adg) (g0 + 1) cc) := ⟨by
                  obtain ⟨cb, h1, h2⟩ := HA2.out.pushOrb (x := y) (v' := .slice (some ⟨g2, 0, none⟩) (mo + 1) cap2) (Nat.le_trans HB.out HA2.out.chg.size) (by rw [List.length_map, HMO.out]; exact ho3) (by rw [HOV.out]; exact hg3) (by
                    rw [HOV.out]
                    rcases hat3 with h | h
                    · exact .inl h.symm
                    · exact .inr (by rw [h]; rfl))
                  rw [← hw4] at h1
                  refine ⟨cb, PBb, ?_, h2.trans HGV.out⟩
                  have e : r2.map (·.1) = s'.1.map (·.1) ++ [y] := by rw [HR2.out, List.map_append]; rfl
                  rw [e]
                  exact h1⟩
                have HSM2 : Aside0 (Small s'.2 ∧ s'.2.Nodup) := HT1
                have HR2L : Aside0 (r2.length = mo + 1) := ⟨by rw [HR2.out, List.length_append, HMO.out]; rfl⟩
                clear hw4 ho3 hg3 hat3 HA2 HOV
                obtain ⟨cb, PBc, hA3, hgv3⟩ := HA3.out
                obtain ⟨Ag3, cg3, -, -, -, -, hc13, -, -, -⟩ := hA3.cells
                rw [HGL.out] at hc13
                clear hA3 hgv3
                go_wp2_with (fail)
                go_loopw [115] (fun i wr => ∃ k2 : Nat, i = .int .i64 k2 ∧ k2 ≤ g0 + 1 ∧ Aside0 (∃ (c' : LC) (PB' : Nat → Prop), AddSt w B PB c wr PB' c' l.point (l.gens ++ [p]) (r2.map (·.1)) r2 (todoCol (mo : Int) k2 s'.2) ∧ c'.gv = .slice (some adg) (g0 + 1) cc)) (fun i _ => g0 + 1 - (intOf i).toNat)
                case atStart => exact ⟨0, rfl, by omega, HA3⟩
                case round =>
                  clear HA3 hc13
                  obtain ⟨k2, rfl, hk2, HA3⟩ := hrel
                  obtain ⟨cb2, PBd, hA3, hgv3⟩ := HA3.out
                  by_cases hlt4 : k2 < g0 + 1
                  · obtain ⟨-, -, Ao4, co4, -, -, -, hc24, -, hc44⟩ := hA3.cells
                    rw [List.length_map, HR2L.out] at hc24
                    obtain ⟨w5, hst, hS5⟩ := hA3.drew1.putTodo (todoCol_small HSM2.out.1 (by omega) ⟨by omega, by omega⟩) (todoCol_nodup HSM2.out.2) (k := ((mo : Int), (k2 : Int))) ⟨by show (0 : Int) ≤ mo; omega, by show (mo : Int) ≤ _; omega, by show (0 : Int) ≤ k2; omega, by show (k2 : Int) ≤ _; omega⟩
                    rw [← todoCol_succ] at hS5
                    have HS5 := Aside0.mk hS5
                    have HGV5 := Aside0.mk hgv3
                    have hlt5 : (k2 : Int) < (g0 : Int) + 1 := by omega
                    have hw5 : IntKind.i64.wrap (mo : Int) = (mo : Int) := IntWalk.i64_in _ (by omega)
                    dsimp only at hst
                    clear hS5 hA3 hgv3 HA3
                    go_wp2_with (fail)
                    go_still_tail 12, (by kernel_rfl)
                    change wpList _ _ _ _ _ wr.drew
                    go_wp2_with (fail)
                    go_roundw
                    case rel => exact ⟨k2 + 1, by go_num, by omega, ⟨⟨cb2, PBd, HS5.out, HGV5.out⟩⟩⟩
                    case measure => simp [intOf]; omega
                  · obtain rfl : k2 = g0 + 1 := by omega
                    have HGR5 : Aside0 (GR n l.point (l.gens ++ [p]) r2) := ⟨by
                      have h := HG1.out.snoc HPT.out HQM.out HGM.out HGP.out (by rw [HY.out]; exact hno.out)
                      rw [HY.out] at h
                      rw [HR2.out]
                      exact h⟩
                    have HT5 : Aside0 (Small (todoCol (mo : Int) (g0 + 1) s'.2) ∧ (todoCol (mo : Int) (g0 + 1) s'.2).Nodup) := ⟨todoCol_small HSM2.out.1 (by omega) ⟨by omega, by omega⟩, todoCol_nodup HSM2.out.2⟩
                    have HQ5 : Aside0 (x ∈ r2.map (·.1)) := ⟨by rw [HR2.out, List.map_append, List.mem_append]; exact .inl HQM.out⟩
                    have HGI5 : Aside0 (growIn (l.gens ++ [p]) x ((l.gens ++ [p]).drop (b + 1)) (r2, todoCol (mo : Int) (g0 + 1) s'.2) = growIn (l.gens ++ [p]) x (l.gens ++ [p]) s) := ⟨by
                      have h := HGI.out
                      rw [HMO.out, HGL.out, ← HR2.out] at h
                      exact h⟩
                    clear hlt4 hA3 hgv3
                    go_wp2_with (fail)
                    go_roundw
                    case rel => exact ⟨b + 1, (r2, todoCol (mo : Int) (g0 + 1) s'.2), by go_num, by omega, HA3, HGR5, HT5, HQ5, HGI5⟩
                    case measure => simp [intOf]; omega
            · obtain rfl : b = g0 + 1 := by omega
              have HE : Aside0 (s' = growIn (l.gens ++ [p]) x (l.gens ++ [p]) s) := ⟨by
                have := HGI.out
                rwa [List.drop_eq_nil_of_le (by have := HGL.out; omega)] at this⟩
              have HA := Aside0.mk hS
              clear hS hgv HS HGI hltb hb
              go_wp2_with (fail)
              go_roundw
              case rel =>
                refine ⟨k + 1, f, s', by go_num, by omega, HFK2, ⟨⟨ca, PBa, HA.out⟩⟩, HG1, HT1, ?_⟩
                rw [HE.out]
                exact HF2
              case measure => simp [intOf]; omega
        · have HR : Aside0 (s = ((addF n l p).reps, (addF n l p).todo)) := ⟨by
            have hf := HF.out
            cases f with
            | zero => rwa [grow] at hf
            | succ f =>
              rw [grow] at hf
              have hn0 : s.1[k]? = none := List.getElem?_eq_none (by have := HMS.out; omega)
              rw [hn0] at hf
              exact hf⟩
          have HA := Aside0.mk hS
          clear hS HF HFK hc1 hgv hov
          go_wp2_with (fail)
          go_end0
          have hr := HR.out
          subst hr
          exact ⟨ca, PBa, rfl, HA.out⟩
end Go.Proofs.Ytpkgckccfanchaa.M

namespace Go.Proofs.Ytpkgckccfanchaa.M
open Go.RowKit YtpkgckccfanchaaW.PrintWords YtpkgckccfanchaaW.PrintLast YtpkgckccfanchaaW.PrintMore
open Sims
open Go.ChangeMaps (setBlock)
set_option linter.unusedVariables false
set_option linter.unusedSimpArgs false
variable {n : Nat} {ok ok' : Nat → Prop} {w : World} {v u : Value} {p q : List Int}
theorem infoLv : (Try.prog.info? 107).map (fun i => (i.zero, i.size, i.bytes)) = some (some (.pointer none), 1, 8) := by kernel_rfl
theorem GrAt.cut {B g : Nat} {PB : Nat → Prop} {av : Value} {cs : List LC} {ls : List Lv} (h : GrAt w B PB g n av cs ls) {k : Nat} (hk : k ≤ cs.length) :
    ∃ (A A' : Option Addr) (cap : Nat), av = .slice A cs.length cap ∧ (∀ W : World, (Instr.slice 104 (.slice A cs.length cap) (some (.int .i64 (k : Int))) none none).run Try.prog W = .ok (.slice A' (cs.length - k) (cap - k)) W) ∧
      ∀ (j : Nat), k + j < cs.length → ∃ (ad : Addr) (c : LC), A' = some ad ∧ cs[k + j]? = some c ∧ w.cell? (ad.add j) = some c.ptr ∧ (ad.add j).block < w.heap.size := by
  obtain ⟨i, hi, _, hs1, _⟩ := info_parts infoLv
  have hel : Try.prog.elem 104 = 107 := by kernel_rfl
  have hu : Try.prog.underlying 104 = some (.slice (Try.prog.elem 104)) := by rw [hel]; exact Try.underlying104
  obtain ⟨A, cap, e⟩ := own_slice h.arr
  refine ⟨A, if cap = k then A else A.map (·.add k), cap, e, fun W => ?_, fun j hj => ?_⟩
  · rw [run_slice_l W 104 A cs.length cap hu .i64 (k : Int) (Int.natCast_nonneg _) (by omega), hel]
    simp [sizeOf, typeInfo, hi, hs1, sliced, Result.andThen]
  · rcases h.arr.2 with ⟨h1, h2⟩ | ⟨ab, cap', cur, h1, h2, h3, h4, h5, h6, h7⟩
    · omega
    · rw [e] at h1
      obtain ⟨e1, e2⟩ : A = some ⟨ab, 0, none⟩ ∧ cap = cap' := by injection h1 with a b c; exact ⟨a, c⟩
      subst e1
      subst e2
      rw [if_neg (by omega)]
      refine ⟨(⟨ab, 0, none⟩ : Addr).add k, cs[k + j], rfl, List.getElem?_eq_getElem hj, ?_, ?_⟩
      · have := h.arr.cells (g := ab) (by rw [e]; rfl) (k + j) (cs[k + j]).ptr (by rw [List.getElem?_map, List.getElem?_eq_getElem hj]; rfl)
        rw [add_plain] at this ⊢
        have ea : (⟨ab, k, none⟩ : Addr).add j = ⟨ab, k + j, none⟩ := by unfold Addr.add; split <;> simp_all
        rw [ea]
        exact this
      · rw [add_plain]
        have ea : (⟨ab, k, none⟩ : Addr).add j = ⟨ab, k + j, none⟩ := by unfold Addr.add; split <;> simp_all
        rw [ea]
        exact lt_of_some h3
set_option maxHeartbeats 1000000 in
set_option maxRecDepth 100000 in
theorem residue_calls {B g : Nat} {PB : Nat → Prop} {av : Value} {cs : List LC} {ls : List Lv} (hn : 0 < n) (hn' : n ≤ 512) (hG : GrAt w B PB g n av cs ls) {k : Nat} (hk : k ≤ ls.length) (hok : ∀ l ∈ ls.drop k, LvOk n l) (hv : PV w ok v p) (hp : IsP n p) (hlen : ls.length ≤ 1000000) :
    Calls Try.prog 93 #[.pointer (some ⟨g, 0, none⟩), .int .i64 (k : Int), v] w fun e w' => ∃ u, e = .returned u ∧ PV w' (fun _ => True) u (residF (ls.drop k) p) ∧ Below w.heap.size w w' := by
  have hcl := hG.len
  obtain ⟨A, A', cap, hav, hcut, hel⟩ := hG.cut (show k ≤ cs.length by omega)
  subst hav
  have hc1 : w.cell? ⟨g, 1, none⟩ = some (.slice A cs.length cap) := by simp [World.cell?, hG.cells]
  have hcut' := hcut
  have HEL := Aside0.mk hel
  have HG := Aside0.mk hG
  have HOK := Aside0.mk hok
  have HN := Aside0.mk hn
  have HL := Aside0.mk hcl
  have HV : Aside0 (PV w (fun _ => True) v p) := ⟨PV.mono hv (fun _ _ => trivial)⟩
  have HP := Aside0.mk hp
  obtain ⟨m, hm⟩ : ∃ m, cs.length - k = m := ⟨_, rfl⟩
  rw [hm] at hcut
  have HM := Aside0.mk hm
  have hmb : m ≤ 1000000 := by omega
  have HK := Aside0.mk hk
  clear hel hG hok hn hv hp hcut' hm hcl hk hlen
  go_enter Try.func93, Try.ntmps93
  go_wp2_with (fail)
  go_loopw [2, 19] (fun x i wr => ∃ (j : Nat) (q : List Int), j ≤ m ∧ i = .int .i64 j ∧ Aside0 (PV wr (fun _ => True) x q) ∧ Aside0 (IsP n q) ∧ Aside0 (residF (ls.drop (k + j)) q = residF (ls.drop k) p) ∧ Aside0 (Below w.heap.size w wr)) (fun _ i _ => m - (intOf i).toNat)
  case atStart => exact ⟨0, p, by omega, rfl, HV, HP, ⟨rfl⟩, ⟨Below.refl _ _⟩⟩
  case round =>
    obtain ⟨j, q, hj, rfl, HQ, HPQ, HR, HB⟩ := hrel
    by_cases hlt : j < m
    · obtain ⟨ad, c, rfl, hcj, hcell, hblk⟩ := HEL.out j (by have := HM.out; omega)
      obtain ⟨l, hl, hlv⟩ := (HG.out.below HB.out).at_ hcj
      have hdrop : ls.drop (k + j) = l :: ls.drop (k + (j + 1)) := by
        obtain ⟨h1, h2⟩ := List.getElem?_eq_some_iff.1 hl
        rw [List.drop_eq_getElem_cons h1, h2]
        rfl
      have hok : LvOk n l := HOK.out l (by
        have h1 : l ∈ ls.drop (k + j) := by rw [hdrop]; simp
        rw [← List.drop_drop] at h1
        exact List.mem_of_mem_drop h1)
      have hcr : wr.cell? (ad.add j) = some (.pointer (some ⟨c.lb, 0, none⟩)) := (HB.out.cell hblk).trans hcell
      have hlt2 : (j : Int) < m := by omega
      have HD := Aside0.mk hdrop
      have HO := Aside0.mk hok
      have HLV := Aside0.mk hlv
      clear hdrop hok hlv hcell hblk hcj hl
      cases hlook : lookA (rdl q l.point) l.reps with
      | none =>
        have HLK := Aside0.mk hlook
        clear hlook
        go_wp2_with (go_at_call 111; (with_reducible refine (divide_no HN.out hn' HLV.out HO.out HQ.out HPQ.out HLK.out).mono ?_); rintro e w1 ⟨rfl, hb⟩; have HB1 := Aside0.mk hb; clear hb)
        go_ret
        refine ⟨_, rfl, ?_, pyD HB.out HB.out.size HB1.out⟩
        rw [← HR.out, HD.out]
        unfold residF
        rw [HLK.out]
        exact PV.below HQ.out HB1.out
      | some r =>
        have HLK := Aside0.mk hlook
        clear hlook
        go_wp2_with (go_at_call 111; (with_reducible refine (divide_yes HN.out hn' HLV.out HO.out HQ.out HPQ.out HLK.out).mono ?_); rintro e w1 ⟨uq, rfl, hR, hb⟩; have HU := Aside0.mk hR; have HB1 := Aside0.mk hb; clear hR hb)
        go_roundw
        case rel =>
          have hrp : IsP n r := by
            have := (HO.out.rep _ (List.mem_map.2 ⟨_, lookA_mem HLK.out, rfl⟩)).1
            unfold repL at this
            rwa [HLK.out] at this
          refine ⟨j + 1, thenL q (backL r), by omega, by go_num, ⟨HU.out.any⟩, ⟨thenL_isP HPQ.out (backL_isP hrp)⟩, ⟨?_⟩, ⟨pyD HB.out HB.out.size HB1.out⟩⟩
          rw [← HR.out, HD.out]
          conv => rhs; unfold residF
          rw [HLK.out]
        case measure => simp [intOf]; omega
    · obtain rfl : j = m := by omega
      have hend : ls.drop (k + j) = [] := List.drop_eq_nil_of_le (by have := HM.out; have := HL.out; have := HK.out; omega)
      have HE := Aside0.mk hend
      clear hend hlt
      go_wp2_with (fail)
      go_ret
      refine ⟨_, rfl, ?_, HB.out⟩
      rw [← HR.out, HE.out]
      exact HQ.out
end Go.Proofs.Ytpkgckccfanchaa.M

namespace Go.Proofs.Ytpkgckccfanchaa.M
open Go.RowKit YtpkgckccfanchaaW.PrintWords YtpkgckccfanchaaW.PrintLast YtpkgckccfanchaaW.PrintMore
open Sims
set_option linter.unusedVariables false
set_option linter.unusedSimpArgs false
set_option maxHeartbeats 4000000 in
set_option maxRecDepth 100000 in
theorem insert_region15 {Q : Exit → Act → World → Prop} {w : World} {g k lb m cs rb n : Nat} {x y : Int} {ads : Addr} {ux uy : Value} {s rx ry : List Int} {okx oks oky : Nat → Prop} {s2 s3 s4 s5 s7 s8 s11 s12 s13 s14 s15 s16 s17 s18 s19 s20 s21 s22 s23 s24 s25 s26 s27 s28 s29 s30 s31 s32 s33 s34 s35 s36 s37 s38 s39 s40 s41 s42 s43 s44 s45 s46 s47 s48 s49 s50 s51 s52 s53 s54 s55 s56 s57 s58 s59 s60 s61 s62 s63 s64 s65 s66 s67 s68 s69 s70 s71 s72 s73 s74 s75 s76 s77 s78 s79 s80 s81 s82 s83 s84 s85 s86 s87 s88 s89 s90 s91 s92 s93 s94 s95 s96 s97 s98 s99 s100 s101 s102 s103 s104 s105 s106 s107 s108 s109 s110 s111 s112 s113 s114 s115 s116 s117 : Value}
    (hn : 0 < n) (hn' : n ≤ 512) (hk : k ≤ 1000000)
    (h3 : w.cell? ⟨lb, 3, none⟩ = some (.map (some rb))) (hy : w.cell? (ads.add x.toNat) = some (.int .i64 y)) (hx0 : 0 ≤ x) (hx1 : x < (m : Int))
    (hlx : ∀ W : World, W.heap[rb]? = w.heap[rb]? → (Instr.lookup 108 (.map (some rb)) (.int .i64 x) false).run Try.prog W = .ok ux W)
    (hly : ∀ W : World, W.heap[rb]? = w.heap[rb]? → (Instr.lookup 108 (.map (some rb)) (.int .i64 y) false).run Try.prog W = .ok uy W) (hrb : rb < w.heap.size)
    (hpx : PV w okx ux rx) (hpy : PV w oky uy ry) (hps : PV w oks (.slice (some ads) m cs) s) (hix : IsP n rx) (hiy : IsP n ry) (his : IsP n s)
    (R : World → Prop)
    (hins : ∀ (w3 : World) (r : Value), Below w.heap.size w w3 → PN w.heap.size w3 r (thenL (thenL rx s) (backL ry)) → Calls Try.prog 84 #[.pointer (some ⟨g, 0, none⟩), .int .i64 ((k : Int) + 1), r] w3 fun e w4 => e = .returned (.tuple #[]) ∧ R w4 ∧ w4.cell? ⟨lb, 3, none⟩ = some (.map (some rb)) ∧ w4.cell? (ads.add x.toNat) = some (.int .i64 y))
    (hQ : ∀ (w4 : World) (t93 t94 t95 t96 t97 t98 t99 t100 t101 t102 t103 t104 t105 t106 t107 t108 t109 t110 t111 t112 t113 t114 t115 : Value), R w4 → Q .normal { tmps := #[.pointer (some ⟨g, 0, none⟩), .int .i64 (k : Int), s2, s3, s4, s5, .pointer (some ⟨lb, 0, none⟩), s7, s8, .slice (some ads) m cs, .int .i64 x, s11, s12, s13, s14, s15, s16, s17, s18, s19, s20, s21, s22, s23, s24, s25, s26, s27, s28, s29, s30, s31, s32, s33, s34, s35, s36, s37, s38, s39, s40, s41, s42, s43, s44, s45, s46, s47, s48, s49, s50, s51, s52, s53, s54, s55, s56, s57, s58, s59, s60, s61, s62, s63, s64, s65, s66, s67, s68, s69, s70, s71, s72, s73, s74, s75, s76, s77, s78, s79, s80, s81, s82, s83, s84, s85, s86, s87, s88, s89, s90, s91, s92, t93, t94, t95, t96, t97, t98, t99, t100, t101, t102, t103, t104, t105, t106, t107, t108, t109, t110, t111, t112, t113, t114, t115, s116, s117], defers := [] } w4) :
    (Code.region 15 #[{ dst := some 93, op := Go.Op.move (Go.Operand.tmp 0), type := 74, pos := "levels.go:136", after := #[], guard := none }, { dst := some 94, op := Go.Op.move (Go.Operand.tmp 1), type := 3, pos := "levels.go:136", after := #[], guard := none }, { dst := some 95, op := Go.Op.binOp Go.BinOp.add 3 (Go.Operand.tmp 94) (Go.Operand.const (Go.Value.int Go.IntKind.i64 1)) 3, type := 3, pos := "levels.go:136", after := #[{ on := 1, ground := Go.Ground.data }], guard := none }, { dst := some 96, op := Go.Op.move (Go.Operand.tmp 6), type := 107, pos := "levels.go:136", after := #[], guard := none }, { dst := some 97, op := Go.Op.nilCheck (Go.Operand.tmp 96), type := 0, pos := "levels.go:136", after := #[{ on := 3, ground := Go.Ground.data }], guard := none }, { dst := some 98, op := Go.Op.fieldAddr 111 (Go.Operand.tmp 97) 3, type := 0, pos := "levels.go:136", after := #[{ on := 4, ground := Go.Ground.data }], guard := none }, { dst := some 99, op := Go.Op.load 108 (Go.Operand.tmp 98), type := 108, pos := "levels.go:136", after := #[{ on := 5, ground := Go.Ground.data }], guard := none }, { dst := some 100, op := Go.Op.move (Go.Operand.tmp 10), type := 3, pos := "levels.go:136", after := #[], guard := none }, { dst := some 101, op := Go.Op.lookup 108 (Go.Operand.tmp 99) (Go.Operand.tmp 100) false, type := 28, pos := "levels.go:136", after := #[{ on := 6, ground := Go.Ground.data }, { on := 7, ground := Go.Ground.data }], guard := none }, { dst := some 102, op := Go.Op.move (Go.Operand.tmp 9), type := 28, pos := "levels.go:136", after := #[], guard := none }, { dst := some 103, op := Go.Op.call { callee := Go.Callee.value (Go.Operand.func 78), args := #[Go.Operand.tmp 101, Go.Operand.tmp 102], argTypes := #[28, 28] }, type := 28, pos := "levels.go:136", after := #[{ on := 8, ground := Go.Ground.data }, { on := 9, ground := Go.Ground.data }], guard := none }, { dst := some 104, op := Go.Op.move (Go.Operand.tmp 6), type := 107, pos := "levels.go:136", after := #[], guard := none }, { dst := some 105, op := Go.Op.nilCheck (Go.Operand.tmp 104), type := 0, pos := "levels.go:136", after := #[{ on := 11, ground := Go.Ground.data }], guard := none }, { dst := some 106, op := Go.Op.fieldAddr 111 (Go.Operand.tmp 105) 3, type := 0, pos := "levels.go:136", after := #[{ on := 12, ground := Go.Ground.data }], guard := none }, { dst := some 107, op := Go.Op.load 108 (Go.Operand.tmp 106), type := 108, pos := "levels.go:136", after := #[{ on := 13, ground := Go.Ground.data }], guard := none }, { dst := some 108, op := Go.Op.move (Go.Operand.tmp 9), type := 28, pos := "levels.go:136", after := #[], guard := none }, { dst := some 109, op := Go.Op.move (Go.Operand.tmp 10), type := 3, pos := "levels.go:136", after := #[], guard := none }, { dst := some 110, op := Go.Op.indexAddr 28 (Go.Operand.tmp 108) (Go.Operand.tmp 109), type := 0, pos := "levels.go:136", after := #[{ on := 15, ground := Go.Ground.data }, { on := 16, ground := Go.Ground.data }], guard := none }, { dst := some 111, op := Go.Op.load 3 (Go.Operand.tmp 110), type := 3, pos := "levels.go:136", after := #[{ on := 17, ground := Go.Ground.data }], guard := none }, { dst := some 112, op := Go.Op.lookup 108 (Go.Operand.tmp 107) (Go.Operand.tmp 111) false, type := 28, pos := "levels.go:136", after := #[{ on := 14, ground := Go.Ground.data }, { on := 18, ground := Go.Ground.data }], guard := none }, { dst := some 113, op := Go.Op.call { callee := Go.Callee.value (Go.Operand.func 108), args := #[Go.Operand.tmp 112], argTypes := #[28] }, type := 28, pos := "levels.go:136", after := #[{ on := 19, ground := Go.Ground.data }, { on := 10, ground := Go.Ground.chain }], guard := none }, { dst := some 114, op := Go.Op.call { callee := Go.Callee.value (Go.Operand.func 78), args := #[Go.Operand.tmp 103, Go.Operand.tmp 113], argTypes := #[28, 28] }, type := 28, pos := "levels.go:136", after := #[{ on := 10, ground := Go.Ground.data }, { on := 20, ground := Go.Ground.data }, { on := 20, ground := Go.Ground.chain }], guard := none }, { dst := some 115, op := Go.Op.call { callee := Go.Callee.value (Go.Operand.func 84), args := #[Go.Operand.tmp 93, Go.Operand.tmp 95, Go.Operand.tmp 114], argTypes := #[74, 3, 28] }, type := 0, pos := "levels.go:136", after := #[{ on := 0, ground := Go.Ground.data }, { on := 2, ground := Go.Ground.data }, { on := 21, ground := Go.Ground.data }, { on := 21, ground := Go.Ground.chain }], guard := none }] true).wp Try.prog Q { tmps := #[.pointer (some ⟨g, 0, none⟩), .int .i64 (k : Int), s2, s3, s4, s5, .pointer (some ⟨lb, 0, none⟩), s7, s8, .slice (some ads) m cs, .int .i64 x, s11, s12, s13, s14, s15, s16, s17, s18, s19, s20, s21, s22, s23, s24, s25, s26, s27, s28, s29, s30, s31, s32, s33, s34, s35, s36, s37, s38, s39, s40, s41, s42, s43, s44, s45, s46, s47, s48, s49, s50, s51, s52, s53, s54, s55, s56, s57, s58, s59, s60, s61, s62, s63, s64, s65, s66, s67, s68, s69, s70, s71, s72, s73, s74, s75, s76, s77, s78, s79, s80, s81, s82, s83, s84, s85, s86, s87, s88, s89, s90, s91, s92, s93, s94, s95, s96, s97, s98, s99, s100, s101, s102, s103, s104, s105, s106, s107, s108, s109, s110, s111, s112, s113, s114, s115, s116, s117], defers := [] } w := by
  have HI := Aside0.mk hins
  have HQ := Aside0.mk hQ
  have HN := Aside0.mk hn
  have HPX := Aside0.mk hpx
  have HPY := Aside0.mk hpy
  have HPS := Aside0.mk hps
  have HIX := Aside0.mk hix
  have HIY := Aside0.mk hiy
  have HIS := Aside0.mk his
  have HLX := Aside0.mk hlx
  have HLY := Aside0.mk hly
  have HRB := Aside0.mk hrb
  have hlx0 := hlx w.drew rfl
  have hly0 := hly w.drew rfl
  have hkk : IntKind.i64.wrap ((k : Int) + 1) = (k : Int) + 1 := IntWalk.i64_in _ (by omega)
  clear hins hQ hn hpx hpy hps hix hiy his hlx hly hrb
  go_region_held3 (fun W' => W'.cell? ⟨lb, 3, none⟩ = some (.map (some rb)) ∧ W'.cell? (ads.add x.toNat) = some (.int .i64 y)) ((first | exact ⟨h3, hy⟩ | exact k1 | exact k2 | exact k3 | exact k4)) (first | (go_at_call 78; (with_reducible refine (then_pv HN.out hn' (Kd.V_drew HPX.out) (Kd.V_drew HPS.out) HIX.out HIS.out).mono ?_); rintro e w1 ⟨r1, rfl, hR1, hb1⟩; have k1 := And.intro (pyA hb1 h3) (pyA hb1 hy); have hly1 := HLY.out w1 (hb1.block rb HRB.out); have HR1 := Aside0.mk hR1; have HB1 := Aside0.mk hb1; have HS1 : Aside0 (w.heap.size ≤ w1.heap.size) := ⟨hb1.size⟩; clear hR1 hb1) | (go_at_call 108; (with_reducible refine (back_pv HN.out hn' (PV.below (Kd.V_drew HPY.out) HB1.out) HIY.out).mono ?_); rintro e w2 ⟨r2, rfl, hR2, hb2⟩; have k2 := And.intro (pyA hb2 k1.1) (pyA hb2 k1.2); have HR2 := Aside0.mk hR2; have HB2 := Aside0.mk hb2; clear hR2 hb2) | (go_at_call 78; (with_reducible refine (then_pv HN.out hn' (PN.below HR1.out HB2.out).any HR2.out.any (thenL_isP HIX.out HIS.out) (backL_isP HIY.out)).mono ?_); rintro e w3 ⟨r3, rfl, hR3, hb3⟩; have k3 := And.intro (pyA hb3 k2.1) (pyA hb3 k2.2); have HR3 := Aside0.mk hR3; have HB3 := Aside0.mk hb3; clear hR3 hb3) | (go_at_call 84; (with_reducible refine (HI.out _ _ (pyD (pyD (pyD (below_drew (Below.refl _ w)) (Nat.le_refl _) HB1.out) HS1.out HB2.out) (Nat.le_trans HS1.out HB2.out.size) HB3.out) (HR3.out.lower (Nat.le_trans HS1.out HB2.out.size))).mono ?_); rintro e w4 ⟨rfl, hR4, k4⟩; have HR4 := Aside0.mk hR4; clear hR4))
  all_goals exact HQ.out _ _ _ _ _ _ _ _ _ _ _ _ _ _ _ _ _ _ _ _ _ _ _ _ HR4.out
set_option maxHeartbeats 4000000 in
set_option maxRecDepth 100000 in
theorem insert_region3 {Q : Exit → Act → World → Prop} {w : World} {g B n ma ca mp cp : Nat} {mv : Int} {Aa Ap : Option Addr} {xs : List Value} {p : List Int} {ok : Nat → Prop} {s1 s3 s4 s5 s6 s7 s8 s9 s10 s11 s12 s13 s14 s15 s16 s17 s18 s19 s20 s21 s22 s23 s24 s25 s26 s27 s28 s29 s30 s31 s32 s33 s34 s35 s36 s37 s38 s39 s40 s41 s42 s43 s44 s45 s46 s47 s48 s49 s50 s51 s52 s53 s54 s55 s56 s57 s58 s59 s60 s61 s62 s63 s64 s65 s66 s67 s68 s69 s70 s71 s72 s73 s74 s75 s76 s77 s78 s79 s80 s81 s82 s83 s84 s85 s86 s87 s88 s89 s90 s91 s92 s93 s94 s95 s96 s97 s98 s99 s100 s101 s102 s103 s104 s105 s106 s107 s108 s109 s110 s111 s112 s113 s114 s115 s116 s117 : Value}
    (h0 : w.cell? ⟨g, 0, none⟩ = some (.int .i64 (n : Int))) (h1 : w.cell? ⟨g, 1, none⟩ = some (.slice Aa ma ca)) (hf : w.frozen? ⟨g, 1, none⟩ = false) (hgl : g < w.heap.size) (hB : B ≤ w.heap.size) (hma : ma < 1000000)
    (hown : w.ownsRow B 107 1 (.slice Aa ma ca) ma xs) (hne : (Value.slice Aa ma ca).ownBlock ≠ some g)
    (hn : 0 < n) (hn' : n ≤ 512) (hp : PV w ok (.slice Ap mp cp) p) (hpl : p.length ≤ 512) (hmv : movedL p = mv) (hm0 : 0 ≤ mv) (hm1 : mv < n)
    (hQ : ∀ (w0 w1 w2 : World) (c : LC) (PB : Nat → Prop) (g' cap : Nat) (t26 t27 t28 t29 t30 t31 t32 t33 t34 t35 t36 t37 t38 t39 t40 t41 : Value), Below w.heap.size w w0 → w0.heap.size = w.heap.size → LvAt w1 w0.heap.size PB c (newLv n mv) → Below w0.heap.size w0 w1 → (∀ k, PB k → w0.heap.size ≤ k) → w2.ownsRow B 107 1 (.slice (some ⟨g', 0, none⟩) (ma + 1) cap) (ma + 1) (xs ++ [c.ptr]) → (w1.alloc (.cells #[c.ptr] 107)).grownBy w2 (Value.slice Aa ma ca).ownBlock → ((Value.slice Aa ma ca).ownBlock = some g' ∨ g' = w1.heap.size + 1) → Q .normal { tmps := #[.pointer (some ⟨g, 0, none⟩), s1, .slice Ap mp cp, s3, s4, s5, s6, s7, s8, s9, s10, s11, s12, s13, s14, s15, s16, s17, s18, s19, s20, s21, s22, s23, s24, s25, t26, t27, t28, t29, t30, t31, t32, t33, t34, t35, t36, t37, t38, t39, t40, t41, s42, s43, s44, s45, s46, s47, s48, s49, s50, s51, s52, s53, s54, s55, s56, s57, s58, s59, s60, s61, s62, s63, s64, s65, s66, s67, s68, s69, s70, s71, s72, s73, s74, s75, s76, s77, s78, s79, s80, s81, s82, s83, s84, s85, s86, s87, s88, s89, s90, s91, s92, s93, s94, s95, s96, s97, s98, s99, s100, s101, s102, s103, s104, s105, s106, s107, s108, s109, s110, s111, s112, s113, s114, s115, s116, s117], defers := [] } (w2.setCell ⟨g, 1, none⟩ (.slice (some ⟨g', 0, none⟩) (ma + 1) cap))) :
    (Code.region 3 #[{ dst := some 26, op := Go.Op.move (Go.Operand.tmp 0), type := 74, pos := "levels.go:125", after := #[], guard := none }, { dst := some 27, op := Go.Op.move (Go.Operand.tmp 0), type := 74, pos := "levels.go:125", after := #[], guard := none }, { dst := some 28, op := Go.Op.nilCheck (Go.Operand.tmp 27), type := 0, pos := "levels.go:125", after := #[{ on := 1, ground := Go.Ground.data }], guard := none }, { dst := some 29, op := Go.Op.fieldAddr 106 (Go.Operand.tmp 28) 1, type := 0, pos := "levels.go:125", after := #[{ on := 2, ground := Go.Ground.data }], guard := none }, { dst := some 30, op := Go.Op.load 104 (Go.Operand.tmp 29), type := 104, pos := "levels.go:125", after := #[{ on := 3, ground := Go.Ground.data }], guard := none }, { dst := some 31, op := Go.Op.move (Go.Operand.tmp 0), type := 74, pos := "levels.go:125", after := #[], guard := none }, { dst := some 32, op := Go.Op.nilCheck (Go.Operand.tmp 31), type := 0, pos := "levels.go:125", after := #[{ on := 5, ground := Go.Ground.data }], guard := none }, { dst := some 33, op := Go.Op.fieldAddr 106 (Go.Operand.tmp 32) 0, type := 0, pos := "levels.go:125", after := #[{ on := 6, ground := Go.Ground.data }], guard := none }, { dst := some 34, op := Go.Op.load 3 (Go.Operand.tmp 33), type := 3, pos := "levels.go:125", after := #[{ on := 7, ground := Go.Ground.data }], guard := none }, { dst := some 35, op := Go.Op.move (Go.Operand.tmp 2), type := 28, pos := "levels.go:125", after := #[], guard := none }, { dst := some 36, op := Go.Op.call { callee := Go.Callee.value (Go.Operand.func 92), args := #[Go.Operand.tmp 35], argTypes := #[28] }, type := 3, pos := "levels.go:125", after := #[{ on := 9, ground := Go.Ground.data }], guard := none }, { dst := some 37, op := Go.Op.call { callee := Go.Callee.value (Go.Operand.func 83), args := #[Go.Operand.tmp 34, Go.Operand.tmp 36], argTypes := #[3, 3] }, type := 107, pos := "levels.go:125", after := #[{ on := 8, ground := Go.Ground.data }, { on := 10, ground := Go.Ground.data }, { on := 10, ground := Go.Ground.chain }], guard := none }, { dst := some 38, op := Go.Op.buildSlice 104 1 #[(0, Go.Operand.tmp 37)], type := 104, pos := "levels.go:125", after := #[{ on := 11, ground := Go.Ground.data }], guard := none }, { dst := some 39, op := Go.Op.call { callee := Go.Callee.builtin Go.Builtin.append, args := #[Go.Operand.tmp 30, Go.Operand.tmp 38], argTypes := #[104, 104] }, type := 104, pos := "levels.go:125", after := #[{ on := 4, ground := Go.Ground.data }, { on := 12, ground := Go.Ground.data }, { on := 11, ground := Go.Ground.chain }], guard := none }, { dst := some 40, op := Go.Op.nilCheck (Go.Operand.tmp 26), type := 0, pos := "levels.go:125", after := #[{ on := 0, ground := Go.Ground.data }, { on := 0, ground := Go.Ground.phase }, { on := 1, ground := Go.Ground.phase }, { on := 2, ground := Go.Ground.phase }, { on := 3, ground := Go.Ground.phase }, { on := 4, ground := Go.Ground.phase }, { on := 5, ground := Go.Ground.phase }, { on := 6, ground := Go.Ground.phase }, { on := 7, ground := Go.Ground.phase }, { on := 8, ground := Go.Ground.phase }, { on := 9, ground := Go.Ground.phase }, { on := 10, ground := Go.Ground.phase }, { on := 11, ground := Go.Ground.phase }, { on := 12, ground := Go.Ground.phase }, { on := 13, ground := Go.Ground.phase }], guard := none }, { dst := some 41, op := Go.Op.fieldAddr 106 (Go.Operand.tmp 40) 1, type := 0, pos := "levels.go:125", after := #[{ on := 14, ground := Go.Ground.data }, { on := 0, ground := Go.Ground.phase }, { on := 1, ground := Go.Ground.phase }, { on := 2, ground := Go.Ground.phase }, { on := 3, ground := Go.Ground.phase }, { on := 4, ground := Go.Ground.phase }, { on := 5, ground := Go.Ground.phase }, { on := 6, ground := Go.Ground.phase }, { on := 7, ground := Go.Ground.phase }, { on := 8, ground := Go.Ground.phase }, { on := 9, ground := Go.Ground.phase }, { on := 10, ground := Go.Ground.phase }, { on := 11, ground := Go.Ground.phase }, { on := 12, ground := Go.Ground.phase }, { on := 13, ground := Go.Ground.phase }], guard := none }, { dst := none, op := Go.Op.store 104 (Go.Operand.tmp 41) (Go.Operand.tmp 39), type := 0, pos := "levels.go:125", after := #[{ on := 15, ground := Go.Ground.data }, { on := 13, ground := Go.Ground.data }, { on := 13, ground := Go.Ground.chain }, { on := 0, ground := Go.Ground.phase }, { on := 1, ground := Go.Ground.phase }, { on := 2, ground := Go.Ground.phase }, { on := 3, ground := Go.Ground.phase }, { on := 4, ground := Go.Ground.phase }, { on := 5, ground := Go.Ground.phase }, { on := 6, ground := Go.Ground.phase }, { on := 7, ground := Go.Ground.phase }, { on := 8, ground := Go.Ground.phase }, { on := 9, ground := Go.Ground.phase }, { on := 10, ground := Go.Ground.phase }, { on := 11, ground := Go.Ground.phase }, { on := 12, ground := Go.Ground.phase }, { on := 13, ground := Go.Ground.phase }], guard := none }] true).wp Try.prog Q { tmps := #[.pointer (some ⟨g, 0, none⟩), s1, .slice Ap mp cp, s3, s4, s5, s6, s7, s8, s9, s10, s11, s12, s13, s14, s15, s16, s17, s18, s19, s20, s21, s22, s23, s24, s25, s26, s27, s28, s29, s30, s31, s32, s33, s34, s35, s36, s37, s38, s39, s40, s41, s42, s43, s44, s45, s46, s47, s48, s49, s50, s51, s52, s53, s54, s55, s56, s57, s58, s59, s60, s61, s62, s63, s64, s65, s66, s67, s68, s69, s70, s71, s72, s73, s74, s75, s76, s77, s78, s79, s80, s81, s82, s83, s84, s85, s86, s87, s88, s89, s90, s91, s92, s93, s94, s95, s96, s97, s98, s99, s100, s101, s102, s103, s104, s105, s106, s107, s108, s109, s110, s111, s112, s113, s114, s115, s116, s117], defers := [] } w := by
  have HQ := Aside0.mk hQ
  have HO := Aside0.mk hown
  have HNE := Aside0.mk hne
  have HB := Aside0.mk hB
  have HN := Aside0.mk hn
  have HP := Aside0.mk hp
  have HPL := Aside0.mk hpl
  have HMV := Aside0.mk hmv
  have HM0 := Aside0.mk hm0
  have HM1 := Aside0.mk hm1
  have HGL := Aside0.mk hgl
  obtain ⟨i0, hi, hz0, hz1, hz2⟩ := info_parts infoLv
  have HI := Aside0.mk hi
  have HZ := Aside0.mk hz0
  have HZ1 := Aside0.mk hz1
  have HZ2 := Aside0.mk hz2
  have HML : Aside0 (ma + 1 ≤ maxLen) := ⟨by unfold maxLen; omega⟩
  have HBY : Aside0 ((ma + 1) * 8 ≤ 140737488355328) := ⟨by omega⟩
  clear hQ hown hne hB hi hz0 hz1 hz2 hn hp hpl hmv hm0 hm1
  refine wp_region_noPanic ?_
  go_region_law (first | (refine step_append_lies _ rfl (.tmp 30) (.tmp 38) 104 rfl B 107 i0 (.pointer none) 1 8 Try.underlying104 HI.out HZ.out HZ1.out HZ2.out rfl (by decide) _ ma xs rfl (HO1.out.alloc _) ⟨w1.heap.size, 0, none⟩ 1 1 [c.ptr] rfl rfl (World.news_of_block (cs := #[c.ptr]) (t := 107) (fr := (0, 0)) (heap_alloc_new w1 _)) (by simp [Value.oneCell']) (by decide) HML.out HBY.out HBB.out (w1.heap.size + 1) (World.size_alloc _ _) ?_; intro g' cap w2 hown hgr hat hlt; have hx1' := (World.cell?_of_block (a := ⟨g, 1, none⟩) (HC.out w2 hgr)).trans kw1; have hx2' := (World.frozen?_of_block (a := ⟨g, 1, none⟩) (HC.out w2 hgr)).trans kf1; have HO2 := Aside0.mk hown; have HG2 := Aside0.mk hgr; have HT2 := Aside0.mk hat; clear hown hgr hat) | (go_simp; go_at_call 92; refine (moved_pv HPL.out (Kd.V_drew HP.out)).mono ?_; rintro e w' ⟨rfl, hdr⟩; obtain ⟨md, rfl⟩ := hdr.out; rw [HMV.out]) | (go_simp; go_at_call 83; refine (newLevel_calls HN.out hn' HM0.out HM1.out).mono ?_; rintro e w1 ⟨c, PB, rfl, hlv, hb1, hpb⟩; have kw0 := pyA hb1 h0; have kw1 := pyA hb1 h1; have kw2 := pyA (pzB (Below.refl _ w1) (.cells #[c.ptr] 107)) kw1; have kw3 := pyA (pzB (Below.refl _ w1) (.cells #[c.ptr] 107)) kw0; have kf1 := (hb1.frozen (p := ⟨g, 1, none⟩) HGL.out).trans hf; have HO1 : Aside0 (w1.ownsRow B 107 1 (.slice Aa ma ca) ma xs) := ⟨own_same HO.out (fun b hb => hb1.block b (own_lt HO.out b hb))⟩; have hgw : g < w1.heap.size := (Nat.lt_of_lt_of_le HGL.out hb1.size); have hsz1 : w.heap.size ≤ w1.heap.size := hb1.size; have HBB : Aside0 (B ≤ (w1.alloc (.cells #[c.ptr] 107)).heap.size) := ⟨by rw [World.size_alloc]; exact Nat.le_succ_of_le (Nat.le_trans HB.out hsz1)⟩; have HC : Aside0 (∀ w2 : World, (w1.alloc (.cells #[c.ptr] 107)).grownBy w2 (Value.slice Aa ma ca).ownBlock → w2.heap[g]? = w1.heap[g]?) := ⟨fun w2 hg => (hg.block g (by rw [World.size_alloc]; exact Nat.lt_succ_of_lt hgw) (fun e => HNE.out e.symm)).trans (heap_alloc_old w1 _ hgw)⟩; have HLV := Aside0.mk hlv; have HB1 := Aside0.mk hb1; clear hgw hsz1; have HPB := Aside0.mk hpb; clear hlv hb1 hpb))
  all_goals (refine NoPanic.normal ?_; exact HQ.out _ w1 w2 c PB g' cap _ _ _ _ _ _ _ _ _ _ _ _ _ _ _ _ (pzA (Below.refl _ w) _) rfl HLV.out HB1.out HPB.out HO2.out HG2.out HT2.out)
end Go.Proofs.Ytpkgckccfanchaa.M

namespace Go.Proofs.Ytpkgckccfanchaa.M
open Go.RowKit YtpkgckccfanchaaW.PrintWords YtpkgckccfanchaaW.PrintLast YtpkgckccfanchaaW.PrintMore
open Sims
open Go.ChangeMaps (setBlock)
set_option linter.unusedVariables false
set_option linter.unusedSimpArgs false
variable {w w0 w1 w2 : World} {B B' g n : Nat} {PB PB' PBc : Nat → Prop} {av v' : Value} {c c' : LC} {cs cs1 cs2 : List LC} {l l' : Lv} {ls ls1 ls2 : List Lv} {pt : Int} {gens : List (List Int)} {orb : List Int} {reps : List (Int × List Int)} {todo : List (Int × Int)}
theorem LvX.lower (h : LvX w B' PB c pt gens orb reps todo) (hB : B ≤ B') : LvX w B PB c pt gens orb reps todo := by
  have low : ∀ {e : TypeId} {s m : Nat} {v : Value} {xs : List Value}, w.ownsRow B' e s v m xs → w.ownsRow B e s v m xs := fun h => ⟨h.1, h.2.imp id (fun ⟨g, cap, cur, h1, h2, h3⟩ => ⟨g, cap, cur, h1, Nat.le_trans hB h2, h3⟩)⟩
  obtain ⟨gs, hg, hp⟩ := h.gens
  exact ⟨h.cells, ⟨gs, low hg, hp⟩, low h.orb, h.reps, h.todo, ⟨Nat.le_trans hB h.base.1, Nat.le_trans hB h.base.2.1, Nat.le_trans hB h.base.2.2⟩, h.free, h.ne⟩
theorem LvX.bound (h : LvX w B PB c pt gens orb reps todo) : LvX w B (fun k => PB k ∧ k < w.heap.size) c pt gens orb reps todo := by
  obtain ⟨gs, hg, hp⟩ := h.gens
  obtain ⟨es, ck, h1, h2, h3⟩ := h.reps
  refine ⟨h.cells, ⟨gs, hg, fun j q hq => ?_⟩, h.orb, ⟨es, ck, h1, h2, fun j q hq => ?_⟩, h.todo, h.base, fun b hb hp => h.free b hb hp.1, h.ne⟩
  · obtain ⟨u, hu, hv⟩ := hp j q hq
    exact ⟨u, hu, Kd.V_bound hv⟩
  · obtain ⟨x, hx, hv⟩ := h3 j q hq
    exact ⟨x, hx, Kd.V_bound hv⟩
theorem GrAt.upd (h : GrAt w B PB g n av (cs1 ++ c :: cs2) (ls1 ++ l :: ls2)) (hlen : cs1.length = ls1.length) (hlb : c'.lb = c.lb) (hl : LvAt w1 B PB' c' l') (hc : Chg c.Blk w w1) (hblk : ∀ b, c'.Blk b → c.Blk b ∨ w.heap.size ≤ b) (hup : ∀ b, PB b → PB' b) (hpb : ∀ b, PB' b → PB b ∨ w.heap.size ≤ b) :
    GrAt w1 B PB' g n av (cs1 ++ c' :: cs2) (ls1 ++ l' :: ls2) := by
  have hcm : c ∈ cs1 ++ c :: cs2 := by simp
  obtain ⟨_, _, hlc⟩ := h.mem hcm
  have hclt : ∀ b, c.Blk b → b < w.heap.size := fun b hb => hlc.lt hb
  have hgl := lt_of_some h.cells
  have hap := List.pairwise_append.1 h.apart
  have hap2 := List.pairwise_cons.1 hap.2.1
  have hother : ∀ d ∈ cs1 ++ cs2, (∀ b, d.Blk b → ¬ c.Blk b) := fun d hd b hb hcb => by
    rcases List.mem_append.1 hd with hd | hd
    · exact hap.2.2 d hd c (by simp) b hb hcb
    · exact hap2.1 d hd b hcb hb
  have hlv : ∀ {d : LC} {m : Lv}, d ∈ cs1 ++ cs2 → LvAt w B PB d m → LvAt w1 B PB' d m := fun {d m} hd hm =>
    (hm.chg hc (fun b hb => hb.elim (hother d hd b) (fun hp hcb => hlc.free b hcb hp))).mono hup (fun b hb hp => (hpb b hp).elim (hm.free b hb) (fun h2 => by have := hm.lt hb; omega))
  refine ⟨(hc.keep g hgl (fun hb => (h.own_ne hcm hb).1 rfl)).trans h.cells, ?_, ?_, fun j d m hd hm => ?_, ?_, h.base, ?_, ?_⟩
  · have hl2 : (cs1 ++ c' :: cs2).length = (cs1 ++ c :: cs2).length := by simp
    have e : c'.ptr = c.ptr := by unfold LC.ptr; rw [hlb]
    rw [hl2, show (cs1 ++ c' :: cs2).map LC.ptr = (cs1 ++ c :: cs2).map LC.ptr from by simp [e]]
    exact own_same h.arr (fun b hb => by
      obtain ⟨_, _, h3⟩ := own_kind h.arr hb
      exact hc.keep b (lt_of_some h3) (fun hcb => (h.own_ne hcm hcb).2 hb))
  · have := h.len
    simpa using this
  · rcases Nat.lt_trichotomy j cs1.length with hj | hj | hj
    · rw [List.getElem?_append_left hj] at hd
      rw [List.getElem?_append_left (by omega)] at hm
      exact hlv (List.mem_append.2 (.inl (List.mem_of_getElem? hd))) (h.lv j d m (by rw [List.getElem?_append_left hj]; exact hd) (by rw [List.getElem?_append_left (by omega)]; exact hm))
    · rw [List.getElem?_append_right (by omega), hj, Nat.sub_self] at hd
      rw [List.getElem?_append_right (by omega), hj, hlen, Nat.sub_self] at hm
      simp only [List.getElem?_cons_zero, Option.some.injEq] at hd hm
      subst hd
      subst hm
      exact hl
    · obtain ⟨i, hi⟩ : ∃ i, j - cs1.length = i + 1 := ⟨j - cs1.length - 1, by omega⟩
      have hi2 : j - ls1.length = i + 1 := by omega
      have hd2 := hd
      rw [List.getElem?_append_right (by omega), hi, List.getElem?_cons_succ] at hd2
      have hm2 := hm
      rw [List.getElem?_append_right (by omega), hi2, List.getElem?_cons_succ] at hm2
      exact hlv (List.mem_append.2 (.inr (List.mem_of_getElem? hd2))) (h.lv j d m (by rw [List.getElem?_append_right (by omega), hi, List.getElem?_cons_succ]; exact hd2) (by rw [List.getElem?_append_right (by omega), hi2, List.getElem?_cons_succ]; exact hm2))
  · have hnew : ∀ d ∈ cs1 ++ cs2, ∀ b, d.Blk b → ¬ c'.Blk b := fun d hd b hb hcb => by
      rcases hblk b hcb with h2 | h2
      · exact hother d hd b hb h2
      · obtain ⟨_, _, hdl⟩ := h.mem (c := d) (by rcases List.mem_append.1 hd with hd | hd <;> simp [hd])
        have := hdl.lt hb
        omega
    refine List.pairwise_append.2 ⟨hap.1, List.pairwise_cons.2 ⟨fun d hd b hb hb' => hnew d (List.mem_append.2 (.inr hd)) b hb' hb, hap2.2⟩, fun a ha d hd b hb hb' => ?_⟩
    rcases List.mem_cons.1 hd with rfl | hd
    · exact hnew a (List.mem_append.2 (.inl ha)) b hb hb'
    · exact hap.2.2 a ha d (by simp [hd]) b hb hb'
  · exact fun hp => (hpb g hp).elim h.free.1 (fun h2 => by omega)
  · intro b hb hp
    obtain ⟨_, _, h3⟩ := own_kind h.arr hb
    exact (hpb b hp).elim (h.free.2 b hb) (fun h2 => by have := lt_of_some h3; omega)
theorem GrAt.ptr_at {A : Option Addr} {m cap : Nat} (h : GrAt w B PB g n (.slice A m cap) cs ls) {k : Nat} (hc : cs[k]? = some c) : m = cs.length ∧ ∃ ad, A = some ad ∧ w.cell? (ad.add k) = some (.pointer (some ⟨c.lb, 0, none⟩)) := by
  rcases h.arr.2 with ⟨h1, h2⟩ | ⟨ab, cap', cur, h1, h2, h3, h4⟩
  · have := (List.getElem?_eq_some_iff.1 hc).1
    omega
  · have e1 : A = some ⟨ab, 0, none⟩ ∧ m = cs.length := by injection h1 with a b c; exact ⟨a, b⟩
    refine ⟨e1.2, _, e1.1, h.arr.cells (g := ab) (by rw [e1.1]; rfl) k _ (by rw [List.getElem?_map, hc]; rfl)⟩
theorem GrAt.push {Aa : Option Addr} {ma ca g' cap : Nat} (h : GrAt w B PB g n (.slice Aa ma ca) cs ls) (hbd : ∀ b, PB b → b < w.heap.size) (hB : B ≤ w.heap.size) (hb0 : Below w.heap.size w w0) (hs0 : w0.heap.size = w.heap.size) (hl : LvAt w1 w0.heap.size PBc c l) (hb1 : Below w0.heap.size w0 w1) (hpc : ∀ k, PBc k → w0.heap.size ≤ k)
    (ho : w2.ownsRow B 107 1 (.slice (some ⟨g', 0, none⟩) (ma + 1) cap) (ma + 1) (cs.map LC.ptr ++ [c.ptr])) (hg : (w1.alloc (.cells #[c.ptr] 107)).grownBy w2 (Value.slice Aa ma ca).ownBlock) (hat : (Value.slice Aa ma ca).ownBlock = some g' ∨ g' = w1.heap.size + 1) :
    ∃ PB', GrAt (w2.setCell ⟨g, 1, none⟩ (.slice (some ⟨g', 0, none⟩) (ma + 1) cap)) B PB' g n (.slice (some ⟨g', 0, none⟩) (ma + 1) cap) (cs ++ [c]) (ls ++ [l]) ∧ (∀ b, PB' b → b < (w2.setCell ⟨g, 1, none⟩ (.slice (some ⟨g', 0, none⟩) (ma + 1) cap)).heap.size) ∧ (∀ b, PB b → PB' b) ∧
      Agree PB w (w2.setCell ⟨g, 1, none⟩ (.slice (some ⟨g', 0, none⟩) (ma + 1) cap)) ∧ Below B w (w2.setCell ⟨g, 1, none⟩ (.slice (some ⟨g', 0, none⟩) (ma + 1) cap)) := by
  have hs1 : w.heap.size ≤ w1.heap.size := by rw [← hs0]; exact hb1.size
  have hs2 : w1.heap.size + 1 ≤ w2.heap.size := by have := hg.size; rwa [World.size_alloc] at this
  have hgl := lt_of_some h.cells
  have hav := h.av_ne
  have e1 : ∀ b, b < w.heap.size → w1.heap[b]? = w.heap[b]? := fun b hb => (hb1.block b (by rw [hs0]; exact hb)).trans (hb0.block b hb)
  have e2 : ∀ b, b < w1.heap.size → (Value.slice Aa ma ca).ownBlock ≠ some b → w2.heap[b]? = w1.heap[b]? := fun b hb hne => (hg.block b (by rw [World.size_alloc]; omega) (fun e => hne e.symm)).trans (heap_alloc_old _ _ hb)
  have e3 : ∀ b, b < w1.heap.size → (Value.slice Aa ma ca).ownBlock ≠ some b → b ≠ g → (w2.setCell ⟨g, 1, none⟩ (.slice (some ⟨g', 0, none⟩) (ma + 1) cap)).heap[b]? = w1.heap[b]? := fun b hb hne hbg => (Below.heap_setCell w2 _ _ b hbg).trans (e2 b hb hne)
  have hal : ∀ b, (Value.slice Aa ma ca).ownBlock = some b → b < w.heap.size := fun b hb => own_lt h.arr b hb
  have hsz : (w2.setCell ⟨g, 1, none⟩ (.slice (some ⟨g', 0, none⟩) (ma + 1) cap)).heap.size = w2.heap.size := by simp [World.setCell]
  have hold : ∀ d ∈ cs, ∀ b, d.Blk b → b < w.heap.size := fun d hd b hb => by
    obtain ⟨_, _, hdl⟩ := h.mem hd
    exact hdl.lt hb
  have hcnew : ∀ b, c.Blk b → w.heap.size ≤ b ∧ b < w1.heap.size := fun b hb => ⟨by rw [← hs0]; exact (hl.kind hb).1, hl.lt hb⟩
  have hkeep : ∀ d ∈ cs, ∀ b, (d.Blk b ∨ PB b) → b < w.heap.size → (w2.setCell ⟨g, 1, none⟩ (.slice (some ⟨g', 0, none⟩) (ma + 1) cap)).heap[b]? = w.heap[b]? := fun d hd b hb hlt => (e3 b (by omega) (fun e => hb.elim (fun h2 => (h.own_ne hd h2).2 e) (fun h2 => h.free.2 b e h2)) (fun e => hb.elim (fun h2 => (h.own_ne hd h2).1 e) (fun h2 => h.free.1 (e ▸ h2)))).trans (e1 b hlt)
  have hagree : Agree PB w (w2.setCell ⟨g, 1, none⟩ (.slice (some ⟨g', 0, none⟩) (ma + 1) cap)) := fun b hp hlt => (e3 b (by omega) (fun e => h.free.2 b e hp) (fun e => h.free.1 (e ▸ hp))).trans (e1 b hlt)
  have hne2 : g' ≠ g := by
    rcases hat with h2 | h2
    · exact fun e => hav (by rw [h2, e])
    · omega
  refine ⟨fun b => PB b ∨ (PBc b ∧ b < w1.heap.size), ⟨?_, ?_, by simp [h.len], fun j d m hd hm => ?_, ?_, h.base, ?_, ?_⟩, fun b hp => ?_, fun b hp => .inl hp, hagree, ⟨?_, ?_, ?_, ?_, fun k hk => ?_⟩⟩
  · have h2 : w2.heap[g]? = some (.cells #[.int .i64 (n : Int), .slice Aa ma ca] 106 (0, 0)) := (e2 g (by omega) hav).trans ((e1 g hgl).trans h.cells)
    rw [cells_set h2 1 _]
    rfl
  · have hml : ma = cs.length := by
      rcases h.arr.2 with ⟨h1, h2⟩ | ⟨ab, cap', cur, h1, _⟩
      · injection h1 with a b _; omega
      · injection h1 with a b _
    rw [List.length_append, List.length_singleton, List.map_append, ← hml]
    exact own_same ho (fun b hb => Below.heap_setCell w2 _ _ b (fun e => by
      have e4 : some g' = some b := hb
      cases e4
      exact hne2 e))
  · rcases Nat.lt_or_ge j cs.length with hj | hj
    · rw [List.getElem?_append_left hj] at hd
      rw [List.getElem?_append_left (by rw [← h.len]; exact hj)] at hm
      have hdm := List.mem_of_getElem? hd
      have hold' := h.lv j d m hd hm
      exact (hold'.keep (hkeep d hdm) (fun b hb => hold'.lt hb)).mono (fun b hp => .inl hp) (fun b hb hp => hp.elim (hold'.free b hb) (fun h2 => by
        have h3 := hpc b h2.1
        have h4 := hold d hdm b hb
        omega))
    · rw [List.getElem?_append_right hj] at hd
      rw [List.getElem?_append_right (by rw [← h.len]; exact hj)] at hm
      have hj0 : j - cs.length = 0 := by
        have := (List.getElem?_eq_some_iff.1 hd).1
        simp at this
        omega
      rw [hj0] at hd
      rw [← h.len, hj0] at hm
      simp only [List.getElem?_cons_zero, Option.some.injEq] at hd hm
      subst hd
      subst hm
      have hl2 := (hl.bound).lower (show B ≤ w0.heap.size by omega)
      refine (hl2.keep (fun b hb hlt => ?_) (fun b hb => hl2.lt hb)).mono (fun b hp => .inr hp) (fun b hb hp => hp.elim (fun h2 => ?_) (fun h2 => hl2.free b hb h2))
      · have hge : w.heap.size ≤ b := hb.elim (fun h2 => (hcnew b h2).1) (fun h2 => by have := hpc b h2.1; omega)
        exact e3 b hlt (fun e => by have := hal b e; omega) (fun e => by omega)
      · have h3 := hbd b h2
        have h4 := (hcnew b hb).1
        omega
  · refine List.pairwise_append.2 ⟨h.apart, by simp, fun a ha d hd b hb hb' => ?_⟩
    rw [List.mem_singleton.1 hd] at hb'
    have h3 := hold a ha b hb
    have h4 := (hcnew b hb').1
    omega
  · exact fun hp => hp.elim h.free.1 (fun h2 => by have := hpc g h2.1; omega)
  · intro b hb hp
    have e4 : some g' = some b := hb
    cases e4
    rcases hat with h2 | h2
    · exact hp.elim (h.free.2 g' h2) (fun h3 => by have h5 := hpc g' h3.1; have h6 := hal g' h2; omega)
    · exact hp.elim (fun h3 => by have := hbd g' h3; omega) (fun h3 => by omega)
  · rw [hsz]
    rcases hp with hp | hp
    · have := hbd b hp; omega
    · omega
  · exact hg.os.trans (hb1.os.trans hb0.os)
  · exact hg.tape.trans (hb1.tape.trans hb0.tape)
  · exact hg.output.trans (hb1.output.trans hb0.output)
  · rw [hsz]; omega
  · have hav2 : (Value.slice Aa ma ca).ownBlock ≠ some k := fun e => by
      have := (own_kind h.arr e).1
      omega
    exact (e3 k (by omega) hav2 (by have := h.base; omega)).trans (e1 k (by omega))
theorem GrAt.made (h : GrAt w B PB g n av cs ls) (hbd : ∀ b, PB b → b < w.heap.size) (hb : Below w.heap.size w w1) {r : Value} {rp : List Int} (hr : PN w.heap.size w1 r rp) :
    ∃ PB', GrAt w1 B PB' g n av cs ls ∧ PV w1 PB' r rp ∧ (∀ b, PB b → PB' b) ∧ ∀ b, PB' b → b < w1.heap.size := by
  refine ⟨fun b => PB b ∨ (w.heap.size ≤ b ∧ b < w1.heap.size), (h.below hb).mono (fun b h2 => .inl h2) (fun h2 => h2.elim h.free.1 (fun h3 => by have := lt_of_some h.cells; omega)) (fun b hb2 h2 => h2.elim (h.free.2 b hb2) (fun h3 => by have := own_lt h.arr b hb2; omega)) (fun d hd b hb2 h2 => ?_), hr.pv (fun b h1 h2 => .inr ⟨h1, h2⟩), fun b h2 => .inl h2, fun b h2 => h2.elim (fun h3 => Nat.lt_of_lt_of_le (hbd b h3) hb.size) (fun h3 => h3.2)⟩
  obtain ⟨_, _, hdl⟩ := h.mem hd
  exact h2.elim (hdl.free b hb2) (fun h3 => by have := hdl.lt hb2; omega)
theorem wpList_delete_run {P : Program} {w w1 : World} {ops : Array Oper} {rest : List Oper} {o : Oper} {a : Act} {Q : Exit → Act → World → Prop} (hgd : o.guard = none) (m x : Operand) (t k : TypeId) (ho : o.op = .call { callee := .builtin .delete, args := #[m, x], argTypes := #[t, k] })
    (mv xv : Value) (hm : a.eval m = mv) (hx : a.eval x = xv) (hr : (Builtin.delete_ #[t, k] o.type #[mv, xv]).run P w = .ok (.tuple #[]) w1) (h : wpList P ops Q rest (a.put o.dst (.tuple #[])) w1) : wpList P ops Q (o :: rest) a w := by
  refine wpList_plain hgd fun K hK => ?_
  unfold Oper.wp execOp
  simp only [ho, resolve, invoke, builtin, Sem.run_bind, Sem.run_pure, Result.andThen_ok, List.map_toArray, List.map_cons, List.map_nil, hm, hx, hr]
  exact hK _ _ h
end Go.Proofs.Ytpkgckccfanchaa.M

namespace Go.Proofs.Ytpkgckccfanchaa.M
open Go.RowKit YtpkgckccfanchaaW.PrintWords YtpkgckccfanchaaW.PrintLast YtpkgckccfanchaaW.PrintMore
open Sims
open Go.ChangeMaps (setBlock)
set_option linter.unusedVariables false
set_option linter.unusedSimpArgs false
def Left (w w' : World) (B : Nat) (PB : Nat → Prop) (g n : Nat) (cs : List LC) (ls : List Lv) : Prop :=
  ∃ av' PB' csx, GrAt w' B PB' g n av' (cs ++ csx) ls ∧ (∀ b, PB' b → b < w'.heap.size) ∧ (∀ b, PB b → PB' b) ∧ Agree PB w w' ∧ Below B w w'
def InsC (n f : Nat) : Prop := ∀ {w : World} {B : Nat} {PB : Nat → Prop} {g : Nat} {av : Value} {cs : List LC} {ls : List Lv} {k : Nat} {pts : List Int} {p : List Int} {v : Value} {okp : Nat → Prop} {ls' : List Lv},
  GrAt w B PB g n av cs ls → (∀ b, PB b → b < w.heap.size) → B ≤ w.heap.size → pts.length = k → k ≤ ls.length → PC n pts (ls.drop k) → GenB (ls.drop k) → pts.Nodup → (∀ x ∈ pts, 0 ≤ x ∧ x < n) → IsP n p → (∀ x ∈ pts, rdl p x = x) → n + 1 ≤ f + k → PV w okp v p → insF n f (ls.drop k) p = some ls' →
    Calls Try.prog 84 #[.pointer (some ⟨g, 0, none⟩), .int .i64 (k : Int), v] w fun e w' => e = .returned (.tuple #[]) ∧ Left w w' B PB g n (cs.take k) (ls.take k ++ ls')
def InSt (w wr : World) (B : Nat) (PB : Nat → Prop) (g n : Nat) (cs0 : List LC) (cA : LC) (ls0 : List Lv) (l1 : Lv) (st : List (Int × Int) × List Lv) : Prop :=
  ∃ avx PBx csx, GrAt wr B PBx g n avx (cs0 ++ cA :: csx) (ls0 ++ { l1 with todo := st.1 } :: st.2) ∧ (∀ b, PBx b → b < wr.heap.size) ∧ (∀ b, PB b → PBx b) ∧ Agree PB w wr ∧ Below B w wr
theorem GrAt.mid {w : World} {B g n : Nat} {PB : Nat → Prop} {av : Value} {cs0 cs1 : List LC} {c : LC} {ls0 ls1 : List Lv} {l : Lv} (h : GrAt w B PB g n av (cs0 ++ c :: cs1) (ls0 ++ l :: ls1)) (hl : cs0.length = ls0.length) : LvAt w B PB c l :=
  h.lv cs0.length c l (by simp) (by rw [hl]; simp)
theorem InSt.lv {w wr : World} {B : Nat} {PB : Nat → Prop} {g n : Nat} {cs0 : List LC} {cA : LC} {ls0 : List Lv} {l1 : Lv} {st : List (Int × Int) × List Lv} (h : InSt w wr B PB g n cs0 cA ls0 l1 st) (hl : cs0.length = ls0.length) :
    ∃ PBx, LvX wr B PBx cA l1.point l1.gens (dom l1) l1.reps st.1 := by
  obtain ⟨_, PBx, _, h1, _⟩ := h
  exact ⟨PBx, h1.mid hl⟩
theorem InSt.below {w wr w1 : World} {B : Nat} {PB : Nat → Prop} {g n : Nat} {cs0 : List LC} {cA : LC} {ls0 : List Lv} {l1 : Lv} {st : List (Int × Int) × List Lv} (h : InSt w wr B PB g n cs0 cA ls0 l1 st) (hb : Below wr.heap.size wr w1) (hw : B ≤ wr.heap.size) (hPB : ∀ b, PB b → b < w.heap.size) (hsz : w.heap.size ≤ wr.heap.size) : InSt w w1 B PB g n cs0 cA ls0 l1 st := by
  obtain ⟨avx, PBx, csx, h1, h2, h3, h4, h5⟩ := h
  exact ⟨avx, PBx, csx, h1.below hb, fun b hp => Nat.lt_of_lt_of_le (h2 b hp) hb.size, h3, fun b hp hlt => (hb.block b (Nat.lt_of_lt_of_le hlt hsz)).trans (h4 b hp hlt), ⟨hb.os.trans h5.os, hb.tape.trans h5.tape, hb.output.trans h5.output, Nat.le_trans h5.size hb.size, fun i hi => (hb.block i (Nat.lt_of_lt_of_le hi hw)).trans (h5.block i hi)⟩⟩
theorem InSt.drop {w wr : World} {B : Nat} {PB : Nat → Prop} {g n : Nat} {cs0 : List LC} {cA : LC} {ls0 : List Lv} {l1 : Lv} {st : List (Int × Int) × List Lv} (h : InSt w wr B PB g n cs0 cA ls0 l1 st) (hl : cs0.length = ls0.length) (hs : Small st.1) (hn : st.1.Nodup) {k : Int × Int} (hk : 0 ≤ k.1 ∧ k.1 ≤ 1000000000000 ∧ 0 ≤ k.2 ∧ k.2 ≤ 1000000000000) (hm : k ∈ st.1) (hsz : w.heap.size ≤ wr.heap.size) :
    ∃ w1, (∀ ty, (Builtin.delete_ #[109, 139] ty #[.map (some cA.tb), .agg #[.int .i64 k.1, .int .i64 k.2]]).run Try.prog wr = .ok (.tuple #[]) w1) ∧ InSt w w1 B PB g n cs0 cA ls0 l1 (st.1.erase k, st.2) ∧ wr.heap.size ≤ w1.heap.size ∧ Chg (fun i => i = cA.tb) wr w1 := by
  obtain ⟨avx, PBx, csx, h1, h2, h3, h4, h5⟩ := h
  have hlv := h1.mid hl
  obtain ⟨w1, hr, ht, hc⟩ := todo_drop hlv.todo hs hn hk hm 0
  have hc' : Chg cA.Blk wr w1 := hc.mono (fun b e => .inr (.inr (.inr (.inr e))))
  have hge : ∀ b, cA.Blk b → B ≤ b := fun b hb => (hlv.kind hb).1
  refine ⟨w1, fun ty => hr, ⟨avx, PBx, csx, h1.upd hl rfl (lvx_todo hlv ht hc) hc' (fun b hb => .inl hb) (fun b hb => hb) (fun b hb => .inl hb), fun b hp => Nat.lt_of_lt_of_le (h2 b hp) hc.size, h3, fun b hp hlt => (hc'.keep b (Nat.lt_of_lt_of_le hlt hsz) (fun hb => hlv.free b hb (h3 b hp))).trans (h4 b hp hlt), ⟨hc.os.trans h5.os, hc.tape.trans h5.tape, hc.output.trans h5.output, Nat.le_trans h5.size hc.size, fun i hi => ?_⟩⟩, hc.size, hc⟩
  have hlt : i < wr.heap.size := by
    have := hge cA.lb (.inl rfl)
    have := hlv.lt (.inl rfl)
    omega
  exact (hc'.keep i hlt (fun hb => by have := hge i hb; omega)).trans (h5.block i hi)
theorem InSt.cells {w wr : World} {B : Nat} {PB : Nat → Prop} {g n : Nat} {cs0 : List LC} {cA : LC} {ls0 : List Lv} {l1 : Lv} {st : List (Int × Int) × List Lv} (h : InSt w wr B PB g n cs0 cA ls0 l1 st) (hl : cs0.length = ls0.length) {lb : Nat} (hlb : cA.lb = lb) : ∃ A cap A' cap', cA.gv = .slice A l1.gens.length cap ∧ cA.ov = .slice A' l1.reps.length cap' ∧
    wr.cell? ⟨lb, 1, none⟩ = some (.slice A l1.gens.length cap) ∧ wr.cell? ⟨lb, 2, none⟩ = some (.slice A' l1.reps.length cap') ∧ wr.cell? ⟨lb, 3, none⟩ = some (.map (some cA.rb)) ∧ wr.cell? ⟨lb, 4, none⟩ = some (.map (some cA.tb)) := by
  obtain ⟨PBx, hx⟩ := h.lv hl
  obtain ⟨_, h1, h2, h3, h4⟩ := hx.cell
  rw [hlb] at h1 h2 h3 h4
  obtain ⟨gs, hg, _⟩ := hx.gens
  obtain ⟨A, cap, e⟩ := own_slice hg
  obtain ⟨A', cap', e'⟩ := own_slice hx.orb
  have hd : (dom l1).length = l1.reps.length := by simp [dom]
  rw [hd] at e'
  exact ⟨A, cap, A', cap', e, e', by rw [h1, e], by rw [h2, e'], h3, h4⟩
theorem loop_small {n : Nat} {pts : List Int} {l1 : Lv} {rest : List Lv} {st : List (Int × Int) × List Lv} (h : LoopInv n pts l1 rest st) (h1 : l1.reps.length ≤ 512) (h2 : l1.gens.length ≤ 1000000000000) : Small st.1 := by
  intro q hq
  obtain ⟨a, b, rfl, ha, hb⟩ := h.tin q hq
  exact ⟨by show (0 : Int) ≤ a; omega, by show (a : Int) ≤ _; omega, by show (0 : Int) ≤ b; omega, by show (b : Int) ≤ _; omega⟩
theorem range_cons {a m : Nat} (h : a < m) : List.range' a (m - a) = a :: List.range' (a + 1) (m - (a + 1)) := by
  have : m - a = (m - (a + 1)) + 1 := by omega
  rw [this, List.range'_succ]
theorem allF_cons {ins : List Lv → List Int → Option (List Lv)} {l : Lv} {a : Nat} {zs : List Nat} {st stF : List (Int × Int) × List Lv} (h : allF ins l (a :: zs) st = some stF) : ∃ st1, rowF ins l a (List.range' 0 l.gens.length) st = some st1 ∧ allF ins l zs st1 = some stF := by
  unfold allF at h ⊢
  rw [List.foldlM_cons] at h
  exact Option.bind_eq_some_iff.1 h
theorem rowF_cons {ins : List Lv → List Int → Option (List Lv)} {l : Lv} {a b : Nat} {bs : List Nat} {st stF : List (Int × Int) × List Lv} (h : rowF ins l a (b :: bs) st = some stF) : ∃ st1, stepF ins l st a b = some st1 ∧ rowF ins l a bs st1 = some stF := by
  unfold rowF at h ⊢
  rw [List.foldlM_cons] at h
  exact Option.bind_eq_some_iff.1 h
set_option maxHeartbeats 8000000 in
set_option maxRecDepth 100000 in
theorem insert_succ {n f : Nat} (hn : 0 < n) (h11 : n ≤ 11) (ih : InsC n f) : InsC n (f + 1) := by
  intro w B PB g av cs ls k pts p v okp ls' hG hbd hB hkp hkl hPC hgb hpn hpr hp hfx hfk hv hins
  have hn' : n ≤ 512 := by omega
  have hlen0 := PC_length hPC hpn hpr
  have hlsn : ls.length ≤ n := by rw [List.length_drop] at hlen0; omega
  have hpl : p.length = n := hp.len
  obtain ⟨Aa, ca, rfl⟩ := own_slice hG.arr
  have hc1 : w.cell? ⟨g, 1, none⟩ = some (.slice Aa cs.length ca) := by simp [World.cell?, hG.cells]
  have hc0 : w.cell? ⟨g, 0, none⟩ = some (.int .i64 (n : Int)) := by simp [World.cell?, hG.cells]
  have HCL := Aside0.mk hG.len
  have HG := Aside0.mk hG
  have HBD := Aside0.mk hbd
  have HB := Aside0.mk hB
  have HKP := Aside0.mk hkp
  have HKL := Aside0.mk hkl
  have HPC := Aside0.mk hPC
  have HGB := Aside0.mk hgb
  have HPN := Aside0.mk hpn
  have HPR := Aside0.mk hpr
  have HP := Aside0.mk hp
  have HFX := Aside0.mk hfx
  have HFK := Aside0.mk hfk
  have HV := Aside0.mk hv
  have HINS := Aside0.mk hins
  have HN := Aside0.mk hn
  have HLSN := Aside0.mk hlsn
  have HPL := Aside0.mk hpl
  have HRI := Aside0.mk (resid_isP (PC_ok hPC) hp)
  have HIH : Aside0 (InsC n f) := ⟨@ih⟩
  clear ih hG hbd hB hkp hkl hPC hgb hpn hpr hp hfx hfk hv hins hn hlen0 hlsn hpl
  by_cases hm : movedL (residF (ls.drop k) p) < 0
  · go_enter Try.func84, Try.ntmps84
    go_wp2_with (first | (go_at_call 76; (with_reducible refine (clone_pv (by rw [HPL.out]; exact HN.out) (by rw [HPL.out]; exact hn') HV.out).mono ?_); rintro e w1 ⟨r, rfl, hR, hb⟩; have HR := Aside0.mk hR; have HB1 := Aside0.mk hb; clear hR hb) | (go_at_call 93; (with_reducible refine (residue_calls HN.out hn' (HG.out.below HB1.out) HKL.out (PC_ok HPC.out) HR.out.any HP.out (by have := HLSN.out; omega)).mono ?_); rintro e w2 ⟨u, rfl, hU, hb⟩; have HU := Aside0.mk hU; have HB2 := Aside0.mk hb; clear hU hb) | (go_at_call 92; (with_reducible refine (moved_pv (by rw [HRI.out.len]; exact hn') HU.out).mono ?_); rintro e w3 ⟨rfl, hD⟩; have HD := Aside0.mk hD; clear hD))
    refine bodyPost_ret (v := .tuple #[]) (by simp [results, Try.results84, go_sem]) rfl ⟨rfl, ?_⟩
    have e1 : ls' = ls.drop k := by
      have h := HINS.out
      rw [insF, if_pos hm] at h
      exact (Option.some.inj h).symm
    have hb3 : Below w.heap.size w w3 := pyD (pyD HB1.out HB1.out.size HB2.out) (Nat.le_trans HB1.out.size HB2.out.size) HD.out.below
    refine ⟨.slice Aa cs.length ca, PB, cs.drop k, ?_, fun b hb => Nat.lt_of_lt_of_le (HBD.out b hb) hb3.size, fun _ h => h, fun b _ hlt => hb3.block b hlt, ⟨hb3.os, hb3.tape, hb3.output, hb3.size, fun i hi => hb3.block i (Nat.lt_of_lt_of_le hi HB.out)⟩⟩
    rw [e1, List.take_append_drop, List.take_append_drop]
    exact HG.out.below hb3
  · have hmm : ¬ movedL (residF (ls.drop k) p) < 0 := hm
    have HMM := Aside0.mk hmm
    have HF := Aside0.mk (head_pc HPC.out HP.out HFX.out hmm HGB.out)
    clear hmm
    go_enter Try.func84, Try.ntmps84
    go_upto_if 25 with (first | (go_at_call 76; (with_reducible refine (clone_pv (by rw [HPL.out]; exact HN.out) (by rw [HPL.out]; exact hn') HV.out).mono ?_); rintro e w1 ⟨r, rfl, hR, hb⟩; obtain ⟨Ar, cr, rfl, -, -⟩ := PV.read hR.any; have hc11 := pyA hb hc1; have hc01 := pyA hb hc0; have HR := Aside0.mk hR; have HB1 := Aside0.mk hb; clear hR hb) | (go_at_call 93; (with_reducible refine (residue_calls HN.out hn' (HG.out.below HB1.out) HKL.out (PC_ok HPC.out) HR.out.any HP.out (by have := HLSN.out; omega)).mono ?_); rintro e w2 ⟨u, rfl, hU, hb⟩; have hc12 := pyA hb hc11; have hc02 := pyA hb hc01; have HU := Aside0.mk hU; have HB2 := Aside0.mk hb; clear hU hb) | (go_at_call 92; (with_reducible refine (moved_pv (by rw [HRI.out.len]; exact hn') HU.out).mono ?_); rintro e w3 ⟨rfl, hD⟩; have hc13 := pyA hD.below hc12; have hc03 := pyA hD.below hc02; have HD := Aside0.mk hD; clear hD))
    have hbb2 : Below w1.heap.size w1 w3 := pyD HB2.out HB2.out.size HD.out.below
    obtain ⟨PB1, hG1, hR1, hup1, hbd1⟩ := HG.out.made HBD.out HB1.out HR.out
    have HG3 := Aside0.mk (hG1.below hbb2)
    have HR3 := Aside0.mk (PV.below hR1 hbb2)
    have HUP := Aside0.mk hup1
    have HBD3 : Aside0 (∀ b, PB1 b → b < w3.heap.size) := ⟨fun b hb => Nat.lt_of_lt_of_le (hbd1 b hb) hbb2.size⟩
    have HBW : Aside0 (Below w.heap.size w w3) := ⟨pyD HB1.out HB1.out.size hbb2⟩
    clear hm hG1 hR1 hup1 hbd1 hbb2 HG HV HR HB1 HB2 HU HD HRI hc1 hc11 hc12 hc0 hc01 hc02
    go_cut [2] (fun v2 wc => v2 = .slice Ar p.length cr ∧ Aside0 (∃ av' PB' c cs1, GrAt wc B PB' g n av' (cs.take k ++ c :: cs1) (ls.take k ++ (headF n p (ls.drop k)).1 :: (headF n p (ls.drop k)).2) ∧ (∀ b, PB' b → b < wc.heap.size) ∧ (∀ b, PB b → PB' b) ∧ PV wc PB' (.slice Ar p.length cr) p ∧ Agree PB w wc ∧ Below B w wc))
    case first =>
      by_cases hk : k = cs.length
      · have hkt : ((k : Int) == (cs.length : Int)) = true := by rw [hk]; exact beq_self_eq_true _
        have HK := Aside0.mk hk
        clear hk
        go_wp2_with (fail)
        have hd0 : ls.drop k = [] := List.drop_eq_nil_of_le (by have := HK.out; have := HCL.out; omega)
        have hmp : ¬ movedL p < 0 := by
          have h := HMM.out
          rw [hd0] at h
          have h2 : residF [] p = p := rfl
          rw [h2] at h
          omega
        obtain ⟨m0, m1, m2⟩ := moved_pos HP.out hmp
        have hf3 : w3.frozen? ⟨g, 1, none⟩ = false := by simp [World.frozen?, HG3.out.cells]
        have hgl3 := lt_of_some HG3.out.cells
        have hB3 : B ≤ w3.heap.size := Nat.le_trans HB.out HBW.out.size
        have hma3 : cs.length < 1000000 := by have := HCL.out; have := HLSN.out; omega
        refine insert_region3 hc03 hc13 hf3 hgl3 hB3 hma3 HG3.out.arr HG3.out.av_ne HN.out hn' HR3.out (by rw [HPL.out]; exact hn') rfl m0 m1 ?_
        intro w0 w4 w5 c PBc g' cap t26 t27 t28 t29 t30 t31 t32 t33 t34 t35 t36 t37 t38 t39 t40 t41 k1 k2 k3 k4 k5 k6 k7 k8
        obtain ⟨PB2, p1, p2, p3, p4, p5⟩ := HG3.out.push HBD3.out hB3 k1 k2 k3 k4 k5 k6 k7 k8
        have HP1 := Aside0.mk p1
        have HP2 := Aside0.mk p2
        have HP3 := Aside0.mk p3
        have HP4 := Aside0.mk p4
        have HP5 := Aside0.mk p5
        have HD0 := Aside0.mk hd0
        clear hd0 hmp m0 m1 m2 hf3 hgl3 hB3 hma3 k1 k2 k3 k4 k5 k6 k7 k8 p1 p2 p3 p4 p5 hc03 hc13 hkt
        obtain ⟨wz, hwz⟩ : ∃ wz, wz = w5.setCell ⟨g, 1, none⟩ (.slice (some ⟨g', 0, none⟩) (cs.length + 1) cap) := ⟨_, rfl⟩
        rw [← hwz]
        have HWZ := Aside0.mk hwz
        clear hwz
        go_wp2_with (fail)
        go_meet
        case rel =>
          refine ⟨rfl, ⟨⟨.slice (some ⟨g', 0, none⟩) (cs.length + 1) cap, PB2, c, [], ?_⟩⟩⟩
          rw [HWZ.out]
          have e1 : cs.take k = cs := List.take_of_length_le (by rw [HK.out]; exact Nat.le_refl _)
          have e2 : ls.take k = ls := List.take_of_length_le (by rw [HK.out, HCL.out]; exact Nat.le_refl _)
          rw [HD0.out, e1, e2]
          exact ⟨HP1.out, HP2.out, fun b hb => HP3.out b (HUP.out b hb), PV.mono (PV.agree HR3.out HP4.out) HP3.out, fun b hb hlt => (HP4.out b (HUP.out b hb) (Nat.lt_of_lt_of_le hlt HBW.out.size)).trans (HBW.out.block b hlt), ⟨HP5.out.os.trans HBW.out.os, HP5.out.tape.trans HBW.out.tape, HP5.out.output.trans HBW.out.output, Nat.le_trans HBW.out.size HP5.out.size, fun i hi => (HP5.out.block i hi).trans (HBW.out.block i (Nat.lt_of_lt_of_le hi HB.out))⟩⟩
      · have hkt : ((k : Int) == (cs.length : Int)) = false := by
          rw [beq_eq_false_iff_ne]
          omega
        have HK := Aside0.mk hk
        clear hk
        go_wp2_with (fail)
        go_meet
        case rel =>
          have hk1 : k < cs.length := by have := HK.out; have := HKL.out; have := HCL.out; omega
          have hk2 : k < ls.length := by have := HCL.out; omega
          refine ⟨rfl, ⟨⟨.slice Aa cs.length ca, PB1, cs[k], cs.drop (k + 1), ?_⟩⟩⟩
          have e1 : cs.take k ++ cs[k] :: cs.drop (k + 1) = cs := by rw [← List.drop_eq_getElem_cons hk1, List.take_append_drop]
          have e2 : ls.drop k = ls[k] :: ls.drop (k + 1) := List.drop_eq_getElem_cons hk2
          rw [e1, e2]
          show GrAt w3 B PB1 g n (.slice Aa cs.length ca) cs (ls.take k ++ ls[k] :: ls.drop (k + 1)) ∧ _
          rw [← e2, List.take_append_drop]
          exact ⟨HG3.out, HBD3.out, HUP.out, HR3.out, fun b _ hlt => HBW.out.block b hlt, ⟨HBW.out.os, HBW.out.tape, HBW.out.output, HBW.out.size, fun i hi => HBW.out.block i (Nat.lt_of_lt_of_le hi HB.out)⟩⟩
    case rest =>
      obtain ⟨rfl, HH⟩ := hcut
      clear hc13 hc03 HG3 HR3 HBD3 HUP HBW
      obtain ⟨hgb2, hpc2, -, -⟩ := HF.out
      obtain ⟨lr, hlr⟩ : ∃ lr, headF n p (ls.drop k) = lr := ⟨_, rfl⟩
      obtain ⟨l, rest⟩ := lr
      rw [hlr] at hgb2 hpc2 HH
      dsimp only at hgb2 hpc2 HH
      obtain ⟨avh, PBh, c, cs1, hGh, hbdh, huph, hRh, hagh, hBh⟩ := HH.out
      have hkl1 : (cs.take k).length = k := by rw [List.length_take]; have := HKL.out; have := HCL.out; omega
      have hkl2 : (ls.take k).length = k := by rw [List.length_take]; have := HKL.out; omega
      have hkl3 : (cs.take k).length = (ls.take k).length := by rw [hkl1, hkl2]
      obtain ⟨hCl, hLI, hgeq, hpeq⟩ := add_spec hpc2 hgb2.2 HP.out HFX.out
      have hlv := hGh.mid hkl3
      have hfew := gens_few HN.out h11 hpc2 HPN.out HPR.out hgb2 l (by simp)
      have htd : l.todo = [] := hpc2.2.1
      have hB2 : B ≤ wc.heap.size := Nat.le_trans HB.out hBh.size
      have hadd := add_calls HN.out hn' hlv hB2 hbdh hRh (fun g hg => hCl.gens g (by rw [hgeq]; exact hg)) hpc2.cl.pt (hpc2.cl.gr.mono (fun g hg => List.mem_append.2 (.inl hg))) (by rw [htd]; exact fun q hq => by simp at hq) (by rw [htd]; exact List.nodup_nil) hfew
      obtain ⟨stF, hall, hfin⟩ : ∃ stF, allF (insF n f) (addF n l p) (List.range' 0 (addF n l p).reps.length) ((addF n l p).todo, rest) = some stF ∧ { addF n l p with todo := stF.1 } :: stF.2 = ls' := by
        have h := HINS.out
        rw [insF, if_neg (show ¬ movedL (residF (ls.drop k) p) < 0 from by have := HMM.out; omega), hlr] at h
        exact Option.map_eq_some_iff.1 h
      have hInOk : InsOk n (insF n f) ((addF n l p).point :: pts) := by
        rw [hpeq]
        exact ins_ok f _ (List.nodup_cons.2 ⟨hpc2.2.2.1, HPN.out⟩) (fun x hx => by
          rcases List.mem_cons.1 hx with rfl | hx
          · exact hpc2.cl.pt
          · exact HPR.out x hx) (by rw [List.length_cons, HKP.out]; have := HFK.out; omega)
      obtain ⟨Ah, ch, hav⟩ := own_slice hGh.arr
      have hkk : (cs.take k ++ c :: cs1)[k]? = some c := by
        rw [List.getElem?_append_right (by omega), hkl1, Nat.sub_self]
        rfl
      have hc1h : wc.cell? ⟨g, 1, none⟩ = some avh := by simp [World.cell?, hGh.cells]
      rw [hav] at hGh hc1h
      obtain ⟨-, adh, rfl, hcp⟩ := hGh.ptr_at hkk
      obtain ⟨mh, hmh⟩ : ∃ mh, (cs.take k ++ c :: cs1).length = mh := ⟨_, rfl⟩
      rw [hmh] at hc1h
      have hkm : (k : Int) < (mh : Int) := by
        have : k < (cs.take k ++ c :: cs1).length := by rw [List.length_append, hkl1, List.length_cons]; omega
        omega
      have hst0 : ∀ wA, (∃ cA PBA, AddSt wc B PBh c wA PBA cA l.point (l.gens ++ [p]) (dom (addF n l p)) (addF n l p).reps (addF n l p).todo) → ∃ cA, cA.lb = c.lb ∧ InSt w wA B PB g n (cs.take k) cA (ls.take k) (addF n l p) ((addF n l p).todo, rest) ∧ w.heap.size ≤ wA.heap.size := by
        rintro wA ⟨cA, PBA, hA⟩
        have hge : ∀ b, c.Blk b → B ≤ b := fun b hb => (hlv.kind hb).1
        have hG4 := hGh.upd hkl3 hA.lb (show LvAt wA B PBA cA (addF n l p) from hA.lv) hA.chg hA.blk hA.up hA.pb
        refine ⟨cA, hA.lb, ⟨_, PBA, cs1, hG4, hA.bd, fun b hb => hA.up b (huph b hb), fun b hb hlt => ?_, ⟨hA.chg.os.trans hBh.os, hA.chg.tape.trans hBh.tape, hA.chg.output.trans hBh.output, Nat.le_trans hBh.size hA.chg.size, fun i hi => ?_⟩⟩, Nat.le_trans hBh.size hA.chg.size⟩
        · exact (hA.chg.keep b (Nat.lt_of_lt_of_le hlt hBh.size) (fun h => hlv.free b h (huph b hb))).trans (hagh b hb hlt)
        · exact (hA.chg.keep i (by omega) (fun h => by have := hge i h; omega)).trans (hBh.block i hi)
      obtain ⟨l1, hl1⟩ : ∃ l1, addF n l p = l1 := ⟨_, rfl⟩
      rw [hl1] at hall hfin hCl hLI hInOk hst0 hadd hgeq hpeq
      have HADD := Aside0.mk hadd
      have HST0 := Aside0.mk hst0
      have HALL := Aside0.mk hall
      have HFIN := Aside0.mk hfin
      have HCL2 := Aside0.mk hCl
      have HLI := Aside0.mk hLI
      have HIO := Aside0.mk hInOk
      have HKL3 := Aside0.mk hkl3
      have HKL1 := Aside0.mk hkl1
      have HKL2 := Aside0.mk hkl2
      have HB2 := Aside0.mk hB2
      have HFEW := Aside0.mk hfew
      have HPEQ := Aside0.mk hpeq
      have HGEQ := Aside0.mk hgeq
      clear hadd hst0 hall hfin hCl hLI hInOk hkl3 hkl1 hkl2 hB2 hfew hpeq hgeq hgb2 hpc2 hlr HH hGh hbdh huph hRh hagh hBh hlv htd hav hkk hmh HINS HMM HF hl1
      go_upto_region 6 with (first | (go_at_call 107; (with_reducible refine HADD.out.mono ?_); rintro e wA ⟨cA, PBA, rfl, hA⟩; have HA := Aside0.mk hA; clear hA))
      obtain ⟨cB, hlb, hS0, hsz0⟩ := HST0.out wA ⟨cA, PBA, HA.out⟩
      have HS0 := Aside0.mk hS0
      have HLB := Aside0.mk hlb
      have HSZ0 := Aside0.mk hsz0
      clear hS0 hsz0 HST0 HADD HA hc1h hcp hkm
      have HM0 : Aside0 (l1.reps.length ≤ 512) := ⟨Nat.le_trans HCL2.out.gr.length hn'⟩
      have HKG : Aside0 (l1.gens.length ≤ 1000000000000) := ⟨by rw [HGEQ.out, List.length_append, List.length_singleton]; have := HFEW.out; omega⟩
      obtain ⟨-, -, Ao, co, -, -, -, hc2, -, -⟩ := HS0.out.cells HKL3.out HLB.out
      obtain ⟨m0, hm0⟩ : ∃ m0, l1.reps.length = m0 := ⟨_, rfl⟩
      obtain ⟨kg, hkg⟩ : ∃ kg, l1.gens.length = kg := ⟨_, rfl⟩
      rw [hm0] at hc2 HM0 HALL
      rw [hkg] at HKG
      have hm0' : m0 ≤ 512 := HM0.out
      have hkg' : kg ≤ 1000000000000 := HKG.out
      have HMM0 := Aside0.mk hm0
      have HKGG := Aside0.mk hkg
      clear hm0 hkg hlb
      go_wp2_with (fail)
      go_loopw [57] (fun i wr => ∃ (a : Nat) (st : List (Int × Int) × List Lv), i = .int .i64 a ∧ a ≤ m0 ∧ Aside0 (InSt w wr B PB g n (cs.take k) cB (ls.take k) l1 st) ∧ Aside0 (LoopInv n pts l1 rest st) ∧ Aside0 (allF (insF n f) l1 (List.range' a (m0 - a)) st = some stF) ∧ Aside0 (w.heap.size ≤ wr.heap.size)) (fun i _ => m0 - (intOf i).toNat)
      case atStart => exact ⟨0, (l1.todo, rest), rfl, by omega, HS0, HLI, HALL, HSZ0⟩
      case round =>
        clear HS0 HLI HALL HSZ0 hc2
        obtain ⟨a, st, rfl, ha, HS, HLI, HALL, HSZ⟩ := hrel
        by_cases hlt : a < m0
        · have hall := HALL.out
          rw [range_cons hlt] at hall
          obtain ⟨st1, hrow, hall1⟩ := allF_cons hall
          rw [HKGG.out] at hrow
          have HROW : Aside0 (rowF (insF n f) l1 a (List.range' 0 (kg - 0)) st = some st1) := ⟨hrow⟩
          have HALL1 := Aside0.mk hall1
          obtain ⟨Ag, cg, -, -, hgv, -, hc1, -, -, -⟩ := HS.out.cells HKL3.out HLB.out
          rw [HKGG.out] at hc1 hgv
          have HGV := Aside0.mk hgv
          have hlt2 : (a : Int) < (m0 : Int) := by omega
          clear hall hrow hall1 hgv HALL
          go_wp2_with (fail)
          go_loopw [65] (fun i wr => ∃ (b : Nat) (st : List (Int × Int) × List Lv), i = .int .i64 b ∧ b ≤ kg ∧ Aside0 (InSt w wr B PB g n (cs.take k) cB (ls.take k) l1 st) ∧ Aside0 (LoopInv n pts l1 rest st) ∧ Aside0 (rowF (insF n f) l1 a (List.range' b (kg - b)) st = some st1) ∧ Aside0 (w.heap.size ≤ wr.heap.size)) (fun i _ => kg - (intOf i).toNat)
          case atStart => exact ⟨0, st, rfl, by omega, HS, HLI, HROW, HSZ⟩
          case round =>
            clear HS HLI HROW HSZ hc1
            obtain ⟨b, st, rfl, hb, HS, HLI, HROW, HSZ⟩ := hrel
            by_cases hltb : b < kg
            · have hrow := HROW.out
              rw [range_cons hltb] at hrow
              obtain ⟨st2, hstep, hrow1⟩ := rowF_cons hrow
              obtain ⟨st2', hstep', hLI2, -, -⟩ := step_inv HCL2.out HPR.out HIO.out HLI.out (a := a) (b := b) (by rw [HMM0.out]; exact hlt) (by rw [HKGG.out]; exact hltb)
              have e2 : st2' = st2 := Option.some.inj (hstep'.symm.trans hstep)
              rw [e2] at hLI2
              have HROW1 := Aside0.mk hrow1
              have HLI2 := Aside0.mk hLI2
              obtain ⟨PBx, hx⟩ := HS.out.lv HKL3.out
              obtain ⟨s, hsb⟩ : ∃ s, l1.gens[b]? = some s := ⟨l1.gens[b]'(by rw [HKGG.out]; exact hltb), List.getElem?_eq_getElem _⟩
              obtain ⟨adg, us, rfl, hcu, hpu⟩ := gens_at hx.gens HGV.out hsb
              have hsm : s ∈ l1.gens := List.mem_of_getElem? hsb
              have hsp := HCL2.out.gens s hsm
              obtain ⟨As, cs', rfl, -, hCs⟩ := PV.read hpu
              obtain ⟨ads, rfl⟩ := PV.addr hCs (by rw [hsp.len]; exact HN.out)
              obtain ⟨-, -, -, -, -, -, -, -, -, hc4⟩ := HS.out.cells HKL3.out HLB.out
              have hpk : 0 ≤ ((a : Int), (b : Int)).1 ∧ ((a : Int), (b : Int)).1 ≤ 1000000000000 ∧ 0 ≤ ((a : Int), (b : Int)).2 ∧ ((a : Int), (b : Int)).2 ≤ 1000000000000 := ⟨by show (0 : Int) ≤ a; omega, by show (a : Int) ≤ _; omega, by show (0 : Int) ≤ b; omega, by show (b : Int) ≤ _; omega⟩
              have hsml := loop_small HLI.out (by rw [HMM0.out]; exact hm0') (by rw [HKGG.out]; exact hkg')
              have hlook := todo_look hx.todo hsml HLI.out.tnd hpk wr rfl
              dsimp only at hlook
              have hltb2 : (b : Int) < (kg : Int) := by omega
              have HSB := Aside0.mk hsb
              have HPU := Aside0.mk hpu
              have HSP := Aside0.mk hsp
              have HSM := Aside0.mk hsm
              have HPK := Aside0.mk hpk
              have HSML := Aside0.mk hsml
              by_cases hmem : ((a : Int), (b : Int)) ∈ st.1
              · have hd : decide (((a : Int), (b : Int)) ∈ st.1) = true := decide_eq_true hmem
                rw [hd] at hlook
                obtain ⟨r2, hins, hst2⟩ : ∃ r2, insF n f st.2 (schF l1.reps (l1.reps.getD a (0, [])).1 (l1.gens.getD b [])) = some r2 ∧ st2 = (st.1.erase ((a : Int), (b : Int)), r2) := by
                  unfold stepF at hstep
                  rw [if_pos hmem] at hstep
                  obtain ⟨r2, h1, h2⟩ := Option.map_eq_some_iff.1 hstep
                  exact ⟨r2, h1, h2.symm⟩
                obtain ⟨w1, hdel, hS1, hsz1, hch1⟩ := HS.out.drop HKL3.out hsml HLI.out.tnd hpk hmem HSZ.out
                dsimp only at hdel
                have hag1 : Agree PBx wr w1 := fun i hi hl => hch1.keep i hl (fun e => hx.free i (.inr (.inr (.inr (.inr e)))) hi)
                have HPU1 := Aside0.mk (PV.agree hpu hag1)
                have HCU1 : Aside0 (w1.cell? (adg.add b) = some (.slice (some ads) s.length cs')) := ⟨by
                  have hne : (adg.add b).block ≠ cB.tb := fun e => by
                    obtain ⟨et, ct, h1, _⟩ := hx.todo
                    have h2 := hcu
                    simp [World.cell?, e, h1] at h2
                  exact (World.cell?_of_block (hch1.keep _ (World.block_lt_of_cell? wr _ hcu) hne)).trans hcu⟩
                have HDEL := Aside0.mk hdel
                have HS1 := Aside0.mk hS1
                have HSZ1 : Aside0 (w.heap.size ≤ w1.heap.size) := ⟨Nat.le_trans HSZ.out hsz1⟩
                have HINS2 := Aside0.mk hins
                have HST2 := Aside0.mk hst2
                clear hag1 hch1 hd hins hst2 hdel hS1 hsz1 hmem hrow hstep hstep' hLI2 e2 hrow1 hx hsb hpu hsm hsp hCs hpk hsml HROW HS HSZ
                go_upto_region 14 with (at_delete; (with_reducible refine wpList_delete_run rfl (.tmp 82) (.tmp 85) 109 139 rfl _ _ rfl rfl (HDEL.out _) ?_))
                clear hlook hcu hc4
                obtain ⟨PBy, hx⟩ := HS1.out.lv HKL3.out
                dsimp only at hx
                obtain ⟨q, hq⟩ : ∃ q, l1.reps[a]? = some q := ⟨l1.reps[a]'(by rw [HMM0.out]; exact hlt), List.getElem?_eq_getElem _⟩
                obtain ⟨Ao3, cg3, Ao1, co1, -, hov1, -, hc21, hc31, -⟩ := HS1.out.cells HKL3.out HLB.out
                rw [HMM0.out] at hc21 hov1
                obtain ⟨ado, rfl, hco⟩ := orb_at hx hov1 (k := a) (x := q.1) (by rw [dom, List.getElem?_map, hq]; rfl)
                obtain ⟨x, hxq⟩ : ∃ x, q.1 = x := ⟨_, rfl⟩
                rw [hxq] at hco
                have hxd : x ∈ dom l1 := by rw [← hxq]; exact List.mem_map.2 ⟨q, List.mem_of_getElem? hq, rfl⟩
                have hxr := HCL2.out.gr.rng x hxd
                have hyd := HCL2.out.closed x hxd s HSM.out
                have hyr := HCL2.out.gr.rng _ hyd
                obtain ⟨As2, cs2, he2, -, hC2⟩ := PV.read HPU1.out
                have he3 : some ads = As2 := by injection he2
                rw [← he3] at hC2
                have hx0 := hxr.1
                have hx1 : x < (s.length : Int) := by rw [HSP.out.len]; exact hxr.2
                have hcy := PV.at_ hC2 hx0 hx1
                obtain ⟨ux, rx', fx, hlookx, hcasex⟩ := reps_look hx.reps HCL2.out.gr.rng hn' HCL2.out.gr.nd hxr.1 hxr.2
                obtain ⟨uy, ry', fy, hlooky, hcasey⟩ := reps_look hx.reps HCL2.out.gr.rng hn' HCL2.out.gr.nd hyr.1 hyr.2
                have hlookx' : ∀ W : World, W.heap[cB.rb]? = w1.heap[cB.rb]? → (Instr.lookup 108 (.map (some cB.rb)) (.int .i64 x) false).run Try.prog W = .ok ux W := fun W h => hlookx W false h
                have hlooky' : ∀ W : World, W.heap[cB.rb]? = w1.heap[cB.rb]? → (Instr.lookup 108 (.map (some cB.rb)) (.int .i64 (rdl s x)) false).run Try.prog W = .ok uy W := fun W h => hlooky W false h
                have hrepx : lookA x l1.reps = some (repL l1.reps x) := by
                  obtain ⟨r, hr⟩ := lookA_some hxd
                  rw [hr]; unfold repL; rw [hr]; rfl
                have hrepy : lookA (rdl s x) l1.reps = some (repL l1.reps (rdl s x)) := by
                  obtain ⟨r, hr⟩ := lookA_some hyd
                  rw [hr]; unfold repL; rw [hr]; rfl
                have hpux : PV w1 PBy ux (repL l1.reps x) := by
                  rcases hcasex with ⟨_, h1, h2⟩ | ⟨_, h1, _⟩
                  · rw [hrepx] at h1; cases h1; exact h2
                  · rw [hrepx] at h1; cases h1
                have hpuy : PV w1 PBy uy (repL l1.reps (rdl s x)) := by
                  rcases hcasey with ⟨_, h1, h2⟩ | ⟨_, h1, _⟩
                  · rw [hrepy] at h1; cases h1; exact h2
                  · rw [hrepy] at h1; cases h1
                have hsch : schF l1.reps (l1.reps.getD a (0, [])).1 (l1.gens.getD b []) = thenL (thenL (repL l1.reps x) s) (backL (repL l1.reps (rdl s x))) := by
                  have e1 : (l1.reps.getD a (0, [])).1 = x := by rw [List.getD_eq_getElem?_getD, hq, Option.getD_some, hxq]
                  have e2 : l1.gens.getD b [] = s := by rw [List.getD_eq_getElem?_getD, HSB.out, Option.getD_some]
                  rw [e1, e2]
                  rfl
                have hinsC : ∀ (w3 : World) (r : Value), Below w1.heap.size w1 w3 → PN w1.heap.size w3 r (thenL (thenL (repL l1.reps x) s) (backL (repL l1.reps (rdl s x)))) → Calls Try.prog 84 #[.pointer (some ⟨g, 0, none⟩), .int .i64 ((k : Int) + 1), r] w3 fun e w4 => e = .returned (.tuple #[]) ∧ (InSt w w4 B PB g n (cs.take k) cB (ls.take k) l1 (st.1.erase ((a : Int), (b : Int)), r2) ∧ w.heap.size ≤ w4.heap.size) ∧ w4.cell? ⟨c.lb, 3, none⟩ = some (.map (some cB.rb)) ∧ w4.cell? (ads.add x.toNat) = some (.int .i64 (rdl s x)) := by
                  intro w3 r hb3 hr3
                  obtain ⟨avx, PBz, csx, g1, g2, g3, g4, g5⟩ := HS1.out.below hb3 (Nat.le_trans HB.out HSZ1.out) HBD.out HSZ1.out
                  dsimp only at g1
                  have ed : (ls.take k ++ { l1 with todo := st.1.erase ((a : Int), (b : Int)) } :: st.2).drop (k + 1) = st.2 := by
                    rw [List.drop_append, HKL2.out, List.drop_eq_nil_of_le (by rw [HKL2.out]; omega), show k + 1 - k = 1 from by omega]
                    rfl
                  have et : (ls.take k ++ { l1 with todo := st.1.erase ((a : Int), (b : Int)) } :: st.2).take (k + 1) = ls.take k ++ [{ l1 with todo := st.1.erase ((a : Int), (b : Int)) }] := by
                    rw [List.take_append, HKL2.out, List.take_of_length_le (by rw [HKL2.out]; omega), show k + 1 - k = 1 from by omega]
                    rfl
                  have ec : (cs.take k ++ cB :: csx).take (k + 1) = cs.take k ++ [cB] := by
                    rw [List.take_append, HKL1.out, List.take_of_length_le (by rw [HKL1.out]; omega), show k + 1 - k = 1 from by omega]
                    rfl
                  have hfx := sch_fix HCL2.out HPR.out hxd HSM.out
                  have hip := (HCL2.out.sch hxd HSM.out).1
                  have hsch2 : schF l1.reps x s = thenL (thenL (repL l1.reps x) s) (backL (repL l1.reps (rdl s x))) := rfl
                  have hih : InsC n f := HIH.out
                  have hcall := @hih w3 B PBz g avx (cs.take k ++ cB :: csx) (ls.take k ++ { l1 with todo := st.1.erase ((a : Int), (b : Int)) } :: st.2) (k + 1) (l1.point :: pts) (schF l1.reps x s) r (fun _ => True) r2 g1 g2 (Nat.le_trans HB.out (Nat.le_trans HSZ1.out hb3.size)) (by rw [List.length_cons, HKP.out]) (by rw [List.length_append, HKL2.out, List.length_cons]; omega) (by rw [ed]; exact HLI.out.pc) (by rw [ed]; exact HLI.out.gb) (List.nodup_cons.2 ⟨HCL2.out.new, HPN.out⟩) (fun z hz => by
                    rcases List.mem_cons.1 hz with rfl | hz
                    · exact HCL2.out.pt
                    · exact HPR.out z hz) hip hfx (by have := HFK.out; omega) (by rw [hsch2]; exact hr3.any) (by rw [ed]; have h := HINS2.out; rw [hsch] at h; exact h)
                  refine hcall.mono ?_
                  rintro e w4 ⟨rfl, avx', PBz', csx', q1, q2, q3, q4, q5⟩
                  rw [ec, et, List.append_assoc, List.append_assoc] at q1
                  have hS4 : InSt w w4 B PB g n (cs.take k) cB (ls.take k) l1 (st.1.erase ((a : Int), (b : Int)), r2) := ⟨avx', PBz', csx', q1, q2, fun i hi => q3 i (g3 i hi), fun i hi hl => (q4 i (g3 i hi) (Nat.lt_of_lt_of_le hl (Nat.le_trans HSZ1.out hb3.size))).trans (g4 i hi hl), ⟨q5.os.trans g5.os, q5.tape.trans g5.tape, q5.output.trans g5.output, Nat.le_trans g5.size q5.size, fun i hi => (q5.block i hi).trans (g5.block i hi)⟩⟩
                  obtain ⟨-, -, -, -, -, -, -, -, z3, -⟩ := hS4.cells HKL3.out HLB.out
                  refine ⟨rfl, ⟨hS4, Nat.le_trans HSZ1.out (Nat.le_trans hb3.size q5.size)⟩, z3, ?_⟩
                  obtain ⟨ad5, u5, e5, hc5, hp5⟩ := gens_at (g1.mid HKL3.out).gens HGV.out HSB.out
                  have e6 : adg = ad5 := Option.some.inj e5
                  rw [← e6, pyA hb3 HCU1.out] at hc5
                  have e7 := Option.some.inj hc5
                  rw [← e7] at hp5
                  exact PV.at_ (PV.readAt hp5 q4) hx0 hx1
                have HW1 : Aside0 (rdl s x = rdl s x) := ⟨rfl⟩
                go_wp2_with (fail)
                refine insert_region15 HN.out hn' (by have := HKP.out; have := pts_le HPN.out HPR.out; omega) hc31 hcy hx0 hx1 hlookx' hlooky' (hx.lt (.inr (.inr (.inr (.inl rfl))))) hpux hpuy HPU1.out ((HCL2.out.gr.rep x hxd).1) ((HCL2.out.gr.rep _ hyd).1) HSP.out (fun w4 => InSt w w4 B PB g n (cs.take k) cB (ls.take k) l1 (st.1.erase ((a : Int), (b : Int)), r2) ∧ w.heap.size ≤ w4.heap.size) hinsC ?_
                rintro w4 t93 t94 t95 t96 t97 t98 t99 t100 t101 t102 t103 t104 t105 t106 t107 t108 t109 t110 t111 t112 t113 t114 t115 ⟨hS4, hsz4⟩
                have HS4 := Aside0.mk hS4
                have HSZ4 := Aside0.mk hsz4
                clear hinsC hS4 hsz4 hlookx' hlooky' hcy hx hco hc31 hc21 hxd hyd hxr hyr hq hxq hC2 hpux hpuy hrepx hrepy hsch hcasex hcasey hlookx hlooky
                go_wp2_with (fail)
                go_roundw
                case rel => exact ⟨b + 1, (st.1.erase ((a : Int), (b : Int)), r2), by go_num, by omega, HS4, ⟨by rw [← HST2.out]; exact HLI2.out⟩, ⟨by rw [← HST2.out]; exact HROW1.out⟩, HSZ4⟩
                case measure => simp [intOf]; omega
              · have hd : decide (((a : Int), (b : Int)) ∈ st.1) = false := decide_eq_false hmem
                rw [hd] at hlook
                have HST2 : Aside0 (st2 = st) := ⟨by
                  unfold stepF at hstep
                  rw [if_neg hmem] at hstep
                  exact (Option.some.inj hstep).symm⟩
                clear hd hmem hrow hstep hstep' hLI2 e2 hrow1 hx hsb hpu hsm hsp hCs hpk hsml HROW
                go_wp2_with (fail)
                go_roundw
                case rel => exact ⟨b + 1, st, by go_num, by omega, HS, HLI, ⟨by rw [← HST2.out]; exact HROW1.out⟩, HSZ⟩
                case measure => simp [intOf]; omega
            · obtain rfl : b = kg := by omega
              have HE : Aside0 (st = st1) := ⟨by
                have h := HROW.out
                rw [Nat.sub_self] at h
                exact Option.some.inj h⟩
              clear hltb hb HROW
              go_wp2_with (fail)
              go_roundw
              case rel => exact ⟨a + 1, st, by go_num, by omega, HS, HLI, ⟨by rw [HE.out]; exact HALL1.out⟩, HSZ⟩
              case measure => simp [intOf]; omega
        · obtain rfl : a = m0 := by omega
          have HE : Aside0 (st = stF) := ⟨by
            have h := HALL.out
            rw [Nat.sub_self] at h
            exact Option.some.inj h⟩
          clear hlt ha HALL
          go_wp2_with (fail)
          go_end0
          refine ⟨rfl, ?_⟩
          obtain ⟨avx, PBx, csx, g1, g2, g3, g4, g5⟩ := HS.out
          rw [HE.out] at g1
          exact ⟨avx, PBx, cB :: csx, by rw [← HFIN.out]; exact g1, g2, g3, g4, g5⟩
end Go.Proofs.Ytpkgckccfanchaa.M
