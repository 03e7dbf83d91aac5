/- Part of the proof of StabchainProducts: merged and pruned by merge2.py. -/

namespace Go.Proofs.Ytpkgckccfanchaa.Sims
theorem sub_len {α : Type} [DecidableEq α] : ∀ (a b : List α), a.Nodup → (∀ x ∈ a, x ∈ b) → a.length ≤ b.length
  | [], _, _, _ => Nat.zero_le _
  | x :: t, b, hn, hs => by
    obtain ⟨hx, ht⟩ := List.nodup_cons.1 hn
    have hxb : x ∈ b := hs x (by simp)
    have h := sub_len t (b.erase x) ht (fun y hy => (List.mem_erase_of_ne (fun e => hx (by rw [← e]; exact hy))).2 (hs y (by simp [hy])))
    rw [List.length_erase_of_mem hxb] at h
    have := List.length_pos_of_mem hxb
    simp only [List.length_cons]
    omega
theorem sub_eq {α : Type} [DecidableEq α] {a b : List α} (hn : a.Nodup) (hs : ∀ x ∈ a, x ∈ b) (hl : b.length ≤ a.length) : ∀ x ∈ b, x ∈ a := by
  intro y hy
  by_cases h : y ∈ a
  · exact h
  · have := sub_len (y :: a) b (List.nodup_cons.2 ⟨h, hn⟩) (fun x hx => by
      rcases List.mem_cons.1 hx with rfl | hx
      · exact hy
      · exact hs x hx)
    simp only [List.length_cons] at this
    omega
theorem same_len {α : Type} {a b : List α} (ha : a.Nodup) (hb : b.Nodup) (h : ∀ x, x ∈ a ↔ x ∈ b) : a.length = b.length := by
  letI : DecidableEq α := fun x y => Classical.propDecidable (x = y)
  exact Nat.le_antisymm (sub_len a b ha (fun x hx => (h x).1 hx)) (sub_len b a hb (fun x hx => (h x).2 hx))
theorem map_inj_nodup {α β : Type} (f : α → β) : ∀ (l : List α), l.Nodup → (∀ x ∈ l, ∀ y ∈ l, f x = f y → x = y) → (l.map f).Nodup
  | [], _, _ => by simp
  | x :: t, hn, hi => by
    obtain ⟨hx, ht⟩ := List.nodup_cons.1 hn
    rw [List.map_cons, List.nodup_cons]
    refine ⟨fun hm => ?_, map_inj_nodup f t ht (fun a ha b hb => hi a (by simp [ha]) b (by simp [hb]))⟩
    obtain ⟨y, hy, e⟩ := List.mem_map.1 hm
    have := hi y (by simp [hy]) x (by simp) e
    exact hx (this ▸ hy)
theorem nodup_inj {α : Type} {l : List α} (hn : l.Nodup) {i j : Nat} (hi : i < l.length) (hj : j < l.length) (e : l[i] = l[j]) : i = j := by
  have hp := List.pairwise_iff_getElem.1 (List.nodup_iff_pairwise_ne.1 hn)
  rcases Nat.lt_trichotomy i j with h | h | h
  · exact absurd e (hp i j hi hj h)
  · exact h
  · exact absurd e.symm (hp j i hj hi h)
theorem onto_self {α : Type} [DecidableEq α] {l : List α} (hn : l.Nodup) (f : α → α) (hm : ∀ x ∈ l, f x ∈ l) (hi : ∀ x ∈ l, ∀ y ∈ l, f x = f y → x = y) : ∀ y ∈ l, ∃ x ∈ l, f x = y := by
  intro y hy
  have h := sub_eq (map_inj_nodup f l hn hi) (b := l) (fun z hz => by obtain ⟨x, hx, rfl⟩ := List.mem_map.1 hz; exact hm x hx) (by simp) y hy
  obtain ⟨x, hx, e⟩ := List.mem_map.1 h
  exact ⟨x, hx, e⟩
class Gp (G : Type) extends Mul G where
  one : G
  inv : G → G
  assoc : ∀ a b c : G, a * b * c = a * (b * c)
  one_mul : ∀ a : G, one * a = a
  mul_one : ∀ a : G, a * one = a
  inv_mul : ∀ a : G, inv a * a = one
  mul_inv : ∀ a : G, a * inv a = one
  act : G → Int → Int
  act_one : ∀ x, act one x = x
  act_mul : ∀ a b x, act (a * b) x = act b (act a x)
open Gp
variable {G : Type} [Gp G]
theorem inv_cancel (a b : G) : a * inv b * b = a := by rw [assoc, inv_mul, mul_one]
theorem cancel_inv (a b : G) : a * b * inv b = a := by rw [assoc, mul_inv, mul_one]
theorem mul_right_eq {a b c : G} (h : a * c = b * c) : a = b := by rw [← cancel_inv a c, h, cancel_inv]
theorem inv_one : inv (one : G) = one := by rw [← mul_one (inv one), inv_mul]
theorem inv_inv (a : G) : inv (inv a) = a := by
  have h : inv (inv a) * inv a = a * inv a := by rw [inv_mul, mul_inv]
  exact mul_right_eq h
theorem inv_prod (a b : G) : inv (a * b) = inv b * inv a := by
  have h : inv (a * b) * (a * b) = inv b * inv a * (a * b) := by rw [inv_mul, assoc, ← assoc (inv a), inv_mul, one_mul, inv_mul]
  exact mul_right_eq h
theorem act_inv (a : G) (x : Int) : act (inv a) (act a x) = x := by rw [← act_mul, mul_inv, act_one]
theorem act_inj (a : G) {x y : Int} (h : act a x = act a y) : x = y := by rw [← act_inv a x, h, act_inv]
structure Sub (H : G → Prop) : Prop where
  one : H Gp.one
  mul : ∀ {a b}, H a → H b → H (a * b)
  inv : ∀ {a}, H a → H (Gp.inv a)
inductive Gen (S : G → Prop) : G → Prop where
  | one : Gen S Gp.one
  | mul {g s : G} : Gen S g → S s → Gen S (g * s)
  | div {g s : G} : Gen S g → S s → Gen S (g * inv s)
theorem Gen.of {S : G → Prop} {s : G} (h : S s) : Gen S s := by have := Gen.mul (Gen.one (S := S)) h; rwa [one_mul] at this
theorem Gen.prod {S : G → Prop} {a b : G} (ha : Gen S a) (hb : Gen S b) : Gen S (a * b) := by
  induction hb with
  | one => rwa [mul_one]
  | mul _ hs ih => rw [← assoc]; exact ih.mul hs
  | div _ hs ih => rw [← assoc]; exact ih.div hs
theorem Gen.inv {S : G → Prop} {a : G} (ha : Gen S a) : Gen S (Gp.inv a) := by
  induction ha with
  | one => rw [inv_one]; exact .one
  | @mul g s _ hs ih => rw [inv_prod]; exact Gen.prod (by have := Gen.div (Gen.one (S := S)) hs; rwa [one_mul] at this) ih
  | @div g s _ hs ih => rw [inv_prod, inv_inv]; exact Gen.prod (Gen.of hs) ih
theorem Gen.sub (S : G → Prop) : Sub (Gen S) := ⟨.one, Gen.prod, Gen.inv⟩
theorem Gen.least {S : G → Prop} {H : G → Prop} (hH : Sub H) (h : ∀ s, S s → H s) {g : G} (hg : Gen S g) : H g := by
  induction hg with
  | one => exact hH.one
  | mul _ hs ih => exact hH.mul ih (h _ hs)
  | div _ hs ih => exact hH.mul ih (hH.inv (h _ hs))
theorem Gen.mono {S S' : G → Prop} (h : ∀ s, S s → S' s) {g : G} (hg : Gen S g) : Gen S' g := Gen.least (Gen.sub S') (fun s hs => Gen.of (h s hs)) hg
theorem gen_none {S : G → Prop} (hS : ∀ s, ¬ S s) {g : G} (h : Gen S g) : g = one := by
  induction h with
  | one => rfl
  | mul _ hs => exact absurd hs (hS _)
  | div _ hs => exact absurd hs (hS _)
def Stab (H : G → Prop) (b : Int) (g : G) : Prop := H g ∧ act g b = b
theorem Stab.sub {H : G → Prop} (h : Sub H) (b : Int) : Sub (Stab H b) :=
  ⟨⟨h.one, act_one b⟩, fun {x y} ha hb => ⟨h.mul ha.1 hb.1, by rw [act_mul, ha.2, hb.2]⟩, fun {x} ha => ⟨h.inv ha.1, by have := act_inv x b; rwa [ha.2] at this⟩⟩
structure Lvl (G : Type) where
  pt : Int
  dom : List Int
  rep : Int → G
structure Lev (l : Lvl G) (H : G → Prop) : Prop where
  nodup : l.dom.Nodup
  rep : ∀ x ∈ l.dom, H (l.rep x) ∧ act (l.rep x) l.pt = x
  all : ∀ g, H g → act g l.pt ∈ l.dom
theorem decompose {S : G → Prop} {l : Lvl G} {K : G → Prop} (hn : l.dom.Nodup) (h1 : l.pt ∈ l.dom) (h2 : l.rep l.pt = one) (hK : Sub K)
    (hc : ∀ x ∈ l.dom, ∀ s, S s → act s x ∈ l.dom ∧ K (l.rep x * s * inv (l.rep (act s x)))) {g : G} (hg : Gen S g) :
    act g l.pt ∈ l.dom ∧ ∃ h, K h ∧ g = h * l.rep (act g l.pt) := by
  induction hg with
  | one => exact ⟨by rw [act_one]; exact h1, one, hK.one, by rw [act_one, h2, mul_one]⟩
  | @mul g s _ hs ih =>
    obtain ⟨hm, h, hk, e⟩ := ih
    obtain ⟨hm', hk'⟩ := hc _ hm s hs
    rw [act_mul]
    refine ⟨hm', _, hK.mul hk hk', ?_⟩
    rw [assoc h, inv_cancel, ← assoc, ← e]
  | @div g s _ hs ih =>
    obtain ⟨hm, h, hk, e⟩ := ih
    obtain ⟨y, hy, hys⟩ := onto_self hn (act s) (fun x hx => (hc x hx s hs).1) (fun x _ y _ e => act_inj s e) (act g l.pt) hm
    have hk' := (hc y hy s hs).2
    have hyg : act (inv s) (act g l.pt) = y := by rw [← hys, act_inv]
    rw [act_mul, hyg]
    refine ⟨hy, _, hK.mul hk (hK.inv hk'), ?_⟩
    rw [hys]
    generalize l.rep (act g l.pt) = r at e ⊢
    rw [e, inv_prod, inv_prod, inv_inv, assoc, assoc, assoc, assoc, inv_mul, mul_one]
theorem lev_of_closed {S : G → Prop} {l : Lvl G} (hn : l.dom.Nodup) (h1 : l.pt ∈ l.dom) (h2 : l.rep l.pt = one) (hr : ∀ x ∈ l.dom, Gen S (l.rep x) ∧ act (l.rep x) l.pt = x)
    (hc : ∀ x ∈ l.dom, ∀ s, S s → act s x ∈ l.dom) : Lev l (Gen S) :=
  ⟨hn, hr, fun _ hg => (decompose (K := Gen S) hn h1 h2 (Gen.sub S) (fun x hx s hs => ⟨hc x hx s hs, ((hr x hx).1.mul hs).prod (hr _ (hc x hx s hs)).1.inv⟩) hg).1⟩
theorem schreier {S : G → Prop} {l : Lvl G} {K : G → Prop} (hn : l.dom.Nodup) (h1 : l.pt ∈ l.dom) (h2 : l.rep l.pt = one) (hK : Sub K)
    (hc : ∀ x ∈ l.dom, ∀ s, S s → act s x ∈ l.dom ∧ K (l.rep x * s * inv (l.rep (act s x)))) (hs : ∀ g, K g → Stab (Gen S) l.pt g) : Stab (Gen S) l.pt = K := by
  refine funext fun g => propext ⟨fun hg => ?_, hs g⟩
  obtain ⟨_, h, hk, e⟩ := decompose hn h1 h2 hK hc hg.1
  rw [hg.2, h2, mul_one] at e
  rw [e]
  exact hk
def Chn : List (Lvl G) → (G → Prop) → Prop
  | [], H => ∀ g, H g → g = one
  | l :: ls, H => Lev l H ∧ Chn ls (Stab H l.pt)
def sift : List (Lvl G) → G → G
  | [], g => g
  | l :: ls, g => if act g l.pt ∈ l.dom then sift ls (g * inv (l.rep (act g l.pt))) else g
theorem sift_one : ∀ {ls : List (Lvl G)} {H : G → Prop}, Sub H → Chn ls H → ∀ g : G, sift ls g = one ↔ H g
  | [], H, hH, hc, g => ⟨fun h => by rw [show g = one from h]; exact hH.one, fun h => hc g h⟩
  | l :: ls, H, hH, hc, g => by
    obtain ⟨hl, hc'⟩ := hc
    unfold sift
    split
    · rename_i hm
      obtain ⟨h1, h2⟩ := hl.rep _ hm
      rw [sift_one (Stab.sub hH l.pt) hc']
      constructor
      · intro h
        have := hH.mul h.1 h1
        rwa [inv_cancel] at this
      · intro h
        refine ⟨hH.mul h (hH.inv h1), ?_⟩
        rw [act_mul]
        have := act_inv (l.rep (act g l.pt)) l.pt
        rwa [h2] at this
    · rename_i hn
      constructor
      · intro h
        subst h
        exact absurd (hl.all one hH.one) hn
      · intro h
        exact absurd (hl.all g h) hn
def elems : List (Lvl G) → List G
  | [] => [one]
  | l :: ls => (elems ls).flatMap fun h => l.dom.map fun x => h * l.rep x
def size : List (Lvl G) → Nat
  | [] => 1
  | l :: ls => l.dom.length * size ls
theorem length_flatMap_const {α β : Type} (f : α → List β) (m : Nat) : ∀ (l : List α), (∀ x ∈ l, (f x).length = m) → (l.flatMap f).length = m * l.length
  | [], _ => by simp
  | x :: t, h => by
    rw [List.flatMap_cons, List.length_append, h x (by simp), length_flatMap_const f m t (fun y hy => h y (by simp [hy])), List.length_cons, Nat.mul_succ, Nat.add_comm]
theorem elems_length : ∀ ls : List (Lvl G), (elems ls).length = size ls
  | [] => rfl
  | l :: ls => by
    unfold elems size
    rw [length_flatMap_const _ l.dom.length _ (fun x _ => by simp), elems_length ls]
theorem nodup_flatMap {α β : Type} (f : α → List β) : ∀ (l : List α), l.Nodup → (∀ x ∈ l, (f x).Nodup) → (∀ x ∈ l, ∀ y ∈ l, ∀ z, z ∈ f x → z ∈ f y → x = y) → (l.flatMap f).Nodup
  | [], _, _, _ => by simp
  | x :: t, hn, h1, h2 => by
    obtain ⟨hx, ht⟩ := List.nodup_cons.1 hn
    rw [List.flatMap_cons, List.nodup_append]
    refine ⟨h1 x (by simp), nodup_flatMap f t ht (fun y hy => h1 y (by simp [hy])) (fun y hy z hz => h2 y (by simp [hy]) z (by simp [hz])), fun a ha b hb e => ?_⟩
    subst e
    obtain ⟨y, hy, hb⟩ := List.mem_flatMap.1 hb
    have := h2 x (by simp) y (by simp [hy]) a ha hb
    exact hx (this ▸ hy)
theorem elems_spec : ∀ {ls : List (Lvl G)} {H : G → Prop}, Sub H → Chn ls H → (elems ls).Nodup ∧ ∀ g, g ∈ elems ls ↔ H g
  | [], H, hH, hc => ⟨by simp [elems], fun g => ⟨fun h => by rw [List.mem_singleton.1 h]; exact hH.one, fun h => by rw [hc g h]; simp [elems]⟩⟩
  | l :: ls, H, hH, hc => by
    obtain ⟨hl, hc'⟩ := hc
    obtain ⟨i1, i2⟩ := elems_spec (Stab.sub hH l.pt) hc'
    have hpt : ∀ h, h ∈ elems ls → ∀ x ∈ l.dom, act (h * l.rep x) l.pt = x := fun h hh x hx => by
      rw [act_mul, ((i2 h).1 hh).2]
      exact (hl.rep x hx).2
    constructor
    · refine nodup_flatMap _ _ i1 (fun h hh => map_inj_nodup _ _ hl.nodup (fun x hx x' hx' e => ?_)) ?_
      · rw [← hpt h hh x hx, ← hpt h hh x' hx', e]
      · intro h hh h' hh' z hz hz'
        obtain ⟨x, hx, rfl⟩ := List.mem_map.1 hz
        obtain ⟨x', hx', e⟩ := List.mem_map.1 hz'
        have e1 : x = x' := by rw [← hpt h hh x hx, ← hpt h' hh' x' hx', e]
        rw [e1] at e
        exact mul_right_eq e.symm
    · intro g
      constructor
      · intro hg
        obtain ⟨h, hh, hg⟩ := List.mem_flatMap.1 hg
        obtain ⟨x, hx, rfl⟩ := List.mem_map.1 hg
        exact hH.mul ((i2 h).1 hh).1 (hl.rep x hx).1
      · intro hg
        have hm := hl.all g hg
        obtain ⟨r1, r2⟩ := hl.rep _ hm
        refine List.mem_flatMap.2 ⟨g * inv (l.rep (act g l.pt)), (i2 _).2 ⟨hH.mul hg (hH.inv r1), ?_⟩, List.mem_map.2 ⟨_, hm, by rw [inv_cancel]⟩⟩
        rw [act_mul]
        have := act_inv (l.rep (act g l.pt)) l.pt
        rwa [r2] at this
theorem size_eq {ls ls' : List (Lvl G)} {H : G → Prop} (hH : Sub H) (h : Chn ls H) (h' : Chn ls' H) : size ls = size ls' := by
  rw [← elems_length ls, ← elems_length ls']
  obtain ⟨a, b⟩ := elems_spec hH h
  obtain ⟨a', b'⟩ := elems_spec hH h'
  exact same_len a a' (fun x => (b x).trans (b' x).symm)
end Go.Proofs.Ytpkgckccfanchaa.Sims

namespace Go.Proofs.Ytpkgckccfanchaa.Sims
open Gp
def rdl (p : List Int) (x : Int) : Int := p.getD x.toNat 0
def oneL (n : Nat) : List Int := (List.range n).map (fun x : Nat => (x : Int))
def thenL (p q : List Int) : List Int := p.map (rdl q)
def backL (p : List Int) : List Int := (oneL p.length).map (fun x => (p.idxOf x : Int))
structure IsP (n : Nat) (p : List Int) : Prop where
  len : p.length = n
  rng : ∀ x ∈ p, 0 ≤ x ∧ x < n
  nd : p.Nodup
theorem oneL_length (n : Nat) : (oneL n).length = n := by simp [oneL]
theorem mem_oneL {n : Nat} {x : Int} : x ∈ oneL n ↔ 0 ≤ x ∧ x < n := by
  unfold oneL
  rw [List.mem_map]
  constructor
  · rintro ⟨k, hk, rfl⟩
    have := List.mem_range.1 hk
    omega
  · intro h
    exact ⟨x.toNat, List.mem_range.2 (by omega), by omega⟩
theorem rdl_eq {p : List Int} {x : Int} (h0 : 0 ≤ x) (h1 : x < p.length) : rdl p x = p[x.toNat]'(by omega) := by
  unfold rdl
  rw [List.getD_eq_getElem?_getD, List.getElem?_eq_getElem (by omega)]
  rfl
theorem rdl_mem {p : List Int} {x : Int} (h0 : 0 ≤ x) (h1 : x < p.length) : rdl p x ∈ p := by rw [rdl_eq h0 h1]; exact List.getElem_mem _
theorem rdl_oneL {n : Nat} {x : Int} (h0 : 0 ≤ x) (h1 : x < n) : rdl (oneL n) x = x := by
  rw [rdl_eq h0 (by rw [oneL_length]; exact h1)]
  simp [oneL]
  omega
theorem rdl_map {p : List Int} {f : Int → Int} {x : Int} (h0 : 0 ≤ x) (h1 : x < p.length) : rdl (p.map f) x = f (rdl p x) := by
  rw [rdl_eq h0 (by simpa using h1), rdl_eq h0 h1, List.getElem_map]
theorem list_ext {n : Nat} {p q : List Int} (hp : p.length = n) (hq : q.length = n) (h : ∀ x : Int, 0 ≤ x → x < n → rdl p x = rdl q x) : p = q := by
  refine List.ext_getElem (by rw [hp, hq]) (fun i h1 h2 => ?_)
  have := h (i : Int) (by omega) (by omega)
  rw [rdl_eq (by omega) (by omega), rdl_eq (by omega) (by omega)] at this
  simpa using this
theorem oneL_isP (n : Nat) : IsP n (oneL n) :=
  ⟨oneL_length n, fun x hx => mem_oneL.1 hx, map_inj_nodup _ _ List.nodup_range (fun x _ y _ e => by omega)⟩
theorem IsP.rd {n : Nat} {p : List Int} (h : IsP n p) {x : Int} (h0 : 0 ≤ x) (h1 : x < n) : 0 ≤ rdl p x ∧ rdl p x < n := h.rng _ (rdl_mem h0 (by rw [h.len]; exact h1))
theorem IsP.inj {n : Nat} {p : List Int} (h : IsP n p) {x y : Int} (h0 : 0 ≤ x) (h1 : x < n) (k0 : 0 ≤ y) (k1 : y < n) (e : rdl p x = rdl p y) : x = y := by
  rw [rdl_eq h0 (by rw [h.len]; exact h1), rdl_eq k0 (by rw [h.len]; exact k1)] at e
  have := nodup_inj h.nd _ _ e
  omega
theorem IsP.all {n : Nat} {p : List Int} (h : IsP n p) {x : Int} (h0 : 0 ≤ x) (h1 : x < n) : x ∈ p :=
  sub_eq h.nd (fun y hy => mem_oneL.2 (h.rng y hy)) (by rw [oneL_length, h.len]; exact Nat.le_refl _) x (mem_oneL.2 ⟨h0, h1⟩)
theorem IsP.mk' {n : Nat} {p : List Int} (hl : p.length = n) (hr : ∀ x : Int, 0 ≤ x → x < n → 0 ≤ rdl p x ∧ rdl p x < n) (hi : ∀ x y : Int, 0 ≤ x → x < n → 0 ≤ y → y < n → rdl p x = rdl p y → x = y) : IsP n p := by
  refine ⟨hl, fun x hx => ?_, ?_⟩
  · obtain ⟨i, hi, rfl⟩ := List.getElem_of_mem hx
    have := hr (i : Int) (by omega) (by omega)
    rw [rdl_eq (by omega) (by omega)] at this
    simpa using this
  · refine List.nodup_iff_pairwise_ne.2 (List.pairwise_iff_getElem.2 (fun i j h1 h2 hij e => ?_))
    have := hi (i : Int) (j : Int) (by omega) (by omega) (by omega) (by omega) (by rw [rdl_eq (by omega) (by omega), rdl_eq (by omega) (by omega)]; simpa using e)
    omega
theorem thenL_length (p q : List Int) : (thenL p q).length = p.length := by simp [thenL]
theorem backL_length (p : List Int) : (backL p).length = p.length := by simp [backL, oneL_length]
theorem rdl_then {p q : List Int} {x : Int} (h0 : 0 ≤ x) (h1 : x < p.length) : rdl (thenL p q) x = rdl q (rdl p x) := rdl_map h0 h1
theorem thenL_isP {n : Nat} {p q : List Int} (hp : IsP n p) (hq : IsP n q) : IsP n (thenL p q) := by
  have hl := hp.len
  refine IsP.mk' (by rw [thenL_length, hp.len]) (fun x h0 h1 => ?_) (fun x y h0 h1 k0 k1 e => ?_)
  · rw [rdl_then h0 (by omega)]
    exact hq.rd (hp.rd h0 h1).1 (hp.rd h0 h1).2
  · rw [rdl_then h0 (by omega), rdl_then k0 (by omega)] at e
    exact hp.inj h0 h1 k0 k1 (hq.inj (hp.rd h0 h1).1 (hp.rd h0 h1).2 (hp.rd k0 k1).1 (hp.rd k0 k1).2 e)
theorem rdl_back {n : Nat} {p : List Int} (hp : IsP n p) {x : Int} (h0 : 0 ≤ x) (h1 : x < n) : rdl (backL p) x = (p.idxOf x : Int) := by
  have hl := hp.len
  unfold backL
  rw [rdl_map h0 (by rw [oneL_length]; omega), rdl_oneL h0 (by omega)]
theorem idx_lt {n : Nat} {p : List Int} (hp : IsP n p) {x : Int} (h0 : 0 ≤ x) (h1 : x < n) : p.idxOf x < n := by
  have := List.idxOf_lt_length_of_mem (hp.all h0 h1)
  rw [hp.len] at this
  exact this
theorem rdl_idx {n : Nat} {p : List Int} (hp : IsP n p) {x : Int} (h0 : 0 ≤ x) (h1 : x < n) : rdl p (p.idxOf x : Int) = x := by
  have hi := idx_lt hp h0 h1
  have hl := hp.len
  rw [rdl_eq (by omega) (by omega)]
  simp
theorem back_rd {n : Nat} {p : List Int} (hp : IsP n p) {x : Int} (h0 : 0 ≤ x) (h1 : x < n) : rdl (backL p) (rdl p x) = x := by
  obtain ⟨r0, r1⟩ := hp.rd h0 h1
  rw [rdl_back hp r0 r1]
  exact hp.inj (by omega) (by have := idx_lt hp r0 r1; omega) h0 h1 (rdl_idx hp r0 r1)
theorem rd_back {n : Nat} {p : List Int} (hp : IsP n p) {x : Int} (h0 : 0 ≤ x) (h1 : x < n) : rdl p (rdl (backL p) x) = x := by
  rw [rdl_back hp h0 h1, rdl_idx hp h0 h1]
theorem backL_isP {n : Nat} {p : List Int} (hp : IsP n p) : IsP n (backL p) := by
  refine IsP.mk' (by rw [backL_length, hp.len]) (fun x h0 h1 => ?_) (fun x y h0 h1 k0 k1 e => ?_)
  · rw [rdl_back hp h0 h1]
    have := idx_lt hp h0 h1
    omega
  · have := rd_back hp h0 h1
    rw [e, rd_back hp k0 k1] at this
    exact this.symm
structure Pm (n : Nat) where
  val : List Int
  ok : IsP n val
theorem Pm.eq {n : Nat} {p q : Pm n} (h : p.val = q.val) : p = q := by
  cases p
  cases q
  cases h
  rfl
theorem Pm.ext {n : Nat} {p q : Pm n} (h : ∀ x : Int, 0 ≤ x → x < n → rdl p.1 x = rdl q.1 x) : p = q := Pm.eq (list_ext p.2.len q.2.len h)
instance (n : Nat) : Gp (Pm n) where
  mul p q := ⟨thenL p.1 q.1, thenL_isP p.2 q.2⟩
  one := ⟨oneL n, oneL_isP n⟩
  inv p := ⟨backL p.1, backL_isP p.2⟩
  assoc a b c := Pm.ext (fun x h0 h1 => by
    show rdl (thenL (thenL a.1 b.1) c.1) x = rdl (thenL a.1 (thenL b.1 c.1)) x
    have ha := a.2.rd h0 h1
    rw [rdl_then h0 (by rw [thenL_length, a.2.len]; exact h1), rdl_then h0 (by rw [a.2.len]; exact h1), rdl_then h0 (by rw [a.2.len]; exact h1), rdl_then ha.1 (by rw [b.2.len]; exact ha.2)])
  one_mul a := Pm.ext (fun x h0 h1 => by
    show rdl (thenL (oneL n) a.1) x = rdl a.1 x
    rw [rdl_then h0 (by rw [oneL_length]; exact h1), rdl_oneL h0 h1])
  mul_one a := Pm.ext (fun x h0 h1 => by
    show rdl (thenL a.1 (oneL n)) x = rdl a.1 x
    have ha := a.2.rd h0 h1
    rw [rdl_then h0 (by rw [a.2.len]; exact h1), rdl_oneL ha.1 ha.2])
  inv_mul a := Pm.ext (fun x h0 h1 => by
    show rdl (thenL (backL a.1) a.1) x = rdl (oneL n) x
    rw [rdl_then h0 (by rw [backL_length, a.2.len]; exact h1), rd_back a.2 h0 h1, rdl_oneL h0 h1])
  mul_inv a := Pm.ext (fun x h0 h1 => by
    show rdl (thenL a.1 (backL a.1)) x = rdl (oneL n) x
    rw [rdl_then h0 (by rw [a.2.len]; exact h1), back_rd a.2 h0 h1, rdl_oneL h0 h1])
  act p x := if 0 ≤ x ∧ x < n then rdl p.1 x else x
  act_one x := by
    show (if 0 ≤ x ∧ x < n then rdl (oneL n) x else x) = x
    split
    · rename_i h
      exact rdl_oneL h.1 h.2
    · rfl
  act_mul a b x := by
    show (if 0 ≤ x ∧ x < n then rdl (thenL a.1 b.1) x else x) = (if 0 ≤ (if 0 ≤ x ∧ x < n then rdl a.1 x else x) ∧ (if 0 ≤ x ∧ x < n then rdl a.1 x else x) < n then rdl b.1 (if 0 ≤ x ∧ x < n then rdl a.1 x else x) else (if 0 ≤ x ∧ x < n then rdl a.1 x else x))
    by_cases h : 0 ≤ x ∧ x < n
    · have ha := a.2.rd h.1 h.2
      rw [if_pos h, if_pos h, if_pos ha, rdl_then h.1 (by rw [a.2.len]; exact h.2)]
    · rw [if_neg h, if_neg h, if_neg h]
theorem act_in {n : Nat} (p : Pm n) {x : Int} (h0 : 0 ≤ x) (h1 : x < n) : act p x = rdl p.1 x := if_pos ⟨h0, h1⟩
theorem mul_val {n : Nat} (p q : Pm n) : (p * q).1 = thenL p.1 q.1 := rfl
theorem inv_val {n : Nat} (p : Pm n) : (inv p).1 = backL p.1 := rfl
def movedFrom : Int → List Int → Int
  | _, [] => -1
  | i, x :: t => if x = i then movedFrom (i + 1) t else i
def movedL (p : List Int) : Int := movedFrom 0 p
theorem movedFrom_spec : ∀ (p : List Int) (i : Int), 0 ≤ i → (movedFrom i p = -1 ∧ ∀ k : Nat, (h : k < p.length) → p[k] = i + k) ∨ (i ≤ movedFrom i p ∧ ∃ k : Nat, ∃ h : k < p.length, movedFrom i p = i + k ∧ p[k] ≠ i + k)
  | [], i, _ => .inl ⟨rfl, fun k h => by simp at h⟩
  | x :: t, i, hi => by
    unfold movedFrom
    split
    · rename_i e
      rcases movedFrom_spec t (i + 1) (by omega) with ⟨h1, h2⟩ | ⟨h1, k, hk, h3, h4⟩
      · refine .inl ⟨h1, fun k hk => ?_⟩
        cases k with
        | zero => simpa using e
        | succ k =>
          have := h2 k (by simpa using hk)
          simp only [List.getElem_cons_succ]
          omega
      · refine .inr ⟨by omega, k + 1, by simpa using hk, by rw [h3]; omega, ?_⟩
        simp only [List.getElem_cons_succ]
        omega
    · rename_i e
      exact .inr ⟨by omega, 0, by simp, by simp, by simpa using e⟩
theorem moved_neg {n : Nat} {p : List Int} (hp : IsP n p) : movedL p < 0 ↔ p = oneL n := by
  have hl := hp.len
  rcases movedFrom_spec p 0 (by omega) with ⟨h1, h2⟩ | ⟨h1, k, hk, h3, h4⟩
  · refine ⟨fun _ => list_ext hp.len (oneL_length n) (fun x h0 h1 => ?_), fun _ => by unfold movedL; omega⟩
    rw [rdl_eq h0 (by omega), rdl_oneL h0 h1, h2 x.toNat (by omega)]
    omega
  · refine ⟨fun h => ?_, fun h => ?_⟩
    · unfold movedL at h; omega
    · subst h
      exact absurd (by simp [oneL]) h4
theorem moved_pos {n : Nat} {p : List Int} (hp : IsP n p) (h : ¬ movedL p < 0) : 0 ≤ movedL p ∧ movedL p < n ∧ rdl p (movedL p) ≠ movedL p := by
  have hl := hp.len
  rcases movedFrom_spec p 0 (by omega) with ⟨h1, h2⟩ | ⟨h1, k, hk, h3, h4⟩
  · exact absurd (by unfold movedL; omega) h
  · unfold movedL
    rw [h3]
    refine ⟨by omega, by omega, ?_⟩
    rw [rdl_eq (by omega) (by omega)]
    have e : ((0 : Int) + (k : Int)).toNat = k := by omega
    simp only [e]
    exact h4
end Go.Proofs.Ytpkgckccfanchaa.Sims

namespace Go.Proofs.Ytpkgckccfanchaa.Sims
open Gp
def lookA {β : Type} (x : Int) : List (Int × β) → Option β
  | [] => none
  | (y, r) :: t => if y = x then some r else lookA x t
structure Lv where
  point : Int
  gens : List (List Int)
  reps : List (Int × List Int)
  todo : List (Int × Int)
def repL (reps : List (Int × List Int)) (x : Int) : List Int := (lookA x reps).getD []
def newLv (n : Nat) (point : Int) : Lv := ⟨point, [], [(point, oneL n)], []⟩
def setT (t : List (Int × Int)) (k : Int × Int) : List (Int × Int) := if k ∈ t then t else t ++ [k]
def todoRow (m : Nat) (b : Int) (t : List (Int × Int)) : List (Int × Int) := (List.range' 0 m).foldl (fun t (i : Nat) => setT t ((i : Int), b)) t
def todoCol (a : Int) (m : Nat) (t : List (Int × Int)) : List (Int × Int) := (List.range' 0 m).foldl (fun t (k : Nat) => setT t (a, (k : Int))) t
def growIn (gens : List (List Int)) (x : Int) : List (List Int) → List (Int × List Int) × List (Int × Int) → List (Int × List Int) × List (Int × Int)
  | [], s => s
  | g :: gs, s => growIn gens x gs (match lookA (rdl g x) s.1 with
    | some _ => s
    | none => (s.1 ++ [(rdl g x, thenL (repL s.1 x) g)], todoCol (s.1.length : Int) gens.length s.2))
def grow (gens : List (List Int)) : Nat → Nat → List (Int × List Int) × List (Int × Int) → List (Int × List Int) × List (Int × Int)
  | 0, _, s => s
  | f + 1, i, s => match s.1[i]? with
    | none => s
    | some q => grow gens f (i + 1) (growIn gens q.1 gens s)
def addF (n : Nat) (l : Lv) (p : List Int) : Lv :=
  let s := grow (l.gens ++ [p]) (n + 1) 0 (l.reps, todoRow l.reps.length (l.gens.length : Int) l.todo)
  ⟨l.point, l.gens ++ [p], s.1, s.2⟩
def residF : List Lv → List Int → List Int
  | [], p => p
  | l :: ls, p => match lookA (rdl p l.point) l.reps with
    | none => p
    | some r => residF ls (thenL p (backL r))
def schF (reps : List (Int × List Int)) (x : Int) (s : List Int) : List Int := thenL (thenL (repL reps x) s) (backL (repL reps (rdl s x)))
def stepF (ins : List Lv → List Int → Option (List Lv)) (l : Lv) (st : List (Int × Int) × List Lv) (a b : Nat) : Option (List (Int × Int) × List Lv) :=
  if ((a : Int), (b : Int)) ∈ st.1 then (ins st.2 (schF l.reps (l.reps.getD a (0, [])).1 (l.gens.getD b []))).map fun r => (st.1.erase ((a : Int), (b : Int)), r) else some st
def rowF (ins : List Lv → List Int → Option (List Lv)) (l : Lv) (a : Nat) (bs : List Nat) (st : List (Int × Int) × List Lv) : Option (List (Int × Int) × List Lv) :=
  bs.foldlM (fun st b => stepF ins l st a b) st
def allF (ins : List Lv → List Int → Option (List Lv)) (l : Lv) (as_ : List Nat) (st : List (Int × Int) × List Lv) : Option (List (Int × Int) × List Lv) :=
  as_.foldlM (fun st a => rowF ins l a (List.range' 0 l.gens.length) st) st
def headF (n : Nat) (p : List Int) : List Lv → Lv × List Lv
  | [] => (newLv n (movedL p), [])
  | l :: ls => (l, ls)
def insF (n : Nat) : Nat → List Lv → List Int → Option (List Lv)
  | 0, _, _ => none
  | f + 1, ls, p =>
    if movedL (residF ls p) < 0 then some ls
    else (allF (insF n f) (addF n (headF n p ls).1 p) (List.range' 0 (addF n (headF n p ls).1 p).reps.length) ((addF n (headF n p ls).1 p).todo, (headF n p ls).2)).map
      fun st => { addF n (headF n p ls).1 p with todo := st.1 } :: st.2
def groupF (n f : Nat) (gens : List (List Int)) (base : List Int) : Option (List Lv) := gens.foldlM (fun ls p => insF n f ls p) (base.map (newLv n))
section
variable {β : Type}
theorem lookA_mem {x : Int} {r : β} : ∀ {l : List (Int × β)}, lookA x l = some r → (x, r) ∈ l
  | [], h => by simp [lookA] at h
  | (y, q) :: t, h => by
    unfold lookA at h
    split at h
    · rename_i e
      cases h
      subst e
      simp
    · exact List.mem_cons_of_mem _ (lookA_mem h)
theorem lookA_none {x : Int} : ∀ {l : List (Int × β)}, lookA x l = none ↔ x ∉ l.map (·.1)
  | [] => by simp [lookA]
  | (y, q) :: t => by
    unfold lookA
    split
    · rename_i e
      subst e
      simp
    · rename_i e
      rw [lookA_none]
      simp only [List.map_cons, List.mem_cons, not_or]
      exact ⟨fun h => ⟨fun e' => e e'.symm, h⟩, fun h => h.2⟩
theorem lookA_some {x : Int} {l : List (Int × β)} (h : x ∈ l.map (·.1)) : ∃ r, lookA x l = some r := by
  cases e : lookA x l with
  | none => exact absurd h (lookA_none.1 e)
  | some r => exact ⟨r, rfl⟩
theorem lookA_append {x : Int} {l : List (Int × β)} (m : List (Int × β)) (h : x ∈ l.map (·.1)) : lookA x (l ++ m) = lookA x l := by
  induction l with
  | nil => simp at h
  | cons y t ih =>
    obtain ⟨y, q⟩ := y
    rw [List.cons_append]
    unfold lookA
    split
    · rfl
    · rename_i e
      refine ih ?_
      simp only [List.map_cons, List.mem_cons] at h
      rcases h with h | h
      · exact absurd h.symm e
      · exact h
theorem lookA_snoc {x : Int} {r : β} {l : List (Int × β)} (h : x ∉ l.map (·.1)) : lookA x (l ++ [(x, r)]) = some r := by
  induction l with
  | nil => simp [lookA]
  | cons y t ih =>
    obtain ⟨y, q⟩ := y
    simp only [List.map_cons, List.mem_cons, not_or] at h
    rw [List.cons_append]
    unfold lookA
    rw [if_neg (fun e => h.1 e.symm)]
    exact ih h.2
end
theorem setT_mem {t : List (Int × Int)} {k q : Int × Int} : q ∈ setT t k ↔ q ∈ t ∨ q = k := by
  unfold setT
  split
  · rename_i h
    exact ⟨.inl, fun h' => h'.elim id (fun e => e ▸ h)⟩
  · simp
theorem setT_nodup {t : List (Int × Int)} {k : Int × Int} (h : t.Nodup) : (setT t k).Nodup := by
  unfold setT
  split
  · exact h
  · rename_i hk
    rw [List.nodup_append]
    exact ⟨h, by simp, fun a ha b hb e => hk (by rw [List.mem_singleton.1 hb] at e; exact e ▸ ha)⟩
theorem foldT (f : Nat → Int × Int) : ∀ (l : List Nat) (t : List (Int × Int)), (∀ q, q ∈ l.foldl (fun t i => setT t (f i)) t ↔ q ∈ t ∨ ∃ i ∈ l, q = f i) ∧ (t.Nodup → (l.foldl (fun t i => setT t (f i)) t).Nodup)
  | [], t => ⟨fun q => by simp, fun h => h⟩
  | i :: l, t => by
    obtain ⟨h1, h2⟩ := foldT f l (setT t (f i))
    refine ⟨fun q => ?_, fun h => h2 (setT_nodup h)⟩
    rw [List.foldl_cons, h1, setT_mem]
    constructor
    · rintro ((h | h) | ⟨j, hj, h⟩)
      · exact .inl h
      · exact .inr ⟨i, by simp, h⟩
      · exact .inr ⟨j, by simp [hj], h⟩
    · rintro (h | ⟨j, hj, h⟩)
      · exact .inl (.inl h)
      · rcases List.mem_cons.1 hj with rfl | hj
        · exact .inl (.inr h)
        · exact .inr ⟨j, hj, h⟩
theorem mem_range0 {i m : Nat} : i ∈ List.range' 0 m ↔ i < m := by rw [List.mem_range'_1]; omega
theorem todoRow_mem {m : Nat} {b : Int} {t : List (Int × Int)} {q : Int × Int} : q ∈ todoRow m b t ↔ q ∈ t ∨ ∃ i : Nat, i < m ∧ q = ((i : Int), b) := by
  unfold todoRow
  rw [(foldT (fun i : Nat => ((i : Int), b)) _ _).1]
  simp only [mem_range0]
theorem todoCol_mem {m : Nat} {a : Int} {t : List (Int × Int)} {q : Int × Int} : q ∈ todoCol a m t ↔ q ∈ t ∨ ∃ i : Nat, i < m ∧ q = (a, (i : Int)) := by
  unfold todoCol
  rw [(foldT (fun i : Nat => (a, (i : Int))) _ _).1]
  simp only [mem_range0]
end Go.Proofs.Ytpkgckccfanchaa.Sims

namespace Go.Proofs.Ytpkgckccfanchaa.Sims
open Gp Classical
noncomputable def toP (n : Nat) (p : List Int) : Pm n := if h : IsP n p then ⟨p, h⟩ else one
theorem toP_val {n : Nat} {p : List Int} (h : IsP n p) : (toP n p).1 = p := by unfold toP; rw [dif_pos h]
theorem toP_self {n : Nat} (g : Pm n) : toP n g.1 = g := Pm.eq (toP_val g.2)
def dom (l : Lv) : List Int := l.reps.map (·.1)
noncomputable def tl (n : Nat) (l : Lv) : Lvl (Pm n) := ⟨l.point, dom l, fun x => toP n (repL l.reps x)⟩
def GL (n : Nat) (gens : List (List Int)) : Pm n → Prop := Gen (fun g => g.1 ∈ gens)
def grp (n : Nat) : List Lv → Pm n → Prop
  | [], g => g = one
  | l :: _, g => GL n l.gens g
structure LvOk (n : Nat) (l : Lv) : Prop where
  pt : 0 ≤ l.point ∧ l.point < n
  gens : ∀ s ∈ l.gens, IsP n s
  nd : (dom l).Nodup
  rng : ∀ x ∈ dom l, 0 ≤ x ∧ x < n
  rep : ∀ x ∈ dom l, IsP n (repL l.reps x) ∧ rdl (repL l.reps x) l.point = x
  first : l.point ∈ dom l ∧ repL l.reps l.point = oneL n
  tnd : l.todo.Nodup
  tin : ∀ q ∈ l.todo, ∃ a b : Nat, q = ((a : Int), (b : Int)) ∧ a < l.reps.length ∧ b < l.gens.length
def PC (n : Nat) : List Int → List Lv → Prop
  | _, [] => True
  | pts, l :: ls => LvOk n l ∧ l.todo = [] ∧ l.point ∉ pts ∧ (∀ s ∈ l.gens, ∀ x ∈ pts, rdl s x = x) ∧ Lev (tl n l) (GL n l.gens) ∧ Stab (GL n l.gens) l.point = grp n ls ∧ PC n (l.point :: pts) ls
theorem grp_sub (n : Nat) : ∀ ls, Sub (grp n ls)
  | [] => ⟨rfl, fun {a b} ha hb => by rw [show a = one from ha, show b = one from hb]; exact one_mul _, fun {a} ha => by rw [show a = one from ha]; exact inv_one⟩
  | l :: _ => Gen.sub _
theorem PC_chn {n : Nat} : ∀ {pts : List Int} {ls : List Lv}, PC n pts ls → Chn (ls.map (tl n)) (grp n ls)
  | _, [], _ => fun _ h => h
  | pts, l :: ls, h => by
    obtain ⟨_, _, _, _, h5, h6, h7⟩ := h
    refine ⟨h5, ?_⟩
    show Chn (ls.map (tl n)) (Stab (GL n l.gens) l.point)
    rw [h6]
    exact PC_chn h7
theorem act_tl {n : Nat} {p : List Int} (hp : IsP n p) {l : Lv} (h : LvOk n l) : act (⟨p, hp⟩ : Pm n) l.point = rdl p l.point := act_in _ h.pt.1 h.pt.2
theorem resid_isP {n : Nat} : ∀ {ls : List Lv} {p : List Int}, (∀ l ∈ ls, LvOk n l) → IsP n p → IsP n (residF ls p)
  | [], _, _, hp => hp
  | l :: ls, p, hl, hp => by
    unfold residF
    split
    · exact hp
    · rename_i r hr
      have h1 := (hl l (by simp)).rep (rdl p l.point) (List.mem_map.2 ⟨_, lookA_mem hr, rfl⟩)
      unfold repL at h1
      rw [hr] at h1
      exact resid_isP (fun l' h => hl l' (by simp [h])) (thenL_isP hp (backL_isP h1.1))
theorem resid_sift {n : Nat} : ∀ {ls : List Lv} {p : List Int} (_ : ∀ l ∈ ls, LvOk n l) (hp : IsP n p), residF ls p = (sift (ls.map (tl n)) (⟨p, hp⟩ : Pm n)).1
  | [], _, _, _ => rfl
  | l :: ls, p, hl, hp => by
    rw [List.map_cons]
    unfold residF sift
    have hpt : (tl n l).pt = l.point := rfl
    rw [hpt, act_tl hp (hl l (by simp))]
    split
    · rename_i hr
      rw [if_neg (show ¬ rdl p l.point ∈ (tl n l).dom from lookA_none.1 hr)]
    · rename_i r hr
      have hm : rdl p l.point ∈ dom l := List.mem_map.2 ⟨_, lookA_mem hr, rfl⟩
      have h1 := (hl l (by simp)).rep _ hm
      have hrep : repL l.reps (rdl p l.point) = r := by unfold repL; rw [hr]; rfl
      rw [if_pos (show rdl p l.point ∈ (tl n l).dom from hm)]
      rw [hrep] at h1
      rw [resid_sift (fun l' h => hl l' (by simp [h])) (thenL_isP hp (backL_isP h1.1))]
      congr 2
      refine Pm.eq ?_
      show thenL p (backL r) = thenL p (backL (toP n (repL l.reps (rdl p l.point))).1)
      rw [hrep, toP_val h1.1]
theorem PC_ok {n : Nat} : ∀ {pts : List Int} {ls : List Lv}, PC n pts ls → ∀ l ∈ ls, LvOk n l
  | _, [], _, _, hl => by simp at hl
  | pts, l :: ls, h, l', hl => by
    rcases List.mem_cons.1 hl with rfl | hl
    · exact h.1
    · exact PC_ok h.2.2.2.2.2.2 l' hl
theorem resid_one {n : Nat} {pts : List Int} {ls : List Lv} {p : List Int} (h : PC n pts ls) (hp : IsP n p) : movedL (residF ls p) < 0 ↔ grp n ls ⟨p, hp⟩ := by
  rw [moved_neg (resid_isP (PC_ok h) hp), resid_sift (PC_ok h) hp, ← sift_one (grp_sub n ls) (PC_chn h) ⟨p, hp⟩]
  exact ⟨fun e => Pm.eq e, fun e => by rw [e]; rfl⟩
structure GR (n : Nat) (pt : Int) (gens : List (List Int)) (reps : List (Int × List Int)) : Prop where
  nd : (reps.map (·.1)).Nodup
  rng : ∀ x : Int, x ∈ reps.map (·.1) → 0 ≤ x ∧ x < n
  rep : ∀ x : Int, x ∈ reps.map (·.1) → IsP n (repL reps x) ∧ rdl (repL reps x) pt = x ∧ GL n gens (toP n (repL reps x))
theorem GR.length {n : Nat} {pt : Int} {gens : List (List Int)} {reps : List (Int × List Int)} (h : GR n pt gens reps) : reps.length ≤ n := by
  have := sub_len _ (oneL n) h.nd (fun x hx => mem_oneL.2 (h.rng x hx))
  rwa [oneL_length, List.length_map] at this
theorem repL_append {x : Int} {l : List (Int × List Int)} (m : List (Int × List Int)) (h : x ∈ l.map (·.1)) : repL (l ++ m) x = repL l x := by unfold repL; rw [lookA_append m h]
theorem repL_snoc {x : Int} {r : List Int} {l : List (Int × List Int)} (h : x ∉ l.map (·.1)) : repL (l ++ [(x, r)]) x = r := by unfold repL; rw [lookA_snoc h]; rfl
theorem GR.snoc {n : Nat} {pt : Int} {gens : List (List Int)} {reps : List (Int × List Int)} (h : GR n pt gens reps) (hpt : 0 ≤ pt ∧ pt < n) {x : Int} {g : List Int} (hx : x ∈ reps.map (·.1)) (hg : g ∈ gens) (hgp : IsP n g) (hno : rdl g x ∉ reps.map (·.1)) :
    GR n pt gens (reps ++ [(rdl g x, thenL (repL reps x) g)]) := by
  obtain ⟨h1, h2, h3⟩ := h.rep x hx
  refine ⟨?_, ?_, ?_⟩
  · rw [List.map_append, List.nodup_append]
    exact ⟨h.nd, by simp, fun a ha b hb e => hno (by rw [List.map_cons, List.map_nil, List.mem_singleton] at hb; dsimp only at hb; rw [← hb, ← e]; exact ha)⟩
  · intro y hy
    rw [List.map_append, List.mem_append] at hy
    rcases hy with hy | hy
    · exact h.rng y hy
    · rw [List.map_cons, List.map_nil, List.mem_singleton] at hy
      subst hy
      exact hgp.rd (h.rng x hx).1 (h.rng x hx).2
  · intro y hy
    rw [List.map_append, List.mem_append] at hy
    rcases hy with hy | hy
    · rw [repL_append _ hy]
      exact h.rep y hy
    · rw [List.map_cons, List.map_nil, List.mem_singleton] at hy
      subst hy
      rw [repL_snoc hno]
      have hq := thenL_isP h1 hgp
      refine ⟨hq, by rw [rdl_then hpt.1 (by rw [h1.len]; exact hpt.2), h2], ?_⟩
      have : toP n (thenL (repL reps x) g) = toP n (repL reps x) * (⟨g, hgp⟩ : Pm n) := Pm.eq (by rw [toP_val hq, mul_val, toP_val h1])
      rw [this]
      exact h3.mul hg
structure Grew (n : Nat) (pt : Int) (gens : List (List Int)) (s s' : List (Int × List Int) × List (Int × Int)) : Prop where
  gr : GR n pt gens s'.1
  pre : ∃ m, s'.1 = s.1 ++ m
  tnd : s'.2.Nodup
  tin : ∀ q ∈ s'.2, q ∈ s.2 ∨ ∃ a b : Nat, q = ((a : Int), (b : Int)) ∧ a < s'.1.length ∧ b < gens.length
  tkeep : ∀ q ∈ s.2, q ∈ s'.2
  tnew : ∀ a b : Nat, s.1.length ≤ a → a < s'.1.length → b < gens.length → ((a : Int), (b : Int)) ∈ s'.2
theorem Grew.refl {n : Nat} {pt : Int} {gens : List (List Int)} {s : List (Int × List Int) × List (Int × Int)} (h : GR n pt gens s.1) (ht : s.2.Nodup) : Grew n pt gens s s :=
  ⟨h, ⟨[], by simp⟩, ht, fun _ h => .inl h, fun _ h => h, fun a b h1 h2 _ => by omega⟩
theorem Grew.trans {n : Nat} {pt : Int} {gens : List (List Int)} {s s1 s2 : List (Int × List Int) × List (Int × Int)} (h : Grew n pt gens s s1) (k : Grew n pt gens s1 s2) : Grew n pt gens s s2 := by
  obtain ⟨m, hm⟩ := h.pre
  obtain ⟨m', hm'⟩ := k.pre
  have hl : s1.1.length ≤ s2.1.length := by rw [hm', List.length_append]; omega
  refine ⟨k.gr, ⟨m ++ m', by rw [hm', hm, List.append_assoc]⟩, k.tnd, fun q hq => ?_, fun q hq => k.tkeep q (h.tkeep q hq), fun a b h1 h2 h3 => ?_⟩
  · rcases k.tin q hq with hq | hq
    · rcases h.tin q hq with hq | ⟨a, b, e, ha, hb⟩
      · exact .inl hq
      · exact .inr ⟨a, b, e, by omega, hb⟩
    · exact .inr hq
  · rcases Nat.lt_or_ge a s1.1.length with h4 | h4
    · exact k.tkeep _ (h.tnew a b h1 h4 h3)
    · exact k.tnew a b h4 h2 h3
theorem Grew.memD {n : Nat} {pt : Int} {gens : List (List Int)} {s s' : List (Int × List Int) × List (Int × Int)} (h : Grew n pt gens s s') {x : Int} (hx : x ∈ s.1.map (·.1)) : x ∈ s'.1.map (·.1) := by
  obtain ⟨m, hm⟩ := h.pre
  rw [hm, List.map_append, List.mem_append]
  exact .inl hx
theorem growIn_spec {n : Nat} {pt : Int} {gens : List (List Int)} (hpt : 0 ≤ pt ∧ pt < n) (hg : ∀ g ∈ gens, IsP n g) {x : Int} :
    ∀ (gs : List (List Int)) (s : List (Int × List Int) × List (Int × Int)), (∀ g ∈ gs, g ∈ gens) → GR n pt gens s.1 → s.2.Nodup → x ∈ s.1.map (·.1) →
      Grew n pt gens s (growIn gens x gs s) ∧ ∀ g ∈ gs, rdl g x ∈ (growIn gens x gs s).1.map (·.1)
  | [], s, _, h, ht, _ => ⟨Grew.refl h ht, fun _ hg => by simp at hg⟩
  | g :: gs, s, hgs, h, ht, hx => by
    unfold growIn
    split
    · rename_i r hr
      obtain ⟨h1, h2⟩ := growIn_spec hpt hg gs s (fun g' h' => hgs g' (by simp [h'])) h ht hx
      refine ⟨h1, fun g' hg' => ?_⟩
      rcases List.mem_cons.1 hg' with rfl | hg'
      · exact h1.memD (List.mem_map.2 ⟨_, lookA_mem hr, rfl⟩)
      · exact h2 g' hg'
    · rename_i hr
      have hno := lookA_none.1 hr
      have hgm := hgs g (by simp)
      have hG : Grew n pt gens s (s.1 ++ [(rdl g x, thenL (repL s.1 x) g)], todoCol (s.1.length : Int) gens.length s.2) := by
        refine ⟨h.snoc hpt hx hgm (hg g hgm) hno, ⟨_, rfl⟩, ?_, fun q hq => ?_, fun q hq => todoCol_mem.2 (.inl hq), fun a b h1 h2 h3 => ?_⟩
        · exact (foldT _ _ _).2 ht
        · rcases todoCol_mem.1 hq with hq | ⟨i, hi, e⟩
          · exact .inl hq
          · exact .inr ⟨s.1.length, i, e, by simp, hi⟩
        · rw [List.length_append, List.length_singleton] at h2
          obtain rfl : a = s.1.length := by omega
          exact todoCol_mem.2 (.inr ⟨b, h3, rfl⟩)
      obtain ⟨h1, h2⟩ := growIn_spec hpt hg gs _ (fun g' h' => hgs g' (by simp [h'])) hG.gr hG.tnd (hG.memD hx)
      refine ⟨hG.trans h1, fun g' hg' => ?_⟩
      rcases List.mem_cons.1 hg' with rfl | hg'
      · exact h1.memD (by rw [List.map_append, List.mem_append]; exact .inr (by simp))
      · exact h2 g' hg'
theorem grow_spec {n : Nat} {pt : Int} {gens : List (List Int)} (hpt : 0 ≤ pt ∧ pt < n) (hg : ∀ g ∈ gens, IsP n g) :
    ∀ (f i : Nat) (s : List (Int × List Int) × List (Int × Int)), GR n pt gens s.1 → s.2.Nodup → n + 1 ≤ f + i →
      (∀ j : Nat, j < i → ∀ q, s.1[j]? = some q → ∀ g ∈ gens, rdl g q.1 ∈ s.1.map (·.1)) →
      Grew n pt gens s (grow gens f i s) ∧ ∀ x ∈ (grow gens f i s).1.map (·.1), ∀ g ∈ gens, rdl g x ∈ (grow gens f i s).1.map (·.1)
  | 0, i, s, h, ht, hf, hd => by
    refine ⟨Grew.refl h ht, fun x hx g hgm => ?_⟩
    rw [grow] at hx ⊢
    obtain ⟨q, hq, rfl⟩ := List.mem_map.1 hx
    obtain ⟨j, hj, e⟩ := List.getElem_of_mem hq
    have := h.length
    exact hd j (by omega) q (by rw [List.getElem?_eq_getElem hj, e]) g hgm
  | f + 1, i, s, h, ht, hf, hd => by
    unfold grow
    split
    · rename_i hn
      have hlen : s.1.length ≤ i := List.getElem?_eq_none_iff.1 hn
      refine ⟨Grew.refl h ht, fun x hx g hgm => ?_⟩
      obtain ⟨q, hq, rfl⟩ := List.mem_map.1 hx
      obtain ⟨j, hj, e⟩ := List.getElem_of_mem hq
      exact hd j (by omega) q (by rw [List.getElem?_eq_getElem hj, e]) g hgm
    · rename_i q hq
      have hqm : q ∈ s.1 := List.mem_of_getElem? hq
      obtain ⟨h1, h2⟩ := growIn_spec hpt hg gens s (fun _ h => h) h ht (x := q.1) (List.mem_map.2 ⟨q, hqm, rfl⟩)
      obtain ⟨m, hm⟩ := h1.pre
      obtain ⟨h3, h4⟩ := grow_spec hpt hg f (i + 1) (growIn gens q.1 gens s) h1.gr h1.tnd (by omega) (fun j hj q' hq' g hgm => by
        have hi : i < s.1.length := (List.getElem?_eq_some_iff.1 hq).1
        rw [hm, List.getElem?_append_left (by omega)] at hq'
        rcases Nat.lt_or_ge j i with h5 | h5
        · exact h1.memD (hd j h5 q' hq' g hgm)
        · obtain rfl : j = i := by omega
          rw [hq] at hq'
          cases hq'
          exact h2 g hgm)
      exact ⟨h1.trans h3, h4⟩
end Go.Proofs.Ytpkgckccfanchaa.Sims

namespace Go.Proofs.Ytpkgckccfanchaa.Sims
open Gp Classical
structure Cl (n : Nat) (pts : List Int) (l : Lv) : Prop where
  pt : 0 ≤ l.point ∧ l.point < n
  gens : ∀ s ∈ l.gens, IsP n s
  fix : ∀ s ∈ l.gens, ∀ x ∈ pts, rdl s x = x
  gr : GR n l.point l.gens l.reps
  first : l.point ∈ dom l ∧ repL l.reps l.point = oneL n
  closed : ∀ x ∈ dom l, ∀ s ∈ l.gens, rdl s x ∈ dom l
  new : l.point ∉ pts
theorem GR.mono {n : Nat} {pt : Int} {gens gens' : List (List Int)} {reps : List (Int × List Int)} (h : GR n pt gens reps) (hs : ∀ g ∈ gens, g ∈ gens') : GR n pt gens' reps :=
  ⟨h.nd, h.rng, fun x hx => ⟨(h.rep x hx).1, (h.rep x hx).2.1, Gen.mono (fun _ hg => hs _ hg) (h.rep x hx).2.2⟩⟩
theorem Cl.lev {n : Nat} {pts : List Int} {l : Lv} (h : Cl n pts l) : Lev (tl n l) (GL n l.gens) := by
  refine lev_of_closed h.gr.nd h.first.1 ?_ (fun x hx => ?_) (fun x hx s hs => ?_)
  · show toP n (repL l.reps l.point) = one
    rw [h.first.2]
    exact Pm.eq (toP_val (oneL_isP n))
  · obtain ⟨h1, h2, h3⟩ := h.gr.rep x hx
    refine ⟨h3, ?_⟩
    show act (toP n (repL l.reps x)) l.point = x
    rw [act_in _ h.pt.1 h.pt.2, toP_val h1, h2]
  · obtain ⟨r0, r1⟩ := h.gr.rng x hx
    show act s x ∈ dom l
    rw [act_in _ r0 r1]
    exact h.closed x hx s.1 hs
theorem Cl.sch {n : Nat} {pts : List Int} {l : Lv} (h : Cl n pts l) {x : Int} {s : List Int} (hx : x ∈ dom l) (hs : s ∈ l.gens) :
    IsP n (schF l.reps x s) ∧ toP n (schF l.reps x s) = toP n (repL l.reps x) * toP n s * inv (toP n (repL l.reps (rdl s x))) := by
  have h1 := (h.gr.rep x hx).1
  have h2 := h.gens s hs
  have h3 := (h.gr.rep _ (h.closed x hx s hs)).1
  have h4 : IsP n (schF l.reps x s) := thenL_isP (thenL_isP h1 h2) (backL_isP h3)
  refine ⟨h4, Pm.eq ?_⟩
  rw [toP_val h4, mul_val, mul_val, inv_val, toP_val h1, toP_val h2, toP_val h3]
  rfl
theorem Cl.sch_stab {n : Nat} {pts : List Int} {l : Lv} (h : Cl n pts l) {x : Int} {s : List Int} (hx : x ∈ dom l) (hs : s ∈ l.gens) : Stab (GL n l.gens) l.point (toP n (schF l.reps x s)) := by
  obtain ⟨_, e⟩ := h.sch hx hs
  have h1 := h.lev.rep x hx
  have h2 := h.lev.rep _ (h.closed x hx s hs)
  have hs' : GL n l.gens (toP n s) := Gen.of (by rw [toP_val (h.gens s hs)]; exact hs)
  rw [e]
  refine ⟨Gen.prod (Gen.prod h1.1 hs') (Gen.inv h2.1), ?_⟩
  have e1 : act (toP n (repL l.reps x)) l.point = x := h1.2
  have e2 : act (toP n (repL l.reps (rdl s x))) l.point = rdl s x := h2.2
  have e3 : act (toP n s) x = rdl s x := by
    obtain ⟨r0, r1⟩ := h.gr.rng x hx
    rw [act_in _ r0 r1, toP_val (h.gens s hs)]
  rw [act_mul, act_mul, e1, e3]
  have := act_inv (toP n (repL l.reps (rdl s x))) l.point
  rwa [e2] at this
theorem gl_fix {n : Nat} {gens : List (List Int)} {x : Int} (h0 : 0 ≤ x) (h1 : x < n) (h : ∀ s ∈ gens, rdl s x = x) {g : Pm n} (hg : GL n gens g) : rdl g.1 x = x := by
  have hS : Sub (Stab (fun _ : Pm n => True) x) := Stab.sub ⟨trivial, fun _ _ => trivial, fun _ => trivial⟩ x
  have := Gen.least hS (fun s hs => ⟨trivial, by rw [act_in _ h0 h1]; exact h s.1 hs⟩) hg
  rw [← act_in _ h0 h1]
  exact this.2
def szF : List Lv → Nat
  | [] => 1
  | l :: ls => l.reps.length * szF ls
def GenB : List Lv → Prop
  | [] => True
  | l :: ls => l.gens.length < szF (l :: ls) ∧ GenB ls
theorem szF_size (n : Nat) : ∀ ls : List Lv, szF ls = size (ls.map (tl n))
  | [] => rfl
  | l :: ls => by
    show l.reps.length * szF ls = (dom l).length * size (ls.map (tl n))
    rw [szF_size n ls, dom, List.length_map]
theorem szF_lt {n : Nat} {pts pts' : List Int} {ls ls' : List Lv} (h : PC n pts ls) (h' : PC n pts' ls') (hs : ∀ g, grp n ls g → grp n ls' g) {g0 : Pm n} (h0 : ¬ grp n ls g0) (h1 : grp n ls' g0) : szF ls < szF ls' := by
  obtain ⟨a1, a2⟩ := elems_spec (grp_sub n ls) (PC_chn h)
  obtain ⟨b1, b2⟩ := elems_spec (grp_sub n ls') (PC_chn h')
  have := sub_len (g0 :: elems (ls.map (tl n))) (elems (ls'.map (tl n))) (List.nodup_cons.2 ⟨fun hm => h0 ((a2 g0).1 hm), a1⟩) (fun x hx => by
    rcases List.mem_cons.1 hx with rfl | hx
    · exact (b2 _).2 h1
    · exact (b2 x).2 (hs x ((a2 x).1 hx)))
  rw [szF_size n, szF_size n, ← elems_length, ← elems_length]
  rw [List.length_cons] at this
  omega
structure LoopInv (n : Nat) (pts : List Int) (l1 : Lv) (rest : List Lv) (st : List (Int × Int) × List Lv) : Prop where
  pc : PC n (l1.point :: pts) st.2
  tnd : st.1.Nodup
  tin : ∀ q ∈ st.1, ∃ a b : Nat, q = ((a : Int), (b : Int)) ∧ a < l1.reps.length ∧ b < l1.gens.length
  sub : ∀ g, grp n st.2 g → Stab (GL n l1.gens) l1.point g
  old : ∀ g, grp n rest g → grp n st.2 g
  done : ∀ a b : Nat, a < l1.reps.length → b < l1.gens.length → ((a : Int), (b : Int)) ∉ st.1 → grp n st.2 (toP n (schF l1.reps (l1.reps.getD a (0, [])).1 (l1.gens.getD b [])))
  pre : ∃ m, st.2.map (·.point) = rest.map (·.point) ++ m
  gb : GenB st.2
def InsOk (n : Nat) (ins : List Lv → List Int → Option (List Lv)) (pts : List Int) : Prop :=
  ∀ (ls : List Lv) (p : List Int), PC n pts ls → IsP n p → (∀ x ∈ pts, rdl p x = x) → GenB ls →
    ∃ ls', ins ls p = some ls' ∧ PC n pts ls' ∧ (∀ g, grp n ls' g ↔ Gen (fun g => grp n ls g ∨ g.1 = p) g) ∧ (∃ m, ls'.map (·.point) = ls.map (·.point) ++ m) ∧ GenB ls'
theorem getD_mem {α : Type} {l : List α} {i : Nat} (h : i < l.length) (d : α) : l.getD i d ∈ l := by
  rw [List.getD_eq_getElem?_getD, List.getElem?_eq_getElem h]
  exact List.getElem_mem h
theorem sch_fix {n : Nat} {pts : List Int} {l : Lv} (h : Cl n pts l) (hp : ∀ x ∈ pts, 0 ≤ x ∧ x < n) {x : Int} {s : List Int} (hx : x ∈ dom l) (hs : s ∈ l.gens) : ∀ y ∈ l.point :: pts, rdl (schF l.reps x s) y = y := by
  have hst := h.sch_stab hx hs
  have hip := (h.sch hx hs).1
  intro y hy
  rw [← toP_val hip]
  rcases List.mem_cons.1 hy with rfl | hy
  · rw [← act_in _ h.pt.1 h.pt.2]
    exact hst.2
  · exact gl_fix (hp y hy).1 (hp y hy).2 (fun s hs => h.fix s hs y hy) hst.1
theorem step_inv {n : Nat} {pts : List Int} {l1 : Lv} {rest : List Lv} {ins : List Lv → List Int → Option (List Lv)} (hc : Cl n pts l1) (hp : ∀ x ∈ pts, 0 ≤ x ∧ x < n) (hi : InsOk n ins (l1.point :: pts))
    {st : List (Int × Int) × List Lv} (h : LoopInv n pts l1 rest st) {a b : Nat} (ha : a < l1.reps.length) (hb : b < l1.gens.length) :
    ∃ st', stepF ins l1 st a b = some st' ∧ LoopInv n pts l1 rest st' ∧ ((a : Int), (b : Int)) ∉ st'.1 ∧ ∀ q ∈ st'.1, q ∈ st.1 := by
  unfold stepF
  split
  · rename_i hm
    have hx : (l1.reps.getD a (0, [])).1 ∈ dom l1 := List.mem_map.2 ⟨_, getD_mem ha _, rfl⟩
    have hs : l1.gens.getD b [] ∈ l1.gens := getD_mem hb _
    have hsc := hc.sch hx hs
    obtain ⟨ls', e, h1, h2, ⟨m, h3⟩, h4⟩ := hi st.2 _ h.pc hsc.1 (sch_fix hc hp hx hs) h.gb
    rw [e]
    refine ⟨_, rfl, ⟨h1, h.tnd.erase _, fun q hq => h.tin q (List.mem_of_mem_erase hq), fun g hg => ?_, fun g hg => (h2 g).2 (Gen.of (.inl (h.old g hg))), fun a' b' ha' hb' hn => ?_, ?_, h4⟩, fun hm' => ?_, fun q hq => List.mem_of_mem_erase hq⟩
    · refine Gen.least (Stab.sub (Gen.sub _) _) (fun s hs' => ?_) ((h2 g).1 hg)
      rcases hs' with hs' | hs'
      · exact h.sub s hs'
      · have := hc.sch_stab hx hs
        rw [← toP_self s, hs']
        exact this
    · by_cases e' : ((a' : Int), (b' : Int)) = ((a : Int), (b : Int))
      · simp only [Prod.mk.injEq] at e'
        obtain rfl : a' = a := by omega
        obtain rfl : b' = b := by omega
        exact (h2 _).2 (Gen.of (.inr (toP_val hsc.1)))
      · exact (h2 _).2 (Gen.of (.inl (h.done a' b' ha' hb' (fun hm' => hn ((List.mem_erase_of_ne e').2 hm')))))
    · obtain ⟨m', hm'⟩ := h.pre
      exact ⟨m' ++ m, by rw [h3, hm', List.append_assoc]⟩
    · exact (List.Nodup.not_mem_erase h.tnd) hm'
  · rename_i hm
    exact ⟨st, rfl, h, hm, fun q hq => hq⟩
theorem row_inv {n : Nat} {pts : List Int} {l1 : Lv} {rest : List Lv} {ins : List Lv → List Int → Option (List Lv)} (hc : Cl n pts l1) (hp : ∀ x ∈ pts, 0 ≤ x ∧ x < n) (hi : InsOk n ins (l1.point :: pts)) {a : Nat} (ha : a < l1.reps.length) :
    ∀ (bs : List Nat) (st : List (Int × Int) × List Lv), (∀ b ∈ bs, b < l1.gens.length) → LoopInv n pts l1 rest st →
      ∃ st', rowF ins l1 a bs st = some st' ∧ LoopInv n pts l1 rest st' ∧ (∀ b ∈ bs, ((a : Int), (b : Int)) ∉ st'.1) ∧ ∀ q ∈ st'.1, q ∈ st.1
  | [], st, _, h => ⟨st, rfl, h, fun _ hb => by simp at hb, fun _ hq => hq⟩
  | b :: bs, st, hb, h => by
    obtain ⟨st1, e1, h1, h2, h3⟩ := step_inv hc hp hi h ha (hb b (by simp))
    obtain ⟨st2, e2, k1, k2, k3⟩ := row_inv hc hp hi ha bs st1 (fun b' h' => hb b' (by simp [h'])) h1
    refine ⟨st2, ?_, k1, fun b' hb' => ?_, fun q hq => h3 q (k3 q hq)⟩
    · unfold rowF at e2 ⊢
      rw [List.foldlM_cons, e1]
      exact e2
    · rcases List.mem_cons.1 hb' with rfl | hb'
      · exact fun hm => h2 (k3 _ hm)
      · exact k2 b' hb'
theorem all_inv {n : Nat} {pts : List Int} {l1 : Lv} {rest : List Lv} {ins : List Lv → List Int → Option (List Lv)} (hc : Cl n pts l1) (hp : ∀ x ∈ pts, 0 ≤ x ∧ x < n) (hi : InsOk n ins (l1.point :: pts)) :
    ∀ (as_ : List Nat) (st : List (Int × Int) × List Lv), (∀ a ∈ as_, a < l1.reps.length) → LoopInv n pts l1 rest st →
      ∃ st', allF ins l1 as_ st = some st' ∧ LoopInv n pts l1 rest st' ∧ (∀ a ∈ as_, ∀ b : Nat, b < l1.gens.length → ((a : Int), (b : Int)) ∉ st'.1) ∧ ∀ q ∈ st'.1, q ∈ st.1
  | [], st, _, h => ⟨st, rfl, h, fun _ hb => by simp at hb, fun _ hq => hq⟩
  | a :: as_, st, ha, h => by
    obtain ⟨st1, e1, h1, h2, h3⟩ := row_inv hc hp hi (ha a (by simp)) (List.range' 0 l1.gens.length) st (fun b hb => mem_range0.1 hb) h
    obtain ⟨st2, e2, k1, k2, k3⟩ := all_inv hc hp hi as_ st1 (fun b' h' => ha b' (by simp [h'])) h1
    refine ⟨st2, ?_, k1, fun a' ha' b hb => ?_, fun q hq => h3 q (k3 q hq)⟩
    · unfold allF at e2 ⊢
      rw [List.foldlM_cons, e1]
      exact e2
    · rcases List.mem_cons.1 ha' with rfl | ha'
      · exact fun hm => h2 b (mem_range0.2 hb) (k3 _ hm)
      · exact k2 a' ha' b hb
theorem PC.cl {n : Nat} {pts : List Int} {l : Lv} {ls : List Lv} (h : PC n pts (l :: ls)) : Cl n pts l := by
  obtain ⟨h1, h2, h3, h4, h5, h6, h7⟩ := h
  refine ⟨h1.pt, h1.gens, h4, ⟨h1.nd, h1.rng, fun x hx => ⟨(h1.rep x hx).1, (h1.rep x hx).2, (h5.rep x hx).1⟩⟩, h1.first, fun x hx s hs => ?_, h3⟩
  have hr := h5.rep x hx
  have hs' := h1.gens s hs
  have hg : GL n l.gens (toP n (repL l.reps x) * toP n s) := Gen.mul hr.1 (by rw [toP_val hs']; exact hs)
  have := h5.all _ hg
  have e1 : act (toP n (repL l.reps x)) l.point = x := hr.2
  obtain ⟨r0, r1⟩ := h1.rng x hx
  show rdl s x ∈ dom l
  have e2 : act (toP n s) x = rdl s x := by rw [act_in _ r0 r1, toP_val hs']
  rw [← e2, ← e1, ← act_mul]
  exact this
theorem newLv_pc {n : Nat} {pts : List Int} {b : Int} (h0 : 0 ≤ b) (h1 : b < n) (hb : b ∉ pts) {ls : List Lv} (hone' : ∀ g, grp n ls g → g = one) (hls : PC n (b :: pts) ls) : PC n pts (newLv n b :: ls) := by
  have hrep : repL (newLv n b).reps b = oneL n := by simp [newLv, repL, lookA]
  have hdom : ∀ x, x ∈ dom (newLv n b) → x = b := fun x hx => by simpa [newLv, dom] using hx
  have hok : LvOk n (newLv n b) := by
    refine ⟨⟨h0, h1⟩, fun s hs => by simp [newLv] at hs, by simp [newLv, dom], fun x hx => ?_, fun x hx => ?_, ⟨by simp [newLv, dom], hrep⟩, by simp [newLv], fun q hq => by simp [newLv] at hq⟩
    · rw [hdom x hx]; exact ⟨h0, h1⟩
    · rw [hdom x hx, hrep]
      exact ⟨oneL_isP n, rdl_oneL h0 h1⟩
  have hone : ∀ g : Pm n, GL n (newLv n b).gens g → g = one := fun g hg => gen_none (fun s hs => by simp [newLv] at hs) hg
  refine ⟨hok, rfl, hb, fun s hs => by simp [newLv] at hs, ⟨hok.nd, fun x hx => ?_, fun g hg => ?_⟩, ?_, hls⟩
  · rw [hdom x hx]
    show GL n (newLv n b).gens (toP n (repL (newLv n b).reps b)) ∧ act (toP n (repL (newLv n b).reps b)) b = b
    rw [hrep, show toP n (oneL n) = one from Pm.eq (toP_val (oneL_isP n))]
    exact ⟨.one, act_one b⟩
  · rw [hone g hg, act_one]
    exact hok.first.1
  · refine funext fun g => propext ⟨fun hg => ?_, fun hg => ?_⟩
    · rw [hone g hg.1]
      exact (grp_sub n ls).one
    · rw [hone' g hg]
      exact ⟨.one, act_one _⟩
theorem getD_append_left {α : Type} {l m : List α} {i : Nat} (h : i < l.length) (d : α) : (l ++ m).getD i d = l.getD i d := by
  rw [List.getD_eq_getElem?_getD, List.getD_eq_getElem?_getD, List.getElem?_append_left h]
theorem add_spec {n : Nat} {pts : List Int} {l : Lv} {rest : List Lv} (h : PC n pts (l :: rest)) (hgb : GenB rest) {p : List Int} (hp : IsP n p) (hf : ∀ x ∈ pts, rdl p x = x) :
    Cl n pts (addF n l p) ∧ LoopInv n pts (addF n l p) rest ((addF n l p).todo, rest) ∧ (addF n l p).gens = l.gens ++ [p] ∧ (addF n l p).point = l.point := by
  have hc := h.cl
  obtain ⟨h1, h2, h3, h4, h5, h6, h7⟩ := h
  have hg' : ∀ g ∈ l.gens ++ [p], IsP n g := fun g hg => by
    rcases List.mem_append.1 hg with hg | hg
    · exact h1.gens g hg
    · rw [List.mem_singleton.1 hg]; exact hp
  have hsub : ∀ g ∈ l.gens, g ∈ l.gens ++ [p] := fun g hg => List.mem_append.2 (.inl hg)
  have hgr : GR n l.point (l.gens ++ [p]) l.reps := hc.gr.mono hsub
  have htr : (todoRow l.reps.length (l.gens.length : Int) l.todo).Nodup := (foldT _ _ _).2 h1.tnd
  obtain ⟨hG, hcl⟩ := grow_spec (n := n) (pt := l.point) hc.pt hg' (n + 1) 0 (l.reps, todoRow l.reps.length (l.gens.length : Int) l.todo) hgr htr (by omega) (fun j hj => by omega)
  obtain ⟨m, hm⟩ := hG.pre
  have hmemd : ∀ x ∈ dom l, x ∈ dom (addF n l p) := fun x hx => hG.memD hx
  have hrep : ∀ x ∈ dom l, repL (addF n l p).reps x = repL l.reps x := fun x hx => by
    show repL (grow (l.gens ++ [p]) (n + 1) 0 (l.reps, todoRow l.reps.length (l.gens.length : Int) l.todo)).1 x = _
    rw [hm]
    exact repL_append m hx
  have hCl : Cl n pts (addF n l p) := by
    refine ⟨h1.pt, hg', fun s hs x hx => ?_, hG.gr, ⟨hmemd _ h1.first.1, by rw [show (addF n l p).point = l.point from rfl, hrep _ h1.first.1]; exact h1.first.2⟩, hcl, h3⟩
    rcases List.mem_append.1 hs with hs | hs
    · exact h4 s hs x hx
    · rw [List.mem_singleton.1 hs]; exact hf x hx
  refine ⟨hCl, ⟨h7, hG.tnd, fun q hq => ?_, fun g hg => ?_, fun g hg => hg, fun a b ha hb hn => ?_, ⟨[], by simp⟩, hgb⟩, rfl, rfl⟩
  · rcases hG.tin q hq with hq | hq
    · rcases todoRow_mem.1 hq with hq | ⟨i, hi, e⟩
      · rw [h2] at hq; simp at hq
      · refine ⟨i, l.gens.length, e, ?_, by simp [addF]⟩
        have : l.reps.length ≤ (addF n l p).reps.length := by
          show l.reps.length ≤ (grow (l.gens ++ [p]) (n + 1) 0 (l.reps, todoRow l.reps.length (l.gens.length : Int) l.todo)).1.length
          rw [hm, List.length_append]
          exact Nat.le_add_right _ _
        omega
    · exact hq
  · rw [← h6] at hg
    exact ⟨Gen.mono (fun s hs => hsub _ hs) hg.1, hg.2⟩
  · have haL : a < l.reps.length := by
      rcases Nat.lt_or_ge a l.reps.length with h | h
      · exact h
      · exact absurd (hG.tnew a b h ha hb) hn
    have hbL : b < l.gens.length := by
      rcases Nat.lt_or_ge b l.gens.length with h | h
      · exact h
      · have hb' : b < l.gens.length + 1 := by simpa [addF] using hb
        obtain rfl : b = l.gens.length := by omega
        exact absurd (hG.tkeep _ (todoRow_mem.2 (.inr ⟨a, haL, rfl⟩))) hn
    have e1 : (addF n l p).reps.getD a (0, []) = l.reps.getD a (0, []) := by
      show (grow (l.gens ++ [p]) (n + 1) 0 (l.reps, todoRow l.reps.length (l.gens.length : Int) l.todo)).1.getD a (0, []) = _
      rw [hm]
      exact getD_append_left haL _
    have e2 : (addF n l p).gens.getD b [] = l.gens.getD b [] := getD_append_left (l := l.gens) (m := [p]) hbL _
    rw [e1, e2]
    have hx : (l.reps.getD a (0, [])).1 ∈ dom l := List.mem_map.2 ⟨_, getD_mem haL _, rfl⟩
    have hs : l.gens.getD b [] ∈ l.gens := getD_mem hbL _
    have e3 : schF (addF n l p).reps (l.reps.getD a (0, [])).1 (l.gens.getD b []) = schF l.reps (l.reps.getD a (0, [])).1 (l.gens.getD b []) := by
      unfold schF
      rw [hrep _ hx, hrep _ (hc.closed _ hx _ hs)]
    rw [e3]
    have := hc.sch_stab hx hs
    rw [h6] at this
    exact this
theorem pts_le {n : Nat} {pts : List Int} (hn : pts.Nodup) (hr : ∀ x ∈ pts, 0 ≤ x ∧ x < n) : pts.length ≤ n := by
  have := sub_len pts (oneL n) hn (fun x hx => mem_oneL.2 (hr x hx))
  rwa [oneL_length] at this
theorem head_pc {n : Nat} {pts : List Int} {ls : List Lv} {p : List Int} (h : PC n pts ls) (hp : IsP n p) (hf : ∀ x ∈ pts, rdl p x = x) (hno : ¬ movedL (residF ls p) < 0) (hgb : GenB ls) :
    GenB ((headF n p ls).1 :: (headF n p ls).2) ∧ PC n pts ((headF n p ls).1 :: (headF n p ls).2) ∧ (∀ g, grp n ((headF n p ls).1 :: (headF n p ls).2) g ↔ grp n ls g) ∧ ∃ m, (headF n p ls).1.point :: (headF n p ls).2.map (·.point) = ls.map (·.point) ++ m := by
  cases ls with
  | nil =>
    obtain ⟨m0, m1, m2⟩ := moved_pos hp hno
    refine ⟨⟨Nat.one_pos, trivial⟩, newLv_pc m0 m1 (fun hm => m2 (hf _ hm)) (fun _ h => h) trivial, fun g => ⟨fun hg => gen_none (fun s hs => by simp [headF, newLv] at hs) hg, fun hg => ?_⟩, [movedL p], rfl⟩
    rw [show g = one from hg]
    exact Gen.one
  | cons l ls => exact ⟨hgb, h, fun g => Iff.rfl, [], by simp [headF]⟩
theorem ins_ok {n : Nat} : ∀ (f : Nat) (pts : List Int), pts.Nodup → (∀ x ∈ pts, 0 ≤ x ∧ x < n) → n + 1 ≤ f + pts.length → InsOk n (insF n f) pts
  | 0, pts, hn, hr, hf => by have := pts_le hn hr; omega
  | f + 1, pts, hn, hr, hf => by
    intro ls p h hp hfx hgb
    unfold insF
    split
    · rename_i hm
      refine ⟨ls, rfl, h, fun g => ⟨fun hg => Gen.of (.inl hg), fun hg => ?_⟩, ⟨[], by simp⟩, hgb⟩
      refine Gen.least (grp_sub n ls) (fun s hs => ?_) hg
      rcases hs with hs | hs
      · exact hs
      · rw [show s = ⟨p, hp⟩ from Pm.eq hs]
        exact (resid_one h hp).1 hm
    · rename_i hno
      obtain ⟨hgb', h1, h2, m, h3⟩ := head_pc h hp hfx hno hgb
      generalize (headF n p ls).1 = l at hgb' h1 h2 h3 ⊢
      generalize (headF n p ls).2 = rest at hgb' h1 h2 h3 ⊢
      obtain ⟨hc, hl, hg, hpt⟩ := add_spec h1 hgb'.2 hp hfx
      have hi : InsOk n (insF n f) ((addF n l p).point :: pts) := ins_ok f _ (List.nodup_cons.2 ⟨hc.new, hn⟩) (fun x hx => by
        rcases List.mem_cons.1 hx with rfl | hx
        · exact hc.pt
        · exact hr x hx) (by simp only [List.length_cons]; omega)
      obtain ⟨st, e, k1, k2, k3⟩ := all_inv hc hr hi (List.range' 0 (addF n l p).reps.length) _ (fun a ha => mem_range0.1 ha) hl
      rw [e]
      have htodo : st.1 = [] := by
        refine List.eq_nil_iff_forall_not_mem.2 (fun q hq => ?_)
        obtain ⟨a, b, rfl, ha, hb⟩ := k1.tin q hq
        exact k2 a (mem_range0.2 ha) b hb hq
      have hst : Stab (GL n (addF n l p).gens) (addF n l p).point = grp n st.2 := by
        refine schreier (l := tl n (addF n l p)) hc.gr.nd hc.first.1 ?_ (grp_sub n st.2) (fun x hx s hs => ?_) k1.sub
        · show toP n (repL (addF n l p).reps (addF n l p).point) = one
          rw [hc.first.2]
          exact Pm.eq (toP_val (oneL_isP n))
        · obtain ⟨r0, r1⟩ := hc.gr.rng x hx
          rw [act_in _ r0 r1]
          refine ⟨hc.closed x hx s.1 hs, ?_⟩
          obtain ⟨q, hq, e1⟩ := List.mem_map.1 hx
          obtain ⟨a, ha, e2⟩ := List.getElem_of_mem hq
          obtain ⟨b, hb, e3⟩ := List.getElem_of_mem hs
          have := k1.done a b ha hb (fun hm => by rw [htodo] at hm; simp at hm)
          have e4 : ((addF n l p).reps.getD a (0, [])).1 = x := by
            rw [List.getD_eq_getElem?_getD, List.getElem?_eq_getElem ha, Option.getD_some, e2, e1]
          have e5 : (addF n l p).gens.getD b [] = s.1 := by
            rw [List.getD_eq_getElem?_getD, List.getElem?_eq_getElem hb, Option.getD_some, e3]
          rw [e4, e5, (hc.sch hx hs).2, toP_self] at this
          exact this
      have hPC : PC n pts ({ addF n l p with todo := st.1 } :: st.2) := ⟨⟨hc.pt, hc.gens, hc.gr.nd, hc.gr.rng, fun x hx => ⟨(hc.gr.rep x hx).1, (hc.gr.rep x hx).2.1⟩, hc.first, by rw [htodo]; exact List.nodup_nil, fun q hq => by rw [htodo] at hq; simp at hq⟩, htodo, hc.new, hc.fix, hc.lev, hst, k1.pc⟩
      refine ⟨_, rfl, hPC, fun g => ?_, ?_, ?_, k1.gb⟩
      · have e1 : grp n ({ addF n l p with todo := st.1 } :: st.2) = GL n (l.gens ++ [p]) := rfl
        rw [e1]
        constructor
        · intro hg'
          refine Gen.mono (fun s hs => ?_) hg'
          rcases List.mem_append.1 hs with hs | hs
          · exact .inl ((h2 s).1 (Gen.of hs))
          · exact .inr (List.mem_singleton.1 hs)
        · intro hg'
          refine Gen.least (Gen.sub _) (fun s hs => ?_) hg'
          rcases hs with hs | hs
          · exact Gen.mono (fun q hq => List.mem_append.2 (.inl hq)) ((h2 s).2 hs)
          · exact Gen.of (List.mem_append.2 (.inr (List.mem_singleton.2 hs)))
      · obtain ⟨m', hm'⟩ := k1.pre
        exact ⟨m ++ m', by rw [List.map_cons, hm', hpt, ← List.cons_append, h3, List.append_assoc]⟩
      · show (l.gens ++ [p]).length < szF ({ addF n l p with todo := st.1 } :: st.2)
        have hlt := szF_lt h1 hPC (fun g hg' => Gen.mono (fun q hq => List.mem_append.2 (.inl hq)) hg') (g0 := ⟨p, hp⟩) (fun hg' => hno ((resid_one h hp).2 ((h2 _).1 hg'))) (Gen.of (List.mem_append.2 (.inr (List.mem_singleton.2 rfl))))
        have := hgb'.1
        rw [List.length_append, List.length_singleton]
        omega
theorem base_sz {n : Nat} : ∀ base : List Int, szF (base.map (newLv n)) = 1 ∧ GenB (base.map (newLv n))
  | [] => ⟨rfl, trivial⟩
  | b :: base => by
    obtain ⟨h1, h2⟩ := base_sz (n := n) base
    have e : szF (newLv n b :: base.map (newLv n)) = 1 := by
      show 1 * szF (base.map (newLv n)) = 1
      rw [h1]
    exact ⟨e, by show 0 < szF (newLv n b :: base.map (newLv n)); rw [e]; exact Nat.one_pos, h2⟩
theorem base_pc {n : Nat} : ∀ (base pts : List Int), (∀ x ∈ base, 0 ≤ x ∧ x < n) → base.Nodup → (∀ x ∈ base, x ∉ pts) → PC n pts (base.map (newLv n)) ∧ ∀ g, grp n (base.map (newLv n)) g → g = one
  | [], _, _, _, _ => ⟨trivial, fun _ h => h⟩
  | b :: base, pts, hr, hn, hd => by
    obtain ⟨hb, hn'⟩ := List.nodup_cons.1 hn
    obtain ⟨h1, h2⟩ := base_pc base (b :: pts) (fun x hx => hr x (by simp [hx])) hn' (fun x hx hm => by
      rcases List.mem_cons.1 hm with rfl | hm
      · exact hb hx
      · exact hd x (by simp [hx]) hm)
    exact ⟨newLv_pc (hr b (by simp)).1 (hr b (by simp)).2 (hd b (by simp)) h2 h1, fun g hg => gen_none (fun s hs => by simp [newLv] at hs) hg⟩
theorem fold_ok {n f : Nat} (hi : InsOk n (insF n f) []) : ∀ (gens : List (List Int)) (ls : List Lv), (∀ g ∈ gens, IsP n g) → PC n [] ls → GenB ls →
    ∃ ls', gens.foldlM (fun ls p => insF n f ls p) ls = some ls' ∧ PC n [] ls' ∧ (∀ g, grp n ls' g ↔ Gen (fun g => grp n ls g ∨ g.1 ∈ gens) g) ∧ (∃ m, ls'.map (·.point) = ls.map (·.point) ++ m) ∧ GenB ls'
  | [], ls, _, h, hb => ⟨ls, rfl, h, fun g => ⟨fun hg => Gen.of (.inl hg), fun hg => Gen.least (grp_sub n ls) (fun s hs => hs.elim id (fun h => by simp at h)) hg⟩, ⟨[], by simp⟩, hb⟩
  | p :: gens, ls, hg, h, hb => by
    obtain ⟨ls1, e1, h1, h2, ⟨m, h3⟩, h4⟩ := hi ls p h (hg p (by simp)) (fun x hx => by simp at hx) hb
    obtain ⟨ls2, e2, k1, k2, ⟨m', k3⟩, k4⟩ := fold_ok hi gens ls1 (fun g h => hg g (by simp [h])) h1 h4
    refine ⟨ls2, by rw [List.foldlM_cons, e1]; exact e2, k1, fun g => (k2 g).trans ⟨fun hg' => ?_, fun hg' => ?_⟩, ⟨m ++ m', by rw [k3, h3, List.append_assoc]⟩, k4⟩
    · refine Gen.least (Gen.sub _) (fun s hs => ?_) hg'
      rcases hs with hs | hs
      · refine Gen.mono (fun q hq => ?_) ((h2 s).1 hs)
        exact hq.imp id (fun e => by rw [e]; simp)
      · exact Gen.of (.inr (by simp [hs]))
    · refine Gen.mono (fun s hs => ?_) hg'
      rcases hs with hs | hs
      · exact .inl ((h2 s).2 (Gen.of (.inl hs)))
      · rcases List.mem_cons.1 hs with hs | hs
        · exact .inl ((h2 s).2 (Gen.of (.inr hs)))
        · exact .inr hs
theorem group_ok {n f : Nat} (hf : n + 1 ≤ f) {gens : List (List Int)} (hg : ∀ g ∈ gens, IsP n g) {base : List Int} (hb : ∀ x ∈ base, 0 ≤ x ∧ x < n) (hn : base.Nodup) :
    ∃ ls, groupF n f gens base = some ls ∧ PC n [] ls ∧ grp n ls = GL n gens ∧ (∃ m, ls.map (·.point) = base ++ m) ∧ GenB ls := by
  obtain ⟨h1, h2⟩ := base_pc base [] hb hn (fun x _ h => by simp at h)
  obtain ⟨ls, e, k1, k2, ⟨m, k3⟩, k4⟩ := fold_ok (ins_ok f [] List.nodup_nil (fun x hx => by simp at hx) (by simpa using hf)) gens _ hg h1 (base_sz base).2
  refine ⟨ls, e, k1, funext fun g => propext ((k2 g).trans ⟨fun hg' => ?_, fun hg' => Gen.mono (fun s hs => .inr hs) hg'⟩), ⟨m, by rw [k3, List.map_map]; congr 1; exact (List.map_congr_left (fun x _ => rfl)).trans (List.map_id _)⟩, k4⟩
  refine Gen.least (Gen.sub _) (fun s hs => ?_) hg'
  rcases hs with hs | hs
  · rw [h2 s hs]
    exact Gen.one
  · exact Gen.of hs
theorem PC_length {n : Nat} : ∀ {pts : List Int} {ls : List Lv}, PC n pts ls → pts.Nodup → (∀ x ∈ pts, 0 ≤ x ∧ x < n) → pts.length + ls.length ≤ n
  | pts, [], _, hn, hr => by simpa using pts_le hn hr
  | pts, l :: ls, h, hn, hr => by
    obtain ⟨h1, _, h3, _, _, _, h7⟩ := h
    have := PC_length h7 (List.nodup_cons.2 ⟨h3, hn⟩) (fun x hx => by
      rcases List.mem_cons.1 hx with rfl | hx
      · exact h1.pt
      · exact hr x hx)
    simp only [List.length_cons] at this ⊢
    omega
theorem szF_le {n : Nat} (hn : 0 < n) : ∀ {pts : List Int} {ls : List Lv}, PC n pts ls → szF ls ≤ n ^ ls.length
  | _, [], _ => Nat.le_refl _
  | pts, l :: ls, h => by
    have h1 : l.reps.length ≤ n := h.cl.gr.length
    have h2 := szF_le hn h.2.2.2.2.2.2
    show l.reps.length * szF ls ≤ n ^ (ls.length + 1)
    rw [Nat.pow_succ, Nat.mul_comm]
    exact Nat.mul_le_mul h2 h1
theorem gens_few {n : Nat} (hn : 0 < n) (h11 : n ≤ 11) : ∀ {pts : List Int} {ls : List Lv}, PC n pts ls → pts.Nodup → (∀ x ∈ pts, 0 ≤ x ∧ x < n) → GenB ls → ∀ l ∈ ls, l.gens.length < 1000000000000
  | _, [], _, _, _, _, l, hl => by simp at hl
  | pts, l :: ls, h, hd, hr, hb, l', hl => by
    rcases List.mem_cons.1 hl with rfl | hl
    · have h1 := szF_le hn h
      have h2 := PC_length h hd hr
      have h3 : n ^ (l' :: ls).length ≤ 11 ^ 11 := Nat.le_trans (Nat.pow_le_pow_left h11 _) (Nat.pow_le_pow_right (by decide) (by omega))
      have h4 := hb.1
      have h5 : (11 : Nat) ^ 11 < 1000000000000 := by decide
      omega
    · exact gens_few hn h11 h.2.2.2.2.2.2 (List.nodup_cons.2 ⟨h.2.2.1, hd⟩) (fun x hx => by
        rcases List.mem_cons.1 hx with rfl | hx
        · exact h.1.pt
        · exact hr x hx) hb.2 l' hl
end Go.Proofs.Ytpkgckccfanchaa.Sims

namespace Go.Proofs.Ytpkgckccfanchaa.Sims
open Gp Classical
section
variable {G : Type} [Gp G]
theorem filter_split {α : Type} (p : α → Prop) : ∀ l : List α, l.length = (l.filter (fun x => decide (p x))).length + (l.filter (fun x => decide (¬ p x))).length
  | [] => rfl
  | x :: l => by
    have ih := filter_split p l
    by_cases h : p x
    · rw [List.filter_cons_of_pos (by simpa using h), List.filter_cons_of_neg (by simpa using h), List.length_cons, List.length_cons, ih]
      omega
    · rw [List.filter_cons_of_neg (by simpa using h), List.filter_cons_of_pos (by simpa using h), List.length_cons, List.length_cons, ih]
      omega
theorem cosets {H : G → Prop} (hH : Sub H) {eH : List G} (hn : eH.Nodup) (he : ∀ g, g ∈ eH ↔ H g) : ∀ (m : Nat) (R : List G), R.length ≤ m → R.Nodup → (∀ x ∈ R, ∀ h, H h → x * h ∈ R) → eH.length ∣ R.length
  | m, [], _, _, _ => ⟨0, rfl⟩
  | 0, g :: R, hm, _, _ => by simp at hm
  | m + 1, g :: R, hm, hR, hc => by
    have hgc : (eH.map (fun h => g * h)).Nodup := map_inj_nodup _ eH hn (fun x _ y _ e => by
      have e2 : inv g * (g * x) = inv g * (g * y) := by rw [e]
      rwa [← assoc, ← assoc, inv_mul, one_mul, one_mul] at e2)
    have h1 : ((g :: R).filter (fun x => decide (H (inv g * x)))).length = (eH.map (fun h => g * h)).length := by
      refine same_len (List.Pairwise.filter _ hR) hgc (fun x => ?_)
      rw [List.mem_filter, decide_eq_true_eq, List.mem_map]
      constructor
      · rintro ⟨_, hx⟩
        exact ⟨inv g * x, (he _).2 hx, by rw [← assoc, mul_inv, one_mul]⟩
      · rintro ⟨h, hh, rfl⟩
        refine ⟨hc g (by simp) h ((he h).1 hh), ?_⟩
        rw [← assoc, inv_mul, one_mul]
        exact (he h).1 hh
    have h2 := filter_split (fun x => H (inv g * x)) (g :: R)
    rw [h1, List.length_map] at h2
    have hpos : 0 < eH.length := List.length_pos_of_mem ((he one).2 hH.one)
    obtain ⟨q, hq⟩ := cosets hH hn he m ((g :: R).filter (fun x => decide (¬ H (inv g * x)))) (by rw [List.length_cons] at h2 hm; omega) (List.Pairwise.filter _ hR) (fun x hx h hh => by
      rw [List.mem_filter, decide_eq_true_eq] at hx ⊢
      refine ⟨hc x hx.1 h hh, fun k => hx.2 ?_⟩
      have k2 := hH.mul k (hH.inv hh)
      rwa [← assoc, cancel_inv] at k2)
    exact ⟨1 + q, by rw [h2, hq, Nat.mul_add, Nat.mul_one]⟩
theorem lagrange {H K : G → Prop} (hH : Sub H) (hK : Sub K) (hs : ∀ g, H g → K g) {eH eK : List G} (hn : eH.Nodup) (he : ∀ g, g ∈ eH ↔ H g) (kn : eK.Nodup) (ke : ∀ g, g ∈ eK ↔ K g) : eH.length ∣ eK.length :=
  cosets hH hn he _ eK (Nat.le_refl _) kn (fun x hx h hh => (ke _).2 (hK.mul ((ke x).1 hx) (hs h hh)))
end
def allL : List Int → Nat → List (List Int)
  | _, 0 => [[]]
  | l, k + 1 => l.flatMap (fun x => (allL (l.erase x) k).map (x :: ·))
def factN : Nat → Nat
  | 0 => 1
  | k + 1 => (k + 1) * factN k
theorem allL_length : ∀ (k : Nat) (l : List Int), l.length = k → (allL l k).length = factN k
  | 0, l, _ => rfl
  | k + 1, l, h => by
    rw [allL, length_flatMap_const _ (factN k) l (fun x hx => by rw [List.length_map, allL_length k _ (by rw [List.length_erase_of_mem hx, h]; rfl)]), h, factN, Nat.mul_comm]
theorem allL_mem : ∀ (k : Nat) (l : List Int), l.Nodup → ∀ p : List Int, p ∈ allL l k ↔ p.length = k ∧ p.Nodup ∧ ∀ x ∈ p, x ∈ l
  | 0, l, _, p => by
    rw [allL, List.mem_singleton]
    constructor
    · rintro rfl; simp
    · rintro ⟨h, _, _⟩; exact List.length_eq_zero_iff.1 h
  | k + 1, l, hn, p => by
    rw [allL, List.mem_flatMap]
    constructor
    · rintro ⟨x, hx, hp⟩
      obtain ⟨q, hq, rfl⟩ := List.mem_map.1 hp
      obtain ⟨h1, h2, h3⟩ := (allL_mem k _ (hn.erase x) q).1 hq
      refine ⟨by simp [h1], List.nodup_cons.2 ⟨fun hm => ?_, h2⟩, fun y hy => ?_⟩
      · exact ((List.Nodup.mem_erase_iff hn).1 (h3 x hm)).1 rfl
      · rcases List.mem_cons.1 hy with rfl | hy
        · exact hx
        · exact List.mem_of_mem_erase (h3 y hy)
    · rintro ⟨h1, h2, h3⟩
      match p, h1, h2, h3 with
      | x :: q, h1, h2, h3 =>
        refine ⟨x, h3 x (by simp), List.mem_map.2 ⟨q, (allL_mem k _ (hn.erase x) q).2 ⟨by simpa using h1, (List.nodup_cons.1 h2).2, fun y hy => ?_⟩, rfl⟩⟩
        exact (List.Nodup.mem_erase_iff hn).2 ⟨fun e => (List.nodup_cons.1 h2).1 (e ▸ hy), h3 y (by simp [hy])⟩
theorem allL_nodup : ∀ (k : Nat) (l : List Int), l.Nodup → (allL l k).Nodup
  | 0, l, _ => by simp [allL]
  | k + 1, l, hn => by
    rw [allL]
    refine nodup_flatMap _ l hn (fun x _ => map_inj_nodup _ _ (allL_nodup k _ (hn.erase x)) (fun a _ b _ e => (List.cons.inj e).2)) (fun x _ y _ z h1 h2 => ?_)
    obtain ⟨a, _, rfl⟩ := List.mem_map.1 h1
    obtain ⟨b, _, e⟩ := List.mem_map.1 h2
    exact (List.cons.inj e).1.symm
noncomputable def allP (n : Nat) : List (Pm n) := (allL (oneL n) n).map (toP n)
theorem oneL_nodup (n : Nat) : (oneL n).Nodup := (oneL_isP n).nd
theorem allL_isP {n : Nat} {p : List Int} : p ∈ allL (oneL n) n ↔ IsP n p := by
  rw [allL_mem n _ (oneL_nodup n)]
  constructor
  · rintro ⟨h1, h2, h3⟩
    exact ⟨h1, fun x hx => mem_oneL.1 (h3 x hx), h2⟩
  · intro h
    exact ⟨h.len, h.nd, fun x hx => mem_oneL.2 (h.rng x hx)⟩
theorem allP_nodup (n : Nat) : (allP n).Nodup := map_inj_nodup _ _ (allL_nodup n _ (oneL_nodup n)) (fun a ha b hb e => by
  have := congrArg Pm.val e
  rwa [toP_val (allL_isP.1 ha), toP_val (allL_isP.1 hb)] at this)
theorem allP_mem {n : Nat} (g : Pm n) : g ∈ allP n := List.mem_map.2 ⟨g.1, allL_isP.2 g.2, toP_self g⟩
theorem allP_length (n : Nat) : (allP n).length = factN n := by rw [allP, List.length_map, allL_length n _ (oneL_length n)]
theorem size_dvd_fact {n : Nat} {ls : List (Lvl (Pm n))} {H : Pm n → Prop} (hH : Sub H) (h : Chn ls H) : size ls ∣ factN n := by
  obtain ⟨h1, h2⟩ := elems_spec hH h
  have h3 := lagrange (K := fun _ => True) hH ⟨trivial, fun _ _ => trivial, fun _ => trivial⟩ (fun _ _ => trivial) h1 h2 (allP_nodup n) (fun g => ⟨fun _ => trivial, fun _ => allP_mem g⟩)
  rwa [elems_length, allP_length] at h3
theorem size_dvd {n : Nat} {ls ls' : List (Lvl (Pm n))} {H K : Pm n → Prop} (hH : Sub H) (hK : Sub K) (hs : ∀ g, H g → K g) (h : Chn ls H) (h' : Chn ls' K) : size ls ∣ size ls' := by
  obtain ⟨h1, h2⟩ := elems_spec hH h
  obtain ⟨k1, k2⟩ := elems_spec hK h'
  have h3 := lagrange hH hK hs h1 h2 k1 k2
  rwa [elems_length, elems_length] at h3
end Go.Proofs.Ytpkgckccfanchaa.Sims

namespace Go.Proofs.Ytpkgckccfanchaa.Sims
open Gp Classical
def levF (n : Nat) (pt : Int) (gens : List (List Int)) : Lv := ⟨pt, gens, (grow gens (n + 1) 0 ([(pt, oneL n)], [])).1, []⟩
theorem levF_cl {n : Nat} {pts : List Int} {pt : Int} {gens : List (List Int)} (hpt : 0 ≤ pt ∧ pt < n) (hg : ∀ s ∈ gens, IsP n s) (hf : ∀ s ∈ gens, ∀ x ∈ pts, rdl s x = x) (hnew : pt ∉ pts) : Cl n pts (levF n pt gens) := by
  have h0 : repL [(pt, oneL n)] pt = oneL n := by simp [repL, lookA]
  have hgr : GR n pt gens [(pt, oneL n)] := by
    refine ⟨by simp, fun x hx => ?_, fun x hx => ?_⟩
    · have : x = pt := by simpa using hx
      subst this
      exact hpt
    · have : x = pt := by simpa using hx
      subst this
      rw [h0]
      exact ⟨oneL_isP n, rdl_oneL hpt.1 hpt.2, by rw [show toP n (oneL n) = one from Pm.eq (toP_val (oneL_isP n))]; exact Gen.one⟩
  obtain ⟨hG, hcl⟩ := grow_spec (n := n) (pt := pt) hpt hg (n + 1) 0 ([(pt, oneL n)], []) hgr (by simp) (by omega) (fun j hj => by omega)
  have hm : pt ∈ dom (levF n pt gens) := hG.memD (by simp)
  refine ⟨hpt, hg, hf, hG.gr, ⟨hm, ?_⟩, hcl, hnew⟩
  obtain ⟨m, hm'⟩ := hG.pre
  show repL (grow gens (n + 1) 0 ([(pt, oneL n)], [])).1 pt = oneL n
  rw [hm', repL_append m (by simp), h0]
theorem Cl.ok {n : Nat} {pts : List Int} {l : Lv} (h : Cl n pts l) (ht : l.todo = []) : LvOk n l :=
  ⟨h.pt, h.gens, h.gr.nd, h.gr.rng, fun x hx => ⟨(h.gr.rep x hx).1, (h.gr.rep x hx).2.1⟩, h.first, by rw [ht]; exact List.nodup_nil, fun q hq => by rw [ht] at hq; simp at hq⟩
theorem Cl.mem {n : Nat} {pts : List Int} {l : Lv} (h : Cl n pts l) {x : Int} : x ∈ dom l ↔ ∃ g : Pm n, GL n l.gens g ∧ act g l.point = x :=
  ⟨fun hx => ⟨_, (h.lev.rep x hx).1, (h.lev.rep x hx).2⟩, fun ⟨g, hg, e⟩ => e ▸ h.lev.all g hg⟩
def WC (n : Nat) : List Int → List Lv → Prop
  | _, [] => True
  | pts, l :: ls => Cl n pts l ∧ l.todo = [] ∧ (∀ g, grp n ls g → Stab (GL n l.gens) l.point g) ∧ WC n (l.point :: pts) ls
def phi (ls : List Lv) : Nat := (ls.map (fun l => l.reps.length)).sum
def GBd (ls : List Lv) (m : Nat) : Prop := ∀ l ∈ ls, l.gens.length ≤ m
theorem WC.length {n : Nat} : ∀ {pts : List Int} {ls : List Lv}, WC n pts ls → pts.Nodup → (∀ x ∈ pts, 0 ≤ x ∧ x < n) → pts.length + ls.length ≤ n
  | pts, [], _, hn, hr => by simpa using pts_le hn hr
  | pts, l :: ls, h, hn, hr => by
    have := WC.length h.2.2.2 (List.nodup_cons.2 ⟨h.1.new, hn⟩) (fun x hx => by
      rcases List.mem_cons.1 hx with rfl | hx
      · exact h.1.pt
      · exact hr x hx)
    simp only [List.length_cons] at this ⊢
    omega
theorem WC.phi {n : Nat} : ∀ {pts : List Int} {ls : List Lv}, WC n pts ls → phi ls ≤ n * ls.length
  | pts, [], _ => by simp [Sims.phi]
  | pts, l :: ls, h => by
    have h1 := WC.phi h.2.2.2
    have h2 := h.1.gr.length
    simp only [Sims.phi, List.map_cons, List.sum_cons, List.length_cons] at h1 ⊢
    rw [Nat.mul_succ]
    omega
theorem PC.wc {n : Nat} : ∀ {pts : List Int} {ls : List Lv}, PC n pts ls → WC n pts ls
  | _, [], _ => trivial
  | pts, l :: ls, h => ⟨h.cl, h.2.1, fun g hg => by rw [h.2.2.2.2.2.1]; exact hg, PC.wc h.2.2.2.2.2.2⟩
theorem WC.ok {n : Nat} : ∀ {pts : List Int} {ls : List Lv}, WC n pts ls → ∀ l ∈ ls, LvOk n l
  | _, [], _, l, hl => by simp at hl
  | pts, l :: ls, h, l', hl => by
    rcases List.mem_cons.1 hl with rfl | hl
    · exact h.1.ok h.2.1
    · exact WC.ok h.2.2.2 l' hl
structure SiftOk (n : Nat) (pts : List Int) (ls : List Lv) (p : List Int) (r : List Int) (k : Nat) : Prop where
  isP : IsP n r
  le : k ≤ ls.length
  fix : ∀ x ∈ pts, rdl r x = x
  fix' : ∀ l ∈ ls.take k, rdl r l.point = l.point
  stop : ∀ l, ls[k]? = some l → rdl r l.point ∉ dom l
  eq : ∃ g, grp n ls g ∧ toP n p = toP n r * g
structure ExtOk (n : Nat) (pts : List Int) (ls ls' : List Lv) (k : Nat) (p : List Int) : Prop where
  wc : WC n pts ls'
  phi : phi ls < phi ls'
  gens : ∀ m, GBd ls m → GBd ls' (m + 1)
  grp : ∀ g, grp n ls' g ↔ Gen (fun g => grp n ls g ∨ g.1 = p) g
  drop : ls'.drop (k + 1) = ls.drop (k + 1)
  len : k + 1 ≤ ls'.length
  pre : ∃ m, ls'.map (·.point) = ls.map (·.point) ++ m
def ptsOf : List Int → List Lv → List Int
  | pts, [] => pts
  | pts, l :: ls => ptsOf (l.point :: pts) ls
theorem WC.drop {n : Nat} : ∀ {pts : List Int} {ls : List Lv}, WC n pts ls → ∀ k, WC n (ptsOf pts (ls.take k)) (ls.drop k)
  | pts, [], _, k => by simp [WC]
  | pts, l :: ls, h, 0 => h
  | pts, l :: ls, h, k + 1 => WC.drop h.2.2.2 k
theorem WC.base {n : Nat} : ∀ (base pts : List Int), (∀ x ∈ base, 0 ≤ x ∧ x < n) → base.Nodup → (∀ x ∈ base, x ∉ pts) → WC n pts (base.map (fun x => levF n x [])) ∧ ∀ g, grp n (base.map (fun x => levF n x [])) g → g = one
  | [], _, _, _, _ => ⟨trivial, fun _ h => h⟩
  | b :: base, pts, hr, hn, hd => by
    obtain ⟨hb, hn'⟩ := List.nodup_cons.1 hn
    obtain ⟨h1, h2⟩ := WC.base base (b :: pts) (fun x hx => hr x (by simp [hx])) hn' (fun x hx hm => by
      rcases List.mem_cons.1 hm with rfl | hm
      · exact hb hx
      · exact hd x (by simp [hx]) hm)
    refine ⟨⟨levF_cl (hr b (by simp)) (fun s hs => by simp at hs) (fun s hs => by simp at hs) (hd b (by simp)), rfl, fun g hg => ?_, h1⟩, fun g hg => gen_none (fun s hs => by simp [levF] at hs) hg⟩
    rw [h2 g hg]
    exact ⟨Gen.one, act_one _⟩
end Go.Proofs.Ytpkgckccfanchaa.Sims
