/- Bands, in plain Lean: which lists are bands, what two bands of the same lengths are, what is added behind a band, how many lengths a band has; what the exported functions of band, and the marks of the other package, answer. Conditions: none (definitions and facts on lists and whole numbers alone). -/
import Derived.Test.YtomgpbhkoellpaaDoorP
set_option linter.unusedVariables false
set_option linter.unusedSimpArgs false
namespace Go.Proofs.YtomgpbhkoellpaaDoor.P
open Go.RowKit

instance : DecidableEq S24 := fun x y => if h : x.f0 = y.f0 ∧ x.f1 = y.f1 then .isTrue (by cases x; cases y; simp_all) else .isFalse (fun e => h (e ▸ ⟨rfl, rfl⟩))
theorem S24.ext2 {x y : S24} (h0 : x.f0 = y.f0) (h1 : x.f1 = y.f1) : x = y := by cases x; cases y; simp_all

/-- A chain behind a: each span is not empty and begins behind the end of the one ahead. -/
def Ch : Int → List S24 → Prop
  | _, [] => True
  | a, x :: xs => a < x.f0 ∧ x.f0 < x.f1 ∧ Ch x.f1 xs
def hasB (l : List S24) (n : Int) : Bool := l.any fun x => decide (x.f0 ≤ n) && decide (n < x.f1)
theorem hasB_cons (x : S24) (xs : List S24) (n : Int) : hasB (x :: xs) n = true ↔ (x.f0 ≤ n ∧ n < x.f1) ∨ hasB xs n = true := by
  simp [hasB]
theorem hasB_nil (n : Int) : hasB [] n = false := rfl
theorem hasB_append (xs ys : List S24) (n : Int) : hasB (xs ++ ys) n = true ↔ hasB xs n = true ∨ hasB ys n = true := by
  simp [hasB]
theorem Ch.lt : ∀ {l : List S24} {a n : Int}, Ch a l → hasB l n = true → a < n
  | [], _, _, _, h => by cases h
  | x :: xs, a, n, h, hh => by
    obtain ⟨h1, h2, h3⟩ := h
    rcases (hasB_cons x xs n).1 hh with q | q
    · omega
    · have := Ch.lt h3 q
      omega
theorem Ch.le {a b : Int} (hab : a ≤ b) : ∀ {l : List S24}, Ch b l → Ch a l
  | [], _ => trivial
  | x :: xs, h => ⟨by have := h.1; omega, h.2⟩
/-- Two chains of the same lengths are the same. -/
theorem Ch.ext : ∀ {l m : List S24} {a b : Int}, Ch a l → Ch b m → (∀ n, hasB l n = hasB m n) → l = m
  | [], [], _, _, _, _, _ => rfl
  | [], y :: ys, a, b, _, hm, he => by
    have := he y.f0
    rw [hasB_nil, (hasB_cons y ys y.f0).2 (.inl ⟨Int.le_refl _, hm.2.1⟩)] at this
    cases this
  | x :: xs, [], a, b, hl, _, he => by
    have := he x.f0
    rw [hasB_nil, (hasB_cons x xs x.f0).2 (.inl ⟨Int.le_refl _, hl.2.1⟩)] at this
    cases this
  | x :: xs, y :: ys, a, b, hl, hm, he => by
    obtain ⟨l1, l2, l3⟩ := hl
    obtain ⟨m1, m2, m3⟩ := hm
    have iff : ∀ n, ((x.f0 ≤ n ∧ n < x.f1) ∨ hasB xs n = true) ↔ ((y.f0 ≤ n ∧ n < y.f1) ∨ hasB ys n = true) := fun n => by
      rw [← hasB_cons, ← hasB_cons, he n]
    have e0 : x.f0 = y.f0 := by
      have p := (iff x.f0).1 (.inl ⟨Int.le_refl _, l2⟩)
      have q := (iff y.f0).2 (.inl ⟨Int.le_refl _, m2⟩)
      have p' : y.f0 ≤ x.f0 := by
        rcases p with p | p
        · exact p.1
        · have := m3.lt p
          omega
      have q' : x.f0 ≤ y.f0 := by
        rcases q with q | q
        · exact q.1
        · have := l3.lt q
          omega
      omega
    have e1 : x.f1 = y.f1 := by
      refine Int.le_antisymm (Int.le_of_not_gt fun hlt => ?_) (Int.le_of_not_gt fun hlt => ?_)
      · rcases (iff y.f1).1 (.inl ⟨by omega, hlt⟩) with p | p
        · omega
        · have := m3.lt p
          omega
      · rcases (iff x.f1).2 (.inl ⟨by omega, hlt⟩) with p | p
        · omega
        · have := l3.lt p
          omega
    have hxy : x = y := by cases x; cases y; simp_all
    subst hxy
    have := Ch.ext (l := xs) (m := ys) l3 m3 fun n => by
      have := iff n
      cases hx : hasB xs n <;> cases hy : hasB ys n
      · rfl
      · rw [hx, hy] at this
        have q := m3.lt hy
        simp at this
        omega
      · rw [hx, hy] at this
        have q := l3.lt hx
        simp at this
        omega
      · rfl
    rw [this]

/-! ### What is added behind -/
/-- The last end of a band (a, if there is none); the last begin. -/
def endB (a : Int) : List S24 → Int
  | [] => a
  | x :: xs => endB x.f1 xs
def addB : List S24 → Int → Int → List S24
  | [], f, t => if f ≥ t then [] else [⟨f, t⟩]
  | [x], f, t => if f ≥ t then [x] else if x.f1 ≥ f then [⟨x.f0, max x.f1 t⟩] else [x, ⟨f, t⟩]
  | x :: y :: ys, f, t => x :: addB (y :: ys) f t
/-- All spans but for the last one end ahead of f; the last one begins at f at most. -/
def Rdy (f : Int) : List S24 → Prop
  | [] => True
  | [x] => x.f0 ≤ f
  | x :: y :: ys => Rdy f (y :: ys)
theorem addB_ch : ∀ {l : List S24} {a f t : Int}, Ch a l → Rdy f l → a < f → Ch a (addB l f t)
  | [], a, f, t, _, _, ha => by
    unfold addB
    split
    · trivial
    · exact ⟨ha, by show f < t; omega, trivial⟩
  | [x], a, f, t, h, hr, ha => by
    unfold addB
    obtain ⟨h1, h2, _⟩ := h
    have hr' : x.f0 ≤ f := hr
    split
    · exact ⟨h1, h2, trivial⟩
    · split
      · exact ⟨h1, by show x.f0 < max x.f1 t; omega, trivial⟩
      · exact ⟨h1, h2, by show x.f1 < f; omega, by show f < t; omega, trivial⟩
  | x :: y :: ys, a, f, t, h, hr, ha => by
    obtain ⟨h1, h2, h3⟩ := h
    refine ⟨h1, h2, ?_⟩
    by_cases q : x.f1 < f
    · exact addB_ch h3 hr q
    · exfalso
      have : ∀ (l : List S24) (b : Int), Ch b l → l ≠ [] → Rdy f l → b < f := by
        intro l
        induction l with
        | nil => intro b _ h; exact absurd rfl h
        | cons z zs ih =>
          intro b hb _ hr
          obtain ⟨b1, b2, b3⟩ := hb
          cases zs with
          | nil => have hr' : z.f0 ≤ f := hr; omega
          | cons u us => have := ih z.f1 b3 (by simp) hr; omega
      exact q (this (y :: ys) x.f1 h3 (by simp) hr)
theorem addB_has : ∀ {l : List S24} {a f t : Int}, Ch a l → Rdy f l → ∀ n, hasB (addB l f t) n = true ↔ hasB l n = true ∨ (f ≤ n ∧ n < t)
  | [], a, f, t, _, _, n => by
    unfold addB
    split
    · rw [hasB_nil]
      simp
      omega
    · rw [hasB_cons, hasB_nil]
      simp
  | [x], a, f, t, h, hr, n => by
    unfold addB
    obtain ⟨h1, h2, _⟩ := h
    have hr' : x.f0 ≤ f := hr
    split
    · rw [hasB_cons, hasB_nil]
      simp
      omega
    · split
      · rw [hasB_cons, hasB_cons, hasB_nil]
        simp
        omega
      · rw [hasB_cons, hasB_cons, hasB_cons, hasB_nil]
        simp
  | x :: y :: ys, a, f, t, h, hr, n => by
    show hasB (x :: addB (y :: ys) f t) n = true ↔ _
    rw [hasB_cons, addB_has h.2.2 hr n, hasB_cons x]
    simp [or_assoc]
theorem Rdy.le {f g : Int} (h : f ≤ g) : ∀ {l : List S24}, Rdy f l → Rdy g l
  | [], _ => trivial
  | [x], hr => by
    have : x.f0 ≤ f := hr
    show x.f0 ≤ g
    omega
  | x :: y :: ys, hr => Rdy.le h (l := y :: ys) hr
theorem addB_rdy : ∀ {l : List S24} {f t : Int}, Rdy f l → Rdy f (addB l f t)
  | [], f, t, _ => by
    unfold addB
    split
    · trivial
    · exact Int.le_refl f
  | [x], f, t, hr => by
    unfold addB
    split
    · exact hr
    · split
      · exact hr
      · exact Int.le_refl f
  | x :: y :: ys, f, t, hr => by
    have ih := addB_rdy (l := y :: ys) (t := t) hr
    show Rdy f (x :: addB (y :: ys) f t)
    have hne : addB (y :: ys) f t ≠ [] := by
      cases ys with
      | nil =>
        unfold addB
        split
        · simp
        · split <;> simp
      | cons z zs => simp [addB]
    cases h : addB (y :: ys) f t with
    | nil => exact absurd h hne
    | cons u us =>
      rw [h] at ih
      exact ih
/-- A chain's spans begin at f at most, if all its lengths are ahead of f. -/
theorem Rdy.of : ∀ {l : List S24} {a f : Int}, Ch a l → (∀ n, hasB l n = true → n ≤ f) → Rdy f l
  | [], _, _, _, _ => trivial
  | [x], _, _, h, hh => hh x.f0 ((hasB_cons _ _ _).2 (.inl ⟨Int.le_refl _, h.2.1⟩))
  | x :: y :: ys, _, _, h, hh => Rdy.of (l := y :: ys) h.2.2 fun n hn => hh n ((hasB_cons _ _ _).2 (.inr hn))

/-! ### Bands: all lengths from -2^30 to 2^30 -/
def rightB (l : List S24) : Prop := Ch (-1073741825) l ∧ ∀ x ∈ l, x.f1 ≤ 1073741824

/-! ### Sums -/
def lenB (l : List S24) : Int := (l.map fun x => x.f1 - x.f0).foldl (· + ·) 0
/-- How many numbers from a on, k of them, are so. -/
def cntB (p : Int → Bool) (a : Int) : Nat → Int
  | 0 => 0
  | k + 1 => cntB p a k + if p (a + k) = true then 1 else 0
theorem cntB_congr {p q : Int → Bool} (h : ∀ n, p n = q n) (a : Int) : ∀ k, cntB p a k = cntB q a k
  | 0 => rfl
  | k + 1 => by
    unfold cntB
    rw [cntB_congr h a k, h]
theorem cntB_add {p q r : Int → Bool} (h : ∀ n, p n = true ↔ q n = true ∨ r n = true) (hd : ∀ n, ¬ (q n = true ∧ r n = true)) (a : Int) : ∀ k, cntB p a k = cntB q a k + cntB r a k
  | 0 => rfl
  | k + 1 => by
    unfold cntB
    rw [cntB_add h hd a k]
    have h1 := h (a + k)
    have h2 := hd (a + k)
    cases hp : p (a + k) <;> cases hq : q (a + k) <;> cases hr : r (a + k) <;> simp_all <;> omega
theorem cntB_none {p : Int → Bool} (h : ∀ n, p n = false) (a : Int) : ∀ k, cntB p a k = 0
  | 0 => rfl
  | k + 1 => by
    unfold cntB
    rw [cntB_none h a k, h]
    rfl
theorem cntB_span (f t a : Int) (h0 : a ≤ f) (h1 : f ≤ t) : ∀ k : Nat, cntB (fun n => decide (f ≤ n) && decide (n < t)) a k = min (max (a + k) f) t - f
  | 0 => by
    unfold cntB
    omega
  | k + 1 => by
    unfold cntB
    rw [cntB_span f t a h0 h1 k]
    simp only [Bool.and_eq_true, decide_eq_true_eq]
    split <;> push_cast <;> omega
def ctB (p : Int → Bool) : Int := cntB p (-1073741825) 2147483650
theorem ct_add {p q r : Int → Bool} (h : ∀ n, p n = true ↔ q n = true ∨ r n = true) (hd : ∀ n, ¬ (q n = true ∧ r n = true)) : ctB p = ctB q + ctB r := cntB_add h hd _ _
theorem ct_congr {p q : Int → Bool} (h : ∀ n, p n = q n) : ctB p = ctB q := cntB_congr h _ _
theorem ct_span (f t : Int) (h0 : -1073741825 ≤ f) (h1 : f ≤ t) (h2 : t ≤ 1073741824) : ctB (fun n => decide (f ≤ n) && decide (n < t)) = t - f := by
  unfold ctB
  rw [cntB_span f t _ h0 h1]
  omega
theorem sum_from (n : Int) : ∀ l : List Int, l.foldl (· + ·) n = n + l.foldl (· + ·) 0
  | [] => by simp
  | x :: xs => by
    show xs.foldl (· + ·) (n + x) = n + xs.foldl (· + ·) (0 + x)
    rw [sum_from (n + x) xs, sum_from (0 + x) xs]
    omega
theorem lenB_cons (x : S24) (xs : List S24) : lenB (x :: xs) = (x.f1 - x.f0) + lenB xs := by
  show List.foldl (· + ·) (0 + (x.f1 - x.f0)) _ = _
  rw [sum_from]
  unfold lenB
  omega
theorem lenB_ct : ∀ {l : List S24} {a : Int}, -1073741825 ≤ a → Ch a l → (∀ x ∈ l, x.f1 ≤ 1073741824) → lenB l = ctB (hasB l)
  | [], a, _, _, _ => by
    unfold ctB
    rw [cntB_none (fun n => hasB_nil n)]
    rfl
  | x :: xs, a, ha, h, hm => by
    obtain ⟨h1, h2, h3⟩ := h
    have hx := hm x (by simp)
    have ih := lenB_ct (l := xs) (a := x.f1) (by omega) h3 (fun y hy => hm y (by simp [hy]))
    rw [lenB_cons, ih, ← ct_span x.f0 x.f1 (by omega) (by omega) hx]
    refine (ct_add (fun n => ?_) (fun n => ?_)).symm
    · rw [hasB_cons]
      simp
    · rintro ⟨q1, q2⟩
      have := h3.lt q2
      simp at q1
      omega

/-! ### Pieces, one behind the other -/
def foldP (ps : List (Int × Int)) (o : List S24) : List S24 := ps.foldl (fun o p => addB o p.1 p.2) o
/-- Pieces that are not empty begin at lo or behind, and rise. -/
def Srt : Int → List (Int × Int) → Prop
  | _, [] => True
  | lo, p :: ps => (p.1 < p.2 → lo ≤ p.1 ∧ Srt p.1 ps) ∧ (¬ p.1 < p.2 → Srt lo ps)
theorem Srt.le : ∀ {ps : List (Int × Int)} {a b : Int}, a ≤ b → Srt b ps → Srt a ps
  | [], _, _, _, _ => trivial
  | p :: ps, a, b, hab, h => ⟨fun q => ⟨by have := (h.1 q).1; omega, (h.1 q).2⟩, fun q => Srt.le hab (h.2 q)⟩
theorem addB_empty : ∀ {l : List S24} {f t : Int}, ¬ f < t → addB l f t = l
  | [], f, t, h => by
    unfold addB
    rw [if_pos (by omega)]
  | [x], f, t, h => by
    unfold addB
    rw [if_pos (by omega)]
  | x :: y :: ys, f, t, h => by
    unfold addB
    rw [addB_empty h]
theorem foldP_spec : ∀ (ps : List (Int × Int)) {o : List S24} {a lo : Int}, Ch a o → Rdy lo o → a < lo → Srt lo ps →
    Ch a (foldP ps o) ∧ ∀ n, hasB (foldP ps o) n = true ↔ hasB o n = true ∨ ∃ p ∈ ps, p.1 ≤ n ∧ n < p.2
  | [], o, a, lo, h, hr, ha, hs => ⟨h, fun n => by simp [foldP]⟩
  | p :: ps, o, a, lo, h, hr, ha, hs => by
    show Ch a (foldP ps (addB o p.1 p.2)) ∧ ∀ n, hasB (foldP ps (addB o p.1 p.2)) n = true ↔ _
    by_cases q : p.1 < p.2
    · obtain ⟨q1, q2⟩ := hs.1 q
      have hr' : Rdy p.1 o := hr.le q1
      obtain ⟨i1, i2⟩ := foldP_spec ps (addB_ch (t := p.2) h hr' (by omega)) (addB_rdy hr') (by omega) q2
      refine ⟨i1, fun n => ?_⟩
      rw [i2 n, addB_has h hr' n]
      simp [or_assoc]
    · rw [addB_empty q]
      obtain ⟨i1, i2⟩ := foldP_spec ps h hr ha (hs.2 q)
      refine ⟨i1, fun n => ?_⟩
      rw [i2 n]
      simp only [List.mem_cons, exists_eq_or_imp]
      refine or_congr_right ⟨.inr, fun e => e.resolve_left fun e => ?_⟩
      omega
theorem Srt.append : ∀ {ps qs : List (Int × Int)} {lo hi : Int}, Srt lo ps → lo ≤ hi → (∀ p ∈ ps, p.1 < p.2 → p.1 ≤ hi) → Srt hi qs → Srt lo (ps ++ qs)
  | [], qs, lo, hi, _, hh, _, hq => hq.le hh
  | p :: ps, qs, lo, hi, h, hh, hp, hq => ⟨fun q => ⟨(h.1 q).1, Srt.append (h.1 q).2 (hp p (by simp) q) (fun r hr => hp r (by simp [hr])) hq⟩, fun q => Srt.append (h.2 q) hh (fun r hr => hp r (by simp [hr])) hq⟩
theorem hasB_mem {l : List S24} {n : Int} : hasB l n = true ↔ ∃ x ∈ l, x.f0 ≤ n ∧ n < x.f1 := by simp [hasB]

/-- What a band made of pieces tells. -/
theorem band_of (ps : List (Int × Int)) (hs : Srt (-1073741824) ps) (hm : ∀ p ∈ ps, p.1 < p.2 → p.2 ≤ 1073741824) :
    rightB (foldP ps []) ∧ ∀ n, hasB (foldP ps []) n = true ↔ ∃ p ∈ ps, p.1 ≤ n ∧ n < p.2 := by
  obtain ⟨h1, h2⟩ := foldP_spec ps (o := []) (a := -1073741825) (lo := -1073741824) trivial trivial (by omega) hs
  have h3 : ∀ n, hasB (foldP ps []) n = true ↔ ∃ p ∈ ps, p.1 ≤ n ∧ n < p.2 := fun n => by rw [h2 n, hasB_nil]; simp
  refine ⟨⟨h1, fun x hx => ?_⟩, h3⟩
  have hpos : ∀ (l : List S24) (a : Int), Ch a l → ∀ x ∈ l, x.f0 < x.f1 := by
    intro l
    induction l with
    | nil => intro a _ x hx; cases hx
    | cons y ys ih =>
      intro a h x hx
      rcases List.mem_cons.1 hx with rfl | hx
      · exact h.2.1
      · exact ih _ h.2.2 x hx
  have hlt := hpos _ _ h1 x hx
  obtain ⟨p, hp, q1, q2⟩ := (h3 (x.f1 - 1)).1 (hasB_mem.2 ⟨x, hx, by omega, by omega⟩)
  have := hm p hp (by omega)
  omega
theorem right_ext {l m : List S24} (hl : rightB l) (hm : rightB m) (h : ∀ n, hasB l n = true ↔ hasB m n = true) : l = m :=
  Ch.ext hl.1 hm.1 fun n => Bool.eq_iff_iff.2 (h n)
theorem right_range {l : List S24} (hl : rightB l) {n : Int} (h : hasB l n = true) : -1073741825 < n ∧ n < 1073741824 := by
  refine ⟨hl.1.lt h, ?_⟩
  obtain ⟨x, hx, q1, q2⟩ := hasB_mem.1 h
  have := hl.2 x hx
  omega
theorem ch_mem : ∀ {l : List S24} {a : Int}, Ch a l → ∀ x ∈ l, a < x.f0 ∧ x.f0 < x.f1
  | [], _, _, x, hx => by cases hx
  | y :: ys, a, h, x, hx => by
    rcases List.mem_cons.1 hx with rfl | hx
    · exact ⟨h.1, h.2.1⟩
    · have := ch_mem h.2.2 x hx
      have := h.1
      have := h.2.1
      omega

/-! ### A span taken out -/
def cutP (x y : S24) : List (Int × Int) := if y = x then [] else [(y.f0, min y.f1 x.f0), (max y.f0 x.f1, y.f1)]
def lessB (l : List S24) (x : S24) : List S24 := foldP (l.flatMap (cutP x)) []
theorem cut_srt (x : S24) (hx : x.f0 < x.f1) : ∀ {l : List S24} {a : Int}, Ch a l → Srt (a + 1) (l.flatMap (cutP x))
  | [], _, _ => trivial
  | y :: ys, a, h => by
    obtain ⟨h1, h2, h3⟩ := h
    rw [List.flatMap_cons]
    have ih := cut_srt x hx h3
    refine Srt.append (hi := y.f1 + 1) ?_ (by omega) ?_ ih
    · unfold cutP
      split
      · trivial
      · refine ⟨fun q => ⟨by show a + 1 ≤ y.f0; omega, ?_⟩, fun q => ?_⟩
        · have q' : y.f0 < min y.f1 x.f0 := q
          exact ⟨fun _ => ⟨by show y.f0 ≤ max y.f0 x.f1; omega, trivial⟩, fun _ => trivial⟩
        · exact ⟨fun _ => ⟨by show a + 1 ≤ max y.f0 x.f1; omega, trivial⟩, fun _ => trivial⟩
    · intro p hp q
      unfold cutP at hp
      split at hp
      · cases hp
      · simp at hp
        rcases hp with rfl | rfl
        · have q' : y.f0 < min y.f1 x.f0 := q
          show y.f0 ≤ y.f1 + 1
          omega
        · have q' : max y.f0 x.f1 < y.f1 := q
          show max y.f0 x.f1 ≤ y.f1 + 1
          omega
theorem less_spec {l : List S24} (x : S24) (hl : rightB l) (hx : x.f0 < x.f1) : rightB (lessB l x) ∧ ∀ n, hasB (lessB l x) n = true ↔ hasB l n = true ∧ ¬ (x.f0 ≤ n ∧ n < x.f1) := by
  obtain ⟨h1, h2⟩ := band_of (l.flatMap (cutP x)) (cut_srt x hx hl.1) (fun p hp q => by
    obtain ⟨y, hy, hp⟩ := List.mem_flatMap.1 hp
    have := hl.2 y hy
    unfold cutP at hp
    split at hp
    · cases hp
    · simp at hp
      rcases hp with rfl | rfl
      · show min y.f1 x.f0 ≤ _
        omega
      · exact this)
  refine ⟨h1, fun n => ?_⟩
  show hasB (foldP (l.flatMap (cutP x)) []) n = true ↔ _
  rw [h2 n, hasB_mem]
  constructor
  · rintro ⟨p, hp, q1, q2⟩
    obtain ⟨y, hy, hp⟩ := List.mem_flatMap.1 hp
    unfold cutP at hp
    split at hp
    · cases hp
    · simp at hp
      rcases hp with rfl | rfl
      · simp only at q1 q2
        exact ⟨⟨y, hy, by omega, by omega⟩, by omega⟩
      · simp only at q1 q2
        exact ⟨⟨y, hy, by omega, by omega⟩, by omega⟩
  · rintro ⟨⟨y, hy, q1, q2⟩, q3⟩
    have hne : y ≠ x := fun e => q3 (e ▸ ⟨q1, q2⟩)
    by_cases q4 : n < x.f0
    · exact ⟨(y.f0, min y.f1 x.f0), List.mem_flatMap.2 ⟨y, hy, by unfold cutP; rw [if_neg hne]; simp⟩, q1, by show n < min y.f1 x.f0; omega⟩
    · exact ⟨(max y.f0 x.f1, y.f1), List.mem_flatMap.2 ⟨y, hy, by unfold cutP; rw [if_neg hne]; simp⟩, by show max y.f0 x.f1 ≤ n; omega, q2⟩

/-! ### What two have -/
def metP (b : List S24) (y : S24) : List (Int × Int) := b.map fun x => (max x.f0 y.f0, min x.f1 y.f1)
def bothB (a b : List S24) : List S24 := foldP (a.flatMap (metP b)) []
theorem met_srt (y : S24) : ∀ {b : List S24} {c : Int}, Ch c b → Srt y.f0 (metP b y)
  | [], _, _ => trivial
  | x :: xs, c, h => by
    have gen : ∀ {b : List S24} {c lo : Int}, Ch c b → lo ≤ max (c + 1) y.f0 → Srt lo (metP b y) := by
      intro b
      induction b with
      | nil => intro c lo _ _; trivial
      | cons x xs ih =>
        intro c lo h hlo
        obtain ⟨h1, h2, h3⟩ := h
        exact ⟨fun q => ⟨by show lo ≤ max x.f0 y.f0; omega, ih h3 (by show max x.f0 y.f0 ≤ _; omega)⟩, fun q => ih h3 (by omega)⟩
    exact gen h (by omega)
theorem both_srt (b : List S24) (c : Int) (hb : Ch c b) : ∀ {a : List S24} {d : Int}, Ch d a → Srt (d + 1) (a.flatMap (metP b))
  | [], _, _ => trivial
  | y :: ys, d, h => by
    obtain ⟨h1, h2, h3⟩ := h
    rw [List.flatMap_cons]
    refine Srt.append (hi := y.f1 + 1) ((met_srt y hb).le (by omega)) (by omega) ?_ (both_srt b c hb h3)
    intro p hp q
    obtain ⟨x, _, rfl⟩ := List.mem_map.1 hp
    have q' : max x.f0 y.f0 < min x.f1 y.f1 := q
    show max x.f0 y.f0 ≤ y.f1 + 1
    omega
theorem both_spec {a b : List S24} (ha : rightB a) (hb : rightB b) : rightB (bothB a b) ∧ ∀ n, hasB (bothB a b) n = true ↔ hasB a n = true ∧ hasB b n = true := by
  obtain ⟨h1, h2⟩ := band_of (a.flatMap (metP b)) (both_srt b _ hb.1 ha.1) (fun p hp q => by
    obtain ⟨y, hy, hp⟩ := List.mem_flatMap.1 hp
    obtain ⟨x, hx, rfl⟩ := List.mem_map.1 hp
    have := ha.2 y hy
    show min x.f1 y.f1 ≤ _
    omega)
  refine ⟨h1, fun n => ?_⟩
  show hasB (foldP (a.flatMap (metP b)) []) n = true ↔ _
  rw [h2 n, hasB_mem, hasB_mem]
  constructor
  · rintro ⟨p, hp, q1, q2⟩
    obtain ⟨y, hy, hp⟩ := List.mem_flatMap.1 hp
    obtain ⟨x, hx, rfl⟩ := List.mem_map.1 hp
    simp only at q1 q2
    exact ⟨⟨y, hy, by omega, by omega⟩, ⟨x, hx, by omega, by omega⟩⟩
  · rintro ⟨⟨y, hy, q1, q2⟩, ⟨x, hx, q3, q4⟩⟩
    exact ⟨(max x.f0 y.f0, min x.f1 y.f1), List.mem_flatMap.2 ⟨y, hy, List.mem_map.2 ⟨x, hx, rfl⟩⟩, by show max x.f0 y.f0 ≤ n; omega, by show n < min x.f1 y.f1; omega⟩

/-! ### A span put in -/
def putP (d : List S24) : List (Int × Int) := d.map fun y => (y.f0, y.f1)
def insB (x : S24) : List S24 → List S24
  | [] => [x]
  | y :: ys => if x.f0 ≤ y.f0 then x :: y :: ys else y :: insB x ys
def plusB (l : List S24) (x : S24) : List S24 := foldP (putP (insB x l)) []
def Up (d : List S24) : Prop := d.Pairwise fun x y => x.f0 ≤ y.f0
theorem put_srt : ∀ {d : List S24} {lo : Int}, Up d → (∀ y ∈ d, lo ≤ y.f0) → Srt lo (putP d)
  | [], _, _, _ => trivial
  | y :: ys, lo, h, hlo => by
    obtain ⟨h1, h2⟩ := List.pairwise_cons.1 h
    exact ⟨fun q => ⟨hlo y (by simp), put_srt h2 h1⟩, fun q => put_srt h2 fun z hz => hlo z (by simp [hz])⟩
theorem put_spec (d : List S24) (hu : Up d) (h : ∀ y ∈ d, -1073741824 ≤ y.f0 ∧ y.f1 ≤ 1073741824) : rightB (foldP (putP d) []) ∧ ∀ n, hasB (foldP (putP d) []) n = true ↔ hasB d n = true := by
  obtain ⟨h1, h2⟩ := band_of (putP d) (put_srt hu fun y hy => (h y hy).1) (fun p hp q => by
    obtain ⟨y, hy, rfl⟩ := List.mem_map.1 hp
    exact (h y hy).2)
  refine ⟨h1, fun n => ?_⟩
  rw [h2 n, hasB_mem]
  constructor
  · rintro ⟨p, hp, q1, q2⟩
    obtain ⟨y, hy, rfl⟩ := List.mem_map.1 hp
    exact ⟨y, hy, q1, q2⟩
  · rintro ⟨y, hy, q1, q2⟩
    exact ⟨(y.f0, y.f1), List.mem_map.2 ⟨y, hy, rfl⟩, q1, q2⟩
theorem ins_mem (x : S24) : ∀ (l : List S24) (z : S24), z ∈ insB x l ↔ z = x ∨ z ∈ l
  | [], z => by simp [insB]
  | y :: ys, z => by
    unfold insB
    split
    · simp
    · rw [List.mem_cons, ins_mem x ys, List.mem_cons]
      exact ⟨fun e => by rcases e with e | e | e <;> simp [e], fun e => by rcases e with e | e | e <;> simp [e]⟩
theorem ins_up (x : S24) : ∀ {l : List S24}, Up l → Up (insB x l)
  | [], _ => by simp [insB, Up]
  | y :: ys, h => by
    obtain ⟨h1, h2⟩ := List.pairwise_cons.1 h
    unfold insB
    split
    · next q =>
      refine List.pairwise_cons.2 ⟨fun z hz => ?_, h⟩
      rcases List.mem_cons.1 hz with rfl | hz
      · exact q
      · have := h1 z hz
        omega
    · next q =>
      refine List.pairwise_cons.2 ⟨fun z hz => ?_, ins_up x h2⟩
      rcases (ins_mem x ys z).1 hz with rfl | hz
      · omega
      · exact h1 z hz
theorem ch_up : ∀ {l : List S24} {a : Int}, Ch a l → Up l
  | [], _, _ => List.Pairwise.nil
  | y :: ys, a, h => by
    refine List.pairwise_cons.2 ⟨fun z hz => ?_, ch_up h.2.2⟩
    have := (ch_mem h.2.2 z hz).1
    have := h.2.1
    omega
def spanB (x : S24) : Prop := -1073741824 ≤ x.f0 ∧ x.f0 < x.f1 ∧ x.f1 ≤ 1073741824
theorem right_mem {l : List S24} (hl : rightB l) : ∀ y ∈ l, spanB y := fun y hy => by
  have h1 := ch_mem hl.1 y hy
  have h2 := hl.2 y hy
  unfold spanB
  omega
theorem plus_any {l d : List S24} {x : S24} (hl : rightB l) (hx : spanB x) (hu : Up d) (hm : ∀ z, z ∈ d ↔ z = x ∨ z ∈ l) :
    rightB (foldP (putP d) []) ∧ ∀ n, hasB (foldP (putP d) []) n = true ↔ hasB l n = true ∨ (x.f0 ≤ n ∧ n < x.f1) := by
  obtain ⟨h1, h2⟩ := put_spec d hu fun y hy => by
    rcases (hm y).1 hy with rfl | hy
    · exact ⟨hx.1, hx.2.2⟩
    · have := right_mem hl y hy
      exact ⟨this.1, this.2.2⟩
  refine ⟨h1, fun n => ?_⟩
  rw [h2 n, hasB_mem, hasB_mem]
  constructor
  · rintro ⟨y, hy, q⟩
    rcases (hm y).1 hy with rfl | hy
    · exact .inr q
    · exact .inl ⟨y, hy, q⟩
  · rintro (⟨y, hy, q⟩ | q)
    · exact ⟨y, (hm y).2 (.inr hy), q⟩
    · exact ⟨x, (hm x).2 (.inl rfl), q⟩
theorem plus_spec {l : List S24} {x : S24} (hl : rightB l) (hx : spanB x) : rightB (plusB l x) ∧ ∀ n, hasB (plusB l x) n = true ↔ hasB l n = true ∨ (x.f0 ≤ n ∧ n < x.f1) :=
  plus_any hl hx (ins_up x (ch_up hl.1)) (ins_mem x l)
/-- However they are sorted: the same band. -/
theorem plus_sorted {l d : List S24} {x : S24} (hl : rightB l) (hx : spanB x) (hu : Up d) (hm : ∀ z, z ∈ d ↔ z = x ∨ z ∈ l) : foldP (putP d) [] = plusB l x := by
  obtain ⟨h1, h2⟩ := plus_any hl hx hu hm
  obtain ⟨h3, h4⟩ := plus_spec hl hx
  exact right_ext h1 h3 fun n => by rw [h2, h4]

/-! ### What is told -/
def chD : Int → List S24 → Bool
  | _, [] => true
  | a, x :: xs => decide (a < x.f0) && (decide (x.f0 < x.f1) && (decide (x.f1 ≤ 1073741824) && chD x.f1 xs))
def rightD (l : List S24) : Bool := chD (-1073741825) l
theorem chD_iff : ∀ (l : List S24) (a : Int), chD a l = true ↔ Ch a l ∧ ∀ x ∈ l, x.f1 ≤ 1073741824
  | [], a => by simp [chD, Ch]
  | x :: xs, a => by
    unfold chD Ch
    simp only [Bool.and_eq_true, decide_eq_true_eq, chD_iff xs x.f1, List.mem_cons, forall_eq_or_imp]
    exact ⟨fun ⟨h1, h2, h3, h4, h5⟩ => ⟨⟨h1, h2, h4⟩, h3, h5⟩, fun ⟨⟨h1, h2, h4⟩, h3, h5⟩ => ⟨h1, h2, h3, h4, h5⟩⟩
theorem rightD_iff (l : List S24) : rightD l = true ↔ rightB l := chD_iff l _
theorem rightD_one (x : S24) : rightD [x] = true ↔ spanB x := by
  rw [rightD_iff]
  unfold rightB Ch Ch spanB
  simp
  omega
def firstB (l : List S24) (need : Int) : Int × Bool :=
  if 0 ≤ need ∧ rightD l = true then (match l.find? (fun x => decide (need ≤ x.f1 - x.f0)) with | some x => (x.f0, true) | none => (0, false)) else (0, false)
def band_Plus.f (l0 : List (S24)) (a1_0 : Int) (a1_1 : Int) : Option ((List (S24)) × Int) :=
  if l0.length ≤ 1000 then (if (rightD l0 && rightD [⟨a1_0, a1_1⟩]) = true then some (plusB l0 ⟨a1_0, a1_1⟩, 0) else some ([], 30)) else none
def band_Less.f (l0 : List (S24)) (a1_0 : Int) (a1_1 : Int) : Option ((List (S24)) × Int) :=
  if l0.length ≤ 1000 then (if (rightD l0 && rightD [⟨a1_0, a1_1⟩]) = true then some (lessB l0 ⟨a1_0, a1_1⟩, 0) else some ([], 30)) else none
def band_Both.f (l0 : List (S24)) (l1 : List (S24)) : Option ((List (S24)) × Int) :=
  if l0.length ≤ 1000 ∧ l1.length ≤ 1000 then (if (rightD l0 && rightD l1) = true then some (bothB l0 l1, 0) else some ([], 30)) else none
def band_Total.f (l0 : List (S24)) : Option (Int) := if l0.length ≤ 1000 then some (if rightD l0 = true then lenB l0 else 0) else none
def band_First.f (l0 : List (S24)) (a1 : Int) : Option (Int × Bool) := if l0.length ≤ 1000 then some (firstB l0 a1) else none

/-! ### All ends, rising -/
def endsB : List S24 → List Int
  | [] => []
  | x :: xs => x.f0 :: x.f1 :: endsB xs
/-- A number put in, behind those that are not greater. -/
def insI (x : Int) : List Int → List Int
  | [] => [x]
  | y :: ys => if y ≤ x then y :: insI x ys else x :: y :: ys
def sortI (l : List Int) : List Int := l.foldl (fun o x => insI x o) []
def gutterref03_marks.f (l0 : List (S24)) (l1 : List (S24)) : Option (List Int) := if l0.length ≤ 1000 ∧ l1.length ≤ 1000 then some (sortI (endsB (l0 ++ l1))) else none

end Go.Proofs.YtomgpbhkoellpaaDoor.P
