/-
  Layer 2 in plain Lean: octets laid, and read.
-/
namespace Go.Proofs.Ytgmmdnilnmoknaa

/-- One octet, laid. -/
def one (c : UInt8) : List UInt8 := if c = 255 then [255, 255] else if c = 13 then [13, 10] else [c]
def nlay (l : List UInt8) : List UInt8 := l.flatMap one

/-- Does the octet begin a pair that is read as one? (the next one) -/
def pair (c : UInt8) (n : Option UInt8) : Bool := c == 255 || (c == 13 && (n == some 10 || n == some 0))
def stop (c : UInt8) (n : Option UInt8) : Bool := c == 255 && n != some 255
def read : List UInt8 → List UInt8 × Nat
  | [] => ([], 0)
  | [c] => if stop c none then ([], 0) else ([c], 1)
  | c :: d :: t =>
    if stop c (some d) then ([], 0)
    else if pair c (some d) then (c :: (read t).1, (read t).2 + 2)
    else (c :: (read (d :: t)).1, (read (d :: t)).2 + 1)

theorem nlay_nil : nlay [] = [] := rfl
theorem nlay_cons (c : UInt8) (l : List UInt8) : nlay (c :: l) = one c ++ nlay l := by simp [nlay]
theorem nlay_append (a b : List UInt8) : nlay (a ++ b) = nlay a ++ nlay b := by simp [nlay]

theorem one_cases (c : UInt8) : (c = 255 ∧ one c = [255, 255]) ∨ (c = 13 ∧ one c = [13, 10]) ∨ (c ≠ 255 ∧ c ≠ 13 ∧ one c = [c]) := by
  unfold one
  by_cases h : c = 255
  · simp [h]
  · by_cases h1 : c = 13
    · simp [h1]
    · simp [h, h1]

theorem read_255 (t : List UInt8) : read (255 :: 255 :: t) = (255 :: (read t).1, (read t).2 + 2) := by simp [read, stop, pair]
theorem read_13 (t : List UInt8) : read (13 :: 10 :: t) = (13 :: (read t).1, (read t).2 + 2) := by simp [read, stop, pair]
theorem read_other (c : UInt8) (t : List UInt8) (h : c ≠ 255) (h1 : c ≠ 13) : read (c :: t) = (c :: (read t).1, (read t).2 + 1) := by
  cases t <;> simp [read, stop, pair, h, h1]

/-- What was laid is read, and what comes behind is read as it is. -/
theorem read_lay_append (b t : List UInt8) : read (nlay b ++ t) = (b ++ (read t).1, (nlay b).length + (read t).2) := by
  induction b with
  | nil => simp [nlay_nil]
  | cons c b ih =>
    rw [nlay_cons]
    rcases one_cases c with ⟨rfl, ho⟩ | ⟨rfl, ho⟩ | ⟨h, h1, ho⟩ <;> rw [ho]
    · show read (255 :: 255 :: (nlay b ++ t)) = _
      rw [read_255, ih]; simp; omega
    · show read (13 :: 10 :: (nlay b ++ t)) = _
      rw [read_13, ih]; simp; omega
    · show read (c :: (nlay b ++ t)) = _
      rw [read_other _ _ h h1, ih]; simp; omega

theorem read_nil : read [] = ([], 0) := by simp [read]
theorem read_lay (b : List UInt8) : read (nlay b) = (b, (nlay b).length) := by
  have := read_lay_append b []
  simpa [read_nil] using this
theorem read_cmd (b : List UInt8) (c : UInt8) (h : c ≠ 255) : read (nlay b ++ [255, c]) = (b, (nlay b).length) := by
  rw [read_lay_append]; simp [read, stop, h]

def two (c : UInt8) : Bool := c == 255 || c == 13
def size (l : List UInt8) : Nat := l.length + l.countP two
theorem size_lay (l : List UInt8) : size l = (nlay l).length := by
  induction l with
  | nil => rfl
  | cons c l ih =>
    unfold size at ih ⊢
    rw [nlay_cons, List.countP_cons, List.length_append, ← ih]
    rcases one_cases c with ⟨rfl, ho⟩ | ⟨rfl, ho⟩ | ⟨h, h1, ho⟩ <;> rw [ho] <;> simp [two, *] <;> omega
theorem size_append (a b : List UInt8) : size (a ++ b) = size a + size b := by simp [size]; omega
theorem nlay_le (l : List UInt8) : (nlay l).length ≤ 2 * l.length := by
  rw [← size_lay, size]; have := List.countP_le_length (p := two) (l := l); omega
theorem le_lay (l : List UInt8) : l.length ≤ (nlay l).length := by rw [← size_lay, size]; omega

theorem nlay_inj {a b : List UInt8} (h : nlay a = nlay b) : a = b := by
  have h1 := read_lay a; rw [h, read_lay] at h1
  injection h1 with h1 h2
  exact h1.symm

def odd (l : List UInt8) : Bool := l.any two
theorem plain_odd (l : List UInt8) : (size l == l.length) = !odd l := by
  rw [Bool.eq_iff_iff]; simp [size, odd, List.countP_eq_zero]
theorem nlay_self (l : List UInt8) (h : odd l = false) : nlay l = l := by
  induction l with
  | nil => rfl
  | cons c l ih =>
    simp [odd] at h ih ⊢
    rw [nlay_cons, ih h.2]
    rcases one_cases c with ⟨rfl, ho⟩ | ⟨rfl, ho⟩ | ⟨h, h1, ho⟩
    · simp [two] at h
    · simp [two] at h
    · rw [ho]; rfl
/-- It lies as it is if it is as long, laid. -/
theorem plain_lay (l : List UInt8) : (size l == l.length) = (nlay l == l) := by
  rw [Bool.eq_iff_iff]
  simp only [beq_iff_eq]
  constructor
  · intro h
    apply nlay_self
    have := plain_odd l
    simp [h] at this; simpa using this
  · intro h
    rw [size_lay, h]

/-- The end of what is read. -/
theorem read_end (b : List UInt8) : (read b).2 ≤ b.length ∧ (read b).1.length ≤ (read b).2 ∧
    ((read b).2 = b.length ∨ b[(read b).2]? = some 255 ∧ ((read b).2 + 1 = b.length ∨ ∃ d, b[(read b).2 + 1]? = some d ∧ d ≠ 255)) := by
  fun_induction read b with
  | case1 => simp
  | case2 c h => simp [stop] at h; simp [h]
  | case3 c h => simp
  | case4 c d t h => simp [stop] at h; simp [h]
  | case5 c d t h h1 ih =>
    obtain ⟨i1, i2, i3⟩ := ih
    refine ⟨by simp; omega, by simp; omega, ?_⟩
    rcases i3 with i3 | ⟨i3, i4⟩
    · left; simp; omega
    · right
      refine ⟨by simpa using i3, ?_⟩
      rcases i4 with i4 | ⟨x, i4, i5⟩
      · left; simp; omega
      · right; exact ⟨x, by simpa [show (read t).2 + 2 + 1 = (read t).2 + 1 + 2 by omega] using i4, i5⟩
  | case6 c d t h h1 ih =>
    obtain ⟨i1, i2, i3⟩ := ih
    refine ⟨by simp at i1 ⊢; omega, by simp; omega, ?_⟩
    rcases i3 with i3 | ⟨i3, i4⟩
    · left; simp at i3 ⊢; omega
    · right
      refine ⟨by simpa using i3, ?_⟩
      rcases i4 with i4 | ⟨x, i4, i5⟩
      · left; simp at i4 ⊢; omega
      · right; exact ⟨x, by simpa using i4, i5⟩

/-- Of what was laid, cut off anywhere, the beginning is read. -/
theorem read_cut (b : List UInt8) (k : Nat) (hk : k ≤ (nlay b).length) : (read ((nlay b).take k)).1 <+: b ∧ k - (read ((nlay b).take k)).2 ≤ 1 := by
  induction b generalizing k with
  | nil => simp [nlay_nil] at hk ⊢; subst hk; simp [read]
  | cons c b ih =>
    rw [nlay_cons] at hk ⊢
    rcases one_cases c with ⟨rfl, ho⟩ | ⟨rfl, ho⟩ | ⟨h, h1, ho⟩ <;> rw [ho] at hk ⊢
    · match k, hk with
      | 0, _ => simp [read]
      | 1, _ => simp [read, stop]
      | k + 2, hk =>
        simp at hk
        have := ih k hk
        simp only [List.cons_append, List.nil_append, List.take_succ_cons, read_255]
        exact ⟨by simpa using this.1, by simp; omega⟩
    · match k, hk with
      | 0, _ => simp [read]
      | 1, _ => simp [read, stop]
      | k + 2, hk =>
        simp at hk
        have := ih k hk
        simp only [List.cons_append, List.nil_append, List.take_succ_cons, read_13]
        exact ⟨by simpa using this.1, by simp; omega⟩
    · match k, hk with
      | 0, _ => simp [read]
      | k + 1, hk =>
        simp at hk
        have := ih k hk
        simp only [List.cons_append, List.nil_append, List.take_succ_cons, read_other _ _ h h1]
        exact ⟨by simpa using this.1, by simp; omega⟩
end Go.Proofs.Ytgmmdnilnmoknaa
