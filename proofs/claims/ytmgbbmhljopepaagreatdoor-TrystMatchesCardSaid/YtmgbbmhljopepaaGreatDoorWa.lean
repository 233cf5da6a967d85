/- A part of the proofs of the seat YtmgbbmhljopepaaGreatDoor: the contracts of functions, each proved out of its code. -/
import Derived.Test.YtmgbbmhljopepaaGreatDoorVe
import Derived.Lib.Bytealg
namespace Go.Vc
set_option linter.unusedSimpArgs false
set_option linter.unusedVariables false
abbrev mkB (l : List UInt8) : ByteArray := ⟨⟨l⟩⟩
theorem mkB_inj {a b : List UInt8} (h : mkB a = mkB b) : a = b := by injection h with h; injection h
theorem mkB_list (s : ByteArray) : mkB s.data.toList = s := by cases s; rfl
abbrev sDot : ByteArray := ⟨#[46]⟩
abbrev sAny : ByteArray := ⟨#[42]⟩
abbrev sAll : ByteArray := ⟨#[42, 42]⟩
def dotAt (s : ByteArray) : Int := Lib.indexByte s.data.toList 46
def consH (c : UInt8) : List (List UInt8) → List (List UInt8)
 | [] => [[c]]
 | p :: ps => (c :: p) :: ps
def cutL : List UInt8 → List (List UInt8)
 | [] => [[]]
 | c :: l => if c = 46 then [] :: cutL l else consH c (cutL l)
theorem cutL_ne : ∀ l, cutL l ≠ []
 | [] => by simp [cutL]
 | c :: l => by
  unfold cutL; split
  ·simp
  ·cases h : cutL l <;> simp [consH]
def cutS (s : ByteArray) : List ByteArray := (cutL s.data.toList).map mkB
theorem cutS_ne (s : ByteArray) : cutS s ≠ [] := by simp [cutS, cutL_ne]
theorem cutS_pos (s : ByteArray) : 0 < (cutS s).length := List.length_pos_iff.2 (cutS_ne s)
theorem indexByte_lt : ∀ (l : List UInt8) (c : UInt8), Lib.indexByte l c = -1 ∨ 0 ≤ Lib.indexByte l c ∧ Lib.indexByte l c < l.length
 | [], _ => .inl rfl
 | b :: l, c => by
  have ih := indexByte_lt l c
  simp only [Lib.indexByte]
  split
  ·right; simp only [List.length_cons]; omega
  ·split
   ·exact .inl rfl
   ·rename_i h; right
    have : Lib.indexByte l c ≠ -1 := by simpa using h
    simp only [List.length_cons]
    omega
theorem dotAt_lt (s : ByteArray) : dotAt s = -1 ∨ 0 ≤ dotAt s ∧ dotAt s < s.size := by
 have := indexByte_lt s.data.toList 46
 simpa [dotAt] using this
theorem cutL_none : ∀ l : List UInt8, Lib.indexByte l 46 = -1 → cutL l = [l]
 | [], _ => rfl
 | b :: l, h => by
  simp only [Lib.indexByte] at h
  split at h
  ·omega
  ·rename_i hb
   have hb' : b ≠ 46 := by simpa using hb
   have hl : Lib.indexByte l 46 = -1 := by
    split at h
    ·rename_i h2; simpa using h2
    ·rename_i h2
     have := indexByte_lt l 46
     have h3 : Lib.indexByte l 46 ≠ -1 := by simpa using h2
     omega
   simp [cutL, hb', cutL_none l hl, consH]
theorem cutL_some : ∀ l : List UInt8, 0 ≤ Lib.indexByte l 46 → cutL l = l.take (Lib.indexByte l 46).toNat :: cutL (l.drop ((Lib.indexByte l 46).toNat + 1))
 | [], h => by simp [Lib.indexByte] at h
 | b :: l, h => by
  by_cases hb : b = 46
  ·subst hb
   have e : Lib.indexByte (46 :: l) 46 = 0 := by simp [Lib.indexByte]
   rw [e]; simp [cutL]
  ·have hb' : (b == 46) = false := by simpa using hb
   rcases indexByte_lt l 46 with h1 | h1
   ·simp [Lib.indexByte, hb', h1] at h
   ·have hne : (Lib.indexByte l 46 == -1) = false := by simp; omega
    have e : Lib.indexByte (b :: l) 46 = Lib.indexByte l 46 + 1 := by simp [Lib.indexByte, hb', hne]
    rw [e]
    have e2 : (Lib.indexByte l 46 + 1).toNat = (Lib.indexByte l 46).toNat + 1 := by omega
    rw [e2, List.take_succ_cons, List.drop_succ_cons]
    simp only [cutL, hb, if_false]
    rw [cutL_some l h1.1]
    rfl
def cutB (s : ByteArray) : ByteArray := if 0 ≤ dotAt s then s.extract 0 (dotAt s).toNat else s
def cutA (s : ByteArray) : ByteArray := if 0 ≤ dotAt s then s.extract ((dotAt s).toNat + 1) s.size else ⟨#[]⟩
theorem extract_list (s : ByteArray) (a b : Nat) : (s.extract a b).data.toList = (s.data.toList.drop a).take (b - a) := by
 rw [ByteArray.data_extract, Array.toList_extract]
theorem ext_list {a b : ByteArray} (h : a.data.toList = b.data.toList) : a = b := by
 cases a; cases b; simp only at h; rw [Array.toList_inj.1 h]
theorem cutS_none {s : ByteArray} (h : ¬ 0 ≤ dotAt s) : cutS s = [s] := by
 have h1 : Lib.indexByte s.data.toList 46 = -1 := by rcases dotAt_lt s with h2 | h2; exact h2; omega
 unfold cutS
 rw [cutL_none _ h1, List.map_cons, List.map_nil, mkB_list]
theorem cutS_some {s : ByteArray} (h : 0 ≤ dotAt s) : cutS s = cutB s :: cutS (cutA s) := by
 unfold cutS
 rw [cutL_some _ h, List.map_cons]
 have e1 : mkB (s.data.toList.take (Lib.indexByte s.data.toList 46).toNat) = cutB s := ext_list (by
  unfold cutB; rw [if_pos h, extract_list]; simp [dotAt])
 have e2 : (cutA s).data.toList = s.data.toList.drop ((Lib.indexByte s.data.toList 46).toNat + 1) := by
  unfold cutA; rw [if_pos h, extract_list]
  rw [List.take_of_length_le (by simp [dotAt])]
  rfl
 rw [e1, e2]
theorem cutA_size (s : ByteArray) : (cutA s).size ≤ s.size := by
 unfold cutA; split
 ·rw [ByteArray.size_extract]; omega
 ·exact Nat.zero_le _
def okR (r : Int) : Bool := decide (97 ≤ r ∧ r ≤ 122) || decide (48 ≤ r ∧ r ≤ 57) || decide (r = 95)
def partB (s : ByteArray) : Bool := decide (s ≠ ⟨#[]⟩) && s.data.toList.all (fun b => okR b.toNat)
def globP (s : ByteArray) : Bool := decide (s = sAny) || (decide (s = sAll) || partB s)
def allN (may : ByteArray → Bool) : Nat → ByteArray → Bool
 | 0, _ => false
 | n + 1, s => may (cutB s) && (!decide (0 ≤ dotAt s) || allN may n (cutA s))
theorem allN_cut (may : ByteArray → Bool) : ∀ n s, allN may n s = (decide ((cutS s).length ≤ n) && (cutS s).all may)
 | 0, s => by
  have h : ¬ (cutS s).length ≤ 0 := by have := cutS_pos s; omega
  simp only [allN, h, decide_false, Bool.false_and]
 | n + 1, s => by
  simp only [allN]
  by_cases h : 0 ≤ dotAt s
  ·rw [cutS_some h, allN_cut may n]
   simp only [h, decide_true, Bool.not_true, Bool.false_or, List.length_cons, Nat.add_le_add_iff_right, List.all_cons]
   cases may (cutB s) <;> simp
  ·have e : cutB s = s := by unfold cutB; rw [if_neg h]
   rw [cutS_none h, e]
   simp [h]
def nameB (may : ByteArray → Bool) (s : ByteArray) : Bool := decide (s.size ≤ 40) && (decide ((cutS s).length ≤ 8) && (cutS s).all may)
def topicB (s : ByteArray) : Bool := nameB partB s
def globB (s : ByteArray) : Bool := nameB globP s
def partsB (s : ByteArray) : List ByteArray := if globB s then cutS s else []
theorem partsB_len (s : ByteArray) : (partsB s).length ≤ 8 := by
 unfold partsB
 split
 ·rename_i h
  simp only [globB, nameB, Bool.and_eq_true, decide_eq_true_eq] at h
  exact h.2.1
 ·simp
theorem topic_glob {s : ByteArray} (h : topicB s = true) : globB s = true := by
 simp only [topicB, globB, nameB, Bool.and_eq_true, List.all_eq_true, globP, Bool.or_eq_true] at h ⊢
 exact ⟨h.1, h.2.1, fun x hx => .inr (.inr (h.2.2 x hx))⟩
def matchL : List ByteArray → List ByteArray → Bool
 | [], t => decide (t.length = 0)
 | p :: g, t => if p = sAll then (List.range (t.length + 1)).any (fun i => matchL g (t.drop i)) else match t with
  | [] => false
  | q :: t' => (decide (p = sAny) || decide (p = q)) && matchL g t'
inductive MatchP : List ByteArray → List ByteArray → Prop
 | nil : MatchP [] []
 | skip {g t} : MatchP g t → MatchP (sAll :: g) t
 | take {g q t} : MatchP (sAll :: g) t → MatchP (sAll :: g) (q :: t)
 | one {p g q t} : p ≠ sAll → (p = sAny ∨ p = q) → MatchP g t → MatchP (p :: g) (q :: t)
theorem matchP_drop {g : List ByteArray} : ∀ {t : List ByteArray}, MatchP (sAll :: g) t ↔ ∃ i, i ≤ t.length ∧ MatchP g (t.drop i)
 | [] => by
  constructor
  ·intro h
   cases h with
   | skip h => exact ⟨0, Nat.le_refl _, h⟩
  ·rintro ⟨i, hi, h⟩
   simp only [List.drop_nil] at h
   exact .skip h
 | q :: t => by
  constructor
  ·intro h
   cases h with
   | skip h => exact ⟨0, Nat.zero_le _, h⟩
   | take h =>
    obtain ⟨i, hi, h⟩ := matchP_drop.1 h
    exact ⟨i + 1, by simp; omega, by simpa using h⟩
   | one h1 h2 h3 => exact absurd rfl h1
  ·rintro ⟨i, hi, h⟩
   cases i with
   | zero => exact .skip h
   | succ i => exact .take (matchP_drop.2 ⟨i, by simpa using hi, by simpa using h⟩)
theorem matchL_iff : ∀ {g t : List ByteArray}, matchL g t = true ↔ MatchP g t
 | [], t => by
  simp only [matchL, decide_eq_true_eq, List.length_eq_zero_iff]
  constructor
  ·rintro rfl; exact .nil
  ·intro h; cases h; rfl
 | p :: g, t => by
  by_cases hp : p = sAll
  ·subst hp
   rw [matchP_drop]
   simp only [matchL, if_true, List.any_eq_true, List.mem_range]
   exact exists_congr fun i => ⟨fun ⟨h1, h2⟩ => ⟨by omega, matchL_iff.1 h2⟩, fun ⟨h1, h2⟩ => ⟨by omega, matchL_iff.2 h2⟩⟩
  ·cases t with
   | nil =>
    simp only [matchL, hp, if_false, Bool.false_eq_true, false_iff]
    intro h
    cases h with
    | skip h => exact hp rfl
   | cons q t =>
    simp only [matchL, hp, if_false, Bool.and_eq_true, Bool.or_eq_true, decide_eq_true_eq]
    constructor
    ·rintro ⟨h1, h2⟩; exact .one hp h1 (matchL_iff.1 h2)
    ·intro h
     cases h with
     | skip h => exact absurd rfl hp
     | take h => exact absurd rfl hp
     | one h1 h2 h3 => exact ⟨h2, matchL_iff.2 h3⟩
def meetsB (g t : ByteArray) : Bool := globB g && (topicB t && matchL (cutS g) (cutS t))
end Go.Vc

namespace Go.Vc
set_option linter.unusedSimpArgs false
set_option linter.unusedVariables false
theorem matchP_app : ∀ {g1 g2 t : List ByteArray}, MatchP (g1 ++ g2) t ↔ ∃ t1 t2, t = t1 ++ t2 ∧ MatchP g1 t1 ∧ MatchP g2 t2
 | [], g2, t => by
  constructor
  ·intro h; exact ⟨[], t, rfl, .nil, h⟩
  ·rintro ⟨t1, t2, rfl, h1, h2⟩; cases h1; exact h2
 | p :: g1, g2, t => by
  constructor
  ·intro h
   induction t with
   | nil =>
    cases h with
    | skip h =>
     obtain ⟨t1, t2, e, h1, h2⟩ := matchP_app.1 h
     exact ⟨t1, t2, e, .skip h1, h2⟩
   | cons q t ih =>
    cases h with
    | skip h =>
     obtain ⟨t1, t2, e, h1, h2⟩ := matchP_app.1 h
     exact ⟨t1, t2, e, .skip h1, h2⟩
    | take h =>
     obtain ⟨t1, t2, e, h1, h2⟩ := ih h
     exact ⟨q :: t1, t2, by rw [e]; rfl, .take h1, h2⟩
    | one h1 h2 h3 =>
     obtain ⟨t1, t2, e, h4, h5⟩ := matchP_app.1 h3
     exact ⟨q :: t1, t2, by rw [e]; rfl, .one h1 h2 h4, h5⟩
  ·rintro ⟨t1, t2, rfl, h1, h2⟩
   induction t1 with
   | nil =>
    cases h1 with
    | skip h1 => exact .skip (matchP_app.2 ⟨[], t2, rfl, h1, h2⟩)
   | cons q t1 ih =>
    cases h1 with
    | skip h1 => exact .skip (matchP_app.2 ⟨q :: t1, t2, rfl, h1, h2⟩)
    | take h1 => exact .take (ih h1)
    | one h3 h4 h5 => exact .one h3 h4 (matchP_app.2 ⟨t1, t2, rfl, h5, h2⟩)
theorem match_some : ∀ t : List ByteArray, MatchP [sAll] t
 | [] => .skip .nil
 | q :: t => .take (match_some t)
theorem match_one {p : ByteArray} {t : List ByteArray} (h : p ≠ sAll) : MatchP [p] t ↔ ∃ q, t = [q] ∧ (p = sAny ∨ p = q) := by
 constructor
 ·intro h1
  cases h1 with
  | skip _ => exact absurd rfl h
  | take _ => exact absurd rfl h
  | one _ h2 h3 => cases h3; exact ⟨_, rfl, h2⟩
 ·rintro ⟨q, rfl, h2⟩; exact .one h h2 .nil
theorem snoc_some {g w : List ByteArray} {q : ByteArray} : MatchP (g ++ [sAll]) (w ++ [q]) ↔ MatchP g (w ++ [q]) ∨ MatchP (g ++ [sAll]) w := by
 constructor
 ·intro h
  obtain ⟨t1, t2, e, h1, _⟩ := matchP_app.1 h
  rcases List.eq_nil_or_concat t2 with rfl | ⟨u, r, rfl⟩
  ·left; rw [List.append_nil] at e; rw [e]; exact h1
  ·right
   rw [List.concat_eq_append, ← List.append_assoc] at e
   have := List.append_inj' e rfl
   rw [this.1]
   exact matchP_app.2 ⟨t1, u, rfl, h1, match_some u⟩
 ·rintro (h | h)
  ·exact matchP_app.2 ⟨w ++ [q], [], by simp, h, match_some []⟩
  ·obtain ⟨t1, t2, e, h1, _⟩ := matchP_app.1 h
   exact matchP_app.2 ⟨t1, t2 ++ [q], by rw [e, List.append_assoc], h1, match_some _⟩
theorem snoc_one {g w : List ByteArray} {p q : ByteArray} (hp : p ≠ sAll) : MatchP (g ++ [p]) (w ++ [q]) ↔ (p = sAny ∨ p = q) ∧ MatchP g w := by
 constructor
 ·intro h
  obtain ⟨t1, t2, e, h1, h2⟩ := matchP_app.1 h
  obtain ⟨r, rfl, h3⟩ := (match_one hp).1 h2
  have := List.append_inj' e rfl
  have e2 : q = r := by simpa using this.2
  subst e2
  rw [this.1]; exact ⟨h3, h1⟩
 ·rintro ⟨h1, h2⟩
  exact matchP_app.2 ⟨w, [q], rfl, h2, (match_one hp).2 ⟨q, rfl, h1⟩⟩
theorem nil_some {g : List ByteArray} : MatchP (g ++ [sAll]) [] ↔ MatchP g [] := by
 constructor
 ·intro h
  obtain ⟨t1, t2, e, h1, _⟩ := matchP_app.1 h
  have := (List.append_eq_nil_iff.1 e.symm).1
  rw [this] at h1; exact h1
 ·intro h; exact matchP_app.2 ⟨[], [], rfl, h, match_some []⟩
theorem nil_one {g : List ByteArray} {p : ByteArray} (hp : p ≠ sAll) : ¬ MatchP (g ++ [p]) [] := fun h => by
 obtain ⟨t1, t2, e, h1, h2⟩ := matchP_app.1 h
 obtain ⟨r, rfl, _⟩ := (match_one hp).1 h2
 simp at e
def isAll (ps : List ByteArray) (k : Nat) : Bool := decide (ps[k]? = some sAll)
def ahd (ps : List ByteArray) (k : Nat) : Nat := if isAll ps k then k + 1 else k
def Sk (ps : List ByteArray) (k : Nat) (w : List ByteArray) : Prop := MatchP (ps.take (ahd ps k)) w
theorem take_get {ps : List ByteArray} {k : Nat} {p : ByteArray} (h : ps[k]? = some p) : ps.take (k + 1) = ps.take k ++ [p] := by
 obtain ⟨hlt, he⟩ := List.getElem?_eq_some_iff.1 h
 rw [List.take_add_one, h]; rfl
theorem isAll_some {ps : List ByteArray} {k : Nat} : isAll ps k = true ↔ ps[k]? = some sAll := by simp [isAll]
theorem Sk_of_all {ps : List ByteArray} {k : Nat} {w : List ByteArray} (h : isAll ps k = true) : Sk ps k w ↔ MatchP (ps.take k ++ [sAll]) w := by
 unfold Sk ahd; rw [if_pos h, take_get (isAll_some.1 h)]
theorem Sk_of_not {ps : List ByteArray} {k : Nat} {w : List ByteArray} (h : isAll ps k = false) : Sk ps k w ↔ MatchP (ps.take k) w := by
 unfold Sk ahd; rw [h]; rfl
theorem Sk_end {ps w : List ByteArray} : Sk ps ps.length w ↔ MatchP ps w := by
 rw [Sk_of_not (by simp [isAll]), List.take_length]
theorem Sk_nil0 {ps : List ByteArray} : Sk ps 0 [] := by
 cases h : isAll ps 0
 ·rw [Sk_of_not h]; exact .nil
 ·rw [Sk_of_all h]; exact .skip .nil
theorem Sk_nilS {ps : List ByteArray} {k : Nat} (hk : k < ps.length) : Sk ps (k + 1) [] ↔ isAll ps k = true ∧ Sk ps k [] := by
 have e : MatchP (ps.take (k + 1)) [] ↔ isAll ps k = true ∧ Sk ps k [] := by
  have hg : ps[k]? = some ps[k] := List.getElem?_eq_getElem hk
  cases h : isAll ps k
  ·have hne : ps[k] ≠ sAll := fun e => by rw [e] at hg; rw [isAll_some.2 hg] at h; cases h
   rw [take_get hg]
   simp only [Bool.false_eq_true, false_and, iff_false]
   exact nil_one hne
  ·rw [Sk_of_all h, take_get (isAll_some.1 h)]; simp
 cases h2 : isAll ps (k + 1)
 ·rw [Sk_of_not h2]; exact e
 ·rw [Sk_of_all h2, nil_some]; exact e
theorem Sk_snoc0 {ps w : List ByteArray} {q : ByteArray} : Sk ps 0 (w ++ [q]) ↔ isAll ps 0 = true ∧ Sk ps 0 w := by
 cases h : isAll ps 0
 ·rw [Sk_of_not h]
  simp only [Bool.false_eq_true, false_and, iff_false, List.take_zero]
  intro h1
  cases w <;> cases h1
 ·rw [Sk_of_all h, Sk_of_all h]
  simp only [List.take_zero, List.nil_append, true_and]
  exact ⟨fun _ => match_some _, fun _ => match_some _⟩
theorem Sk_snocS {ps w : List ByteArray} {q : ByteArray} {k : Nat} (hk : k < ps.length) :
  Sk ps (k + 1) (w ++ [q]) ↔ (isAll ps k = false ∧ (ps[k] = sAny ∨ ps[k] = q) ∧ Sk ps k w) ∨ (isAll ps (k + 1) = true ∧ Sk ps (k + 1) w) ∨ (isAll ps k = true ∧ Sk ps k (w ++ [q])) := by
 have hg : ps[k]? = some ps[k] := List.getElem?_eq_getElem hk
 cases h : isAll ps k
 ·have hne : ps[k] ≠ sAll := fun e => by rw [e] at hg; rw [isAll_some.2 hg] at h; cases h
  have e : MatchP (ps.take (k + 1)) (w ++ [q]) ↔ (ps[k] = sAny ∨ ps[k] = q) ∧ Sk ps k w := by
   rw [take_get hg, snoc_one hne, Sk_of_not h]
  cases h2 : isAll ps (k + 1)
  ·rw [Sk_of_not h2, e]; simp
  ·rw [Sk_of_all h2, Sk_of_all h2, snoc_some, e]; simp
 ·have e : MatchP (ps.take (k + 1)) (w ++ [q]) ↔ Sk ps k (w ++ [q]) := by rw [Sk_of_all h, take_get (isAll_some.1 h)]
  cases h2 : isAll ps (k + 1)
  ·rw [Sk_of_not h2, e]; simp
  ·rw [Sk_of_all h2, Sk_of_all h2, snoc_some, e]
   simp only [Bool.true_eq_false, false_and, true_and, false_or]
   exact or_comm
def cl (E L : Nat → Bool) : Nat → Bool
 | 0 => L 0
 | s + 1 => L (s + 1) || (cl E L s && E s)
theorem cl_shift {E L : Nat → Bool} {a : Nat} (h : a = 0 ∨ E (a - 1) = false) : ∀ s, cl E L (a + s) = cl (fun i => E (a + i)) (fun i => L (a + i)) s
 | 0 => by
  cases a with
  | zero => rfl
  | succ a =>
   have : E a = false := by simpa using h
   simp [cl, this]
 | s + 1 => by
  rw [show a + (s + 1) = (a + s) + 1 by omega]
  simp only [cl, cl_shift h s]
  rfl
theorem cl_of {E L : Nat → Bool} {s : Nat} (h : L s = true) : cl E L s = true := by cases s <;> simp [cl, h]
theorem cl_next {E L : Nat → Bool} {s : Nat} (h : cl E L s = true) (h2 : E s = true) : cl E L (s + 1) = true := by simp [cl, h, h2]
theorem cl_least {E L : Nat → Bool} {Q : Nat → Prop} (h1 : ∀ s, L s = true → Q s) (h2 : ∀ s, Q s → E s = true → Q (s + 1)) : ∀ s, cl E L s = true → Q s
 | 0, h => h1 0 h
 | s + 1, h => by
  simp only [cl, Bool.or_eq_true, Bool.and_eq_true] at h
  rcases h with h | h
  ·exact h1 _ h
  ·exact h2 _ (cl_least h1 h2 s h.1) h.2
theorem cl_or {E L M : Nat → Bool} (s : Nat) : cl E (fun i => L i || M i) s = (cl E L s || cl E M s) := by
 rw [Bool.eq_iff_iff, Bool.or_eq_true]
 constructor
 ·refine cl_least (Q := fun s => cl E L s = true ∨ cl E M s = true) (fun s h => ?_) (fun s h h2 => ?_) s
  ·rw [Bool.or_eq_true] at h
   exact h.imp cl_of cl_of
  ·exact h.imp (fun h => cl_next h h2) (fun h => cl_next h h2)
 ·rintro (h | h)
  ·exact cl_least (Q := fun s => cl E (fun i => L i || M i) s = true) (fun s h => cl_of (by rw [h]; rfl)) (fun s h h2 => cl_next h h2) s h
  ·exact cl_least (Q := fun s => cl E (fun i => L i || M i) s = true) (fun s h => cl_of (by rw [h]; simp)) (fun s h h2 => cl_next h h2) s h
structure NF where
 signs : List ByteArray
 beg : List Nat
 ways : List (List (Int × Int))
 done : List (List Nat)
 deriving Inhabited
def ltB (a b : ByteArray) : Bool := Op.bytesLess a.toList b.toList
theorem ltB_irr (a : ByteArray) : ltB a a = false := bl_irrefl _
theorem ltB_tr {a b c : ByteArray} (h : ltB a b = true) (h2 : ltB b c = true) : ltB a c = true := bl_trans h h2
theorem ltB_asym {a b : ByteArray} (h : ltB a b = true) : ltB b a = false := bl_asymm h
theorem toList_ne {a b : ByteArray} (h : a ≠ b) : a.toList ≠ b.toList := fun e => h (by
 have e2 : (a.toList == b.toList) = decide (a = b) := toList_eq a b
 rw [e] at e2; simpa using e2.symm)
theorem ltB_tot {a b : ByteArray} (h : ltB a b = false) (h2 : a ≠ b) : ltB b a = true := bl_total h (toList_ne h2)
abbrev RisB (l : List ByteArray) : Prop := l.Pairwise (fun a b => ltB a b = true)
theorem risB_nodup {l : List ByteArray} (h : RisB l) : l.Nodup := h.imp fun {a b} hab e => by subst e; rw [ltB_irr] at hab; cases hab
theorem risB_ext {l m : List ByteArray} (h : RisB l) (h2 : RisB m) (hm : ∀ y, y ∈ l ↔ y ∈ m) : l = m := by
 refine List.Perm.eq_of_pairwise (le := fun a b => ltB a b = true) (fun a b _ _ h1 h2 => ?_) h h2 ((List.perm_ext_iff_of_nodup (risB_nodup h) (risB_nodup h2)).2 hm)
 rw [ltB_asym h1] at h2; cases h2
def hasB (l : List ByteArray) (x : ByteArray) : Bool := l.any (fun y => decide (y = x))
theorem hasB_iff {l : List ByteArray} {x : ByteArray} : hasB l x = true ↔ x ∈ l := by
 simp [hasB]
def insB : List ByteArray → ByteArray → List ByteArray
 | [], x => [x]
 | a :: l, x => if ltB a x then a :: insB l x else x :: a :: l
theorem insB_mem {x y : ByteArray} : ∀ {l : List ByteArray}, y ∈ insB l x ↔ y = x ∨ y ∈ l
 | [] => by simp [insB]
 | a :: l => by
  unfold insB
  split
  ·rw [List.mem_cons, insB_mem (l := l), List.mem_cons]
   constructor
   ·rintro (h | h | h) <;> simp [h]
   ·rintro (h | h | h) <;> simp [h]
  ·rw [List.mem_cons]
theorem insB_ris {x : ByteArray} : ∀ {l : List ByteArray}, RisB l → x ∉ l → RisB (insB l x)
 | [], _, _ => by simp [insB]
 | a :: l, h, hx => by
  have h' := List.pairwise_cons.1 h
  unfold insB
  split
  ·rename_i h1
   refine List.pairwise_cons.2 ⟨fun y hy => ?_, insB_ris h'.2 fun hm => hx (List.mem_cons_of_mem _ hm)⟩
   rcases insB_mem.1 hy with rfl | hy
   ·exact h1
   ·exact h'.1 y hy
  ·rename_i h1
   have hxa : ltB x a = true := ltB_tot (by simpa using h1) (fun e => hx (by rw [e]; simp))
   refine List.pairwise_cons.2 ⟨fun y hy => ?_, h⟩
   rcases List.mem_cons.1 hy with rfl | hy
   ·exact hxa
   ·exact ltB_tr hxa (h'.1 y hy)
def addB (l : List ByteArray) (x : ByteArray) : List ByteArray := if hasB l x then l else insB l x
theorem addB_mem {x y : ByteArray} {l : List ByteArray} : y ∈ addB l x ↔ y = x ∨ y ∈ l := by
 unfold addB
 split
 ·rename_i h
  have := hasB_iff.1 h
  constructor
  ·exact .inr
  ·rintro (rfl | h); exact this; exact h
 ·exact insB_mem
theorem addB_ris {x : ByteArray} {l : List ByteArray} (h : RisB l) : RisB (addB l x) := by
 unfold addB
 split
 ·exact h
 ·rename_i h1; exact insB_ris h fun hm => h1 (hasB_iff.2 hm)
def addsB (l ps : List ByteArray) : List ByteArray := ps.foldl addB l
theorem addsB_mem {y : ByteArray} : ∀ {ps l : List ByteArray}, y ∈ addsB l ps ↔ y ∈ l ∨ y ∈ ps
 | [], l => by simp [addsB]
 | p :: ps, l => by
  have := addsB_mem (y := y) (ps := ps) (l := addB l p)
  unfold addsB at *
  rw [List.foldl_cons, this, addB_mem, List.mem_cons]
  constructor
  ·rintro ((h | h) | h) <;> simp [h]
  ·rintro (h | h | h) <;> simp [h]
theorem addsB_ris : ∀ {ps l : List ByteArray}, RisB l → RisB (addsB l ps)
 | [], l, h => h
 | p :: ps, l, h => addsB_ris (ps := ps) (addB_ris h)
def realB (ps : List ByteArray) : List ByteArray := ps.filter (fun p => decide (p ≠ sAny) && decide (p ≠ sAll))
def signsOf (gs : List (List ByteArray)) : List ByteArray := addsB [] (gs.flatMap realB)
theorem signsOf_ris (gs : List (List ByteArray)) : RisB (signsOf gs) := addsB_ris (by simp [RisB])
theorem signsOf_mem {gs : List (List ByteArray)} {y : ByteArray} : y ∈ signsOf gs ↔ ∃ ps ∈ gs, y ∈ ps ∧ y ≠ sAny ∧ y ≠ sAll := by
 unfold signsOf
 rw [addsB_mem]
 simp [realB, List.mem_flatMap]
def letterN (signs : List ByteArray) (p : ByteArray) : Nat := signs.findIdx (fun s => decide (s = p))
theorem letterN_le (signs : List ByteArray) (p : ByteArray) : letterN signs p ≤ signs.length := List.findIdx_le_length
theorem letterN_in {signs : List ByteArray} {p : ByteArray} (h : p ∈ signs) : letterN signs p < signs.length := by
 unfold letterN
 exact List.findIdx_lt_length.2 ⟨p, h, by simp⟩
theorem letterN_eq {signs : List ByteArray} {p q : ByteArray} (h : p ∈ signs) : letterN signs q = letterN signs p ↔ p = q := by
 constructor
 ·intro e
  have h1 := letterN_in h
  have h2 : letterN signs q < signs.length := by rw [e]; exact h1
  have g1 := List.findIdx_getElem (w := h1)
  have g2 := List.findIdx_getElem (w := h2)
  simp only [decide_eq_true_eq] at g1 g2
  rw [← g1, ← g2]
  congr 1
  exact e.symm
 ·rintro rfl; rfl
def wayOf (signs : List ByteArray) (at_ : Nat) (p : ByteArray) : List (Int × Int) :=
 if p = sAll then (-1, ((at_ + 1 : Nat) : Int)) :: (List.range (signs.length + 1)).map (fun s : Nat => ((s : Int), (at_ : Int)))
 else if p = sAny then (List.range (signs.length + 1)).map (fun s : Nat => ((s : Int), ((at_ + 1 : Nat) : Int)))
 else [((letterN signs p : Int), ((at_ + 1 : Nat) : Int))]
def waysP (signs : List ByteArray) : Nat → List ByteArray → List (List (Int × Int))
 | _, [] => [[]]
 | a, p :: ps => wayOf signs a p :: waysP signs (a + 1) ps
def waysG (signs : List ByteArray) : Nat → List (List ByteArray) → List (List (Int × Int))
 | _, [] => []
 | a, ps :: gs => waysP signs a ps ++ waysG signs (a + ps.length + 1) gs
def base (gs : List (List ByteArray)) (i : Nat) : Nat := ((gs.take i).map (fun ps => ps.length + 1)).sum
def doneG : Nat → List (List ByteArray) → List (List Nat)
 | _, [] => []
 | i, ps :: gs => (List.replicate ps.length [] ++ [[i]]) ++ doneG (i + 1) gs
def nfaOf (gs : List (List ByteArray)) : NF := ⟨signsOf gs, (List.range gs.length).map (base gs), waysG (signsOf gs) 0 gs, doneG 0 gs⟩
end Go.Vc

namespace Go.Vc
set_option linter.unusedSimpArgs false
set_option linter.unusedVariables false
theorem base_zero (gs : List (List ByteArray)) : base gs 0 = 0 := rfl
theorem base_succ {gs : List (List ByteArray)} {i : Nat} (h : i < gs.length) : base gs (i + 1) = base gs i + (gs[i].length + 1) := by
 unfold base
 rw [List.take_succ_eq_append_getElem h, List.map_append, List.sum_append]; rfl
theorem base_mono {gs : List (List ByteArray)} {i j : Nat} (h : i < j) (hj : j ≤ gs.length) : base gs i + ((gs[i]'(by omega)).length + 1) ≤ base gs j := by
 obtain ⟨d, rfl⟩ : ∃ d, j = i + 1 + d := ⟨j - i - 1, by omega⟩
 induction d with
 | zero => rw [Nat.add_zero, base_succ (by omega)]; exact Nat.le_refl _
 | succ d ih =>
  have h1 := ih (by omega) (by omega)
  have h2 := base_succ (gs := gs) (i := i + 1 + d) (by omega)
  show _ ≤ base gs (i + 1 + d + 1)
  omega
theorem base_uniq {gs : List (List ByteArray)} {i j k m : Nat} (hi : i < gs.length) (hj : j < gs.length) (hk : k ≤ gs[i].length) (hm : m ≤ gs[j].length) (h : base gs i + k = base gs j + m) : i = j ∧ k = m := by
 have : i = j := by
  by_cases h1 : i < j
  ·have := base_mono (gs := gs) h1 (by omega); omega
  ·by_cases h2 : j < i
   ·have := base_mono (gs := gs) h2 (by omega); omega
   ·omega
 subst this
 exact ⟨rfl, by omega⟩
theorem base_split {gs : List (List ByteArray)} : ∀ n, n ≤ gs.length → ∀ s, s < base gs n → ∃ i, ∃ h : i < gs.length, i < n ∧ ∃ k, k ≤ gs[i].length ∧ s = base gs i + k
 | 0, _, s, h => by simp [base_zero] at h
 | n + 1, hn, s, h => by
  rw [base_succ (by omega)] at h
  by_cases hs : s < base gs n
  ·obtain ⟨i, h1, h2, k, h3, h4⟩ := base_split n (by omega) s hs
   exact ⟨i, h1, by omega, k, h3, h4⟩
  ·exact ⟨n, by omega, by omega, s - base gs n, by omega, by omega⟩
theorem waysP_len (signs : List ByteArray) : ∀ (ps : List ByteArray) (a : Nat), (waysP signs a ps).length = ps.length + 1
 | [], _ => rfl
 | p :: ps, a => by simp [waysP, waysP_len signs ps]
theorem waysP_at (signs : List ByteArray) : ∀ (ps : List ByteArray) (a k : Nat), (waysP signs a ps).getD k [] = match ps[k]? with
  | some p => wayOf signs (a + k) p
  | none => []
 | [], a, 0 => rfl
 | [], a, k + 1 => rfl
 | p :: ps, a, 0 => rfl
 | p :: ps, a, k + 1 => by
  simp only [waysP, List.getD_cons_succ, List.getElem?_cons_succ, waysP_at signs ps (a + 1) k, show a + 1 + k = a + (k + 1) by omega]
theorem base_cons (ps : List ByteArray) (gs : List (List ByteArray)) (i : Nat) : base (ps :: gs) (i + 1) = ps.length + 1 + base gs i := by simp [base]
theorem waysG_len (signs : List ByteArray) : ∀ (gs : List (List ByteArray)) (a : Nat), (waysG signs a gs).length = base gs gs.length
 | [], _ => rfl
 | ps :: gs, a => by
  rw [waysG, List.length_append, waysP_len, waysG_len signs gs, List.length_cons, base_cons]
theorem waysG_at (signs : List ByteArray) : ∀ (gs : List (List ByteArray)) (a i k : Nat) (h : i < gs.length), k ≤ gs[i].length → (waysG signs a gs).getD (base gs i + k) [] = match (gs[i])[k]? with
  | some p => wayOf signs (a + base gs i + k) p
  | none => []
 | ps :: gs, a, 0, k, _, hk => by
  simp only [List.getElem_cons_zero] at hk
  rw [base_zero, Nat.zero_add, waysG, List.getD_eq_getElem?_getD, List.getElem?_append_left (by rw [waysP_len]; omega), ← List.getD_eq_getElem?_getD, waysP_at]
  rfl
 | ps :: gs, a, i + 1, k, h, hk => by
  simp only [List.getElem_cons_succ] at hk ⊢
  rw [base_cons, waysG, List.getD_eq_getElem?_getD, List.getElem?_append_right (by rw [waysP_len]; omega), waysP_len, ← List.getD_eq_getElem?_getD,
   show ps.length + 1 + base gs i + k - (ps.length + 1) = base gs i + k by omega, waysG_at signs gs _ i k (by simpa using h) hk]
  rw [show a + ps.length + 1 + base gs i + k = a + (ps.length + 1 + base gs i) + k by omega]
theorem doneG_len : ∀ (gs : List (List ByteArray)) (a : Nat), (doneG a gs).length = base gs gs.length
 | [], _ => rfl
 | ps :: gs, a => by
  rw [doneG, List.length_append, doneG_len gs, List.length_cons, base_cons]; simp
theorem doneG_at : ∀ (gs : List (List ByteArray)) (a i k : Nat) (h : i < gs.length), k ≤ gs[i].length → (doneG a gs).getD (base gs i + k) [] = if k = gs[i].length then [a + i] else []
 | ps :: gs, a, 0, k, _, hk => by
  simp only [List.getElem_cons_zero] at hk ⊢
  rw [base_zero, Nat.zero_add, doneG, List.getD_eq_getElem?_getD, List.getElem?_append_left (by simp; omega)]
  by_cases h : k = ps.length
  ·rw [if_pos h, h, List.getElem?_append_right (by simp)]; simp
  ·rw [if_neg h, List.getElem?_append_left (by simp; omega), List.getElem?_replicate, if_pos (by omega)]; rfl
 | ps :: gs, a, i + 1, k, h, hk => by
  simp only [List.getElem_cons_succ] at hk ⊢
  rw [base_cons, doneG, List.getD_eq_getElem?_getD, List.getElem?_append_right (by simp; omega), ← List.getD_eq_getElem?_getD,
   show ps.length + 1 + base gs i + k - (List.replicate ps.length ([] : List Nat) ++ [[a]]).length = base gs i + k by simp; omega, doneG_at gs _ i k (by simpa using h) hk,
   show a + 1 + i = a + (i + 1) by omega]
def NF.size (n : NF) : Nat := n.ways.length
def NF.eps (n : NF) (s : Nat) : Bool := (n.ways.getD s []).any (fun e => decide (e.1 = -1))
def inI (l : List Int) (s : Nat) : Bool := l.any (fun x => decide (x = (s : Int)))
theorem inI_iff {l : List Int} {s : Nat} : inI l s = true ↔ (s : Int) ∈ l := by simp [inI]
def closeN (n : NF) (l : List Int) : List Nat := (List.range n.size).filter (cl n.eps (inI l))
theorem closeN_mem {n : NF} {l : List Int} {s : Nat} : s ∈ closeN n l ↔ s < n.size ∧ cl n.eps (inI l) s = true := by simp [closeN]
def waysAt (n : NF) (x : Int) : List (Int × Int) := if 0 ≤ x ∧ x < n.size then n.ways.getD x.toNat [] else []
def goN (n : NF) (l : List Int) (sign : Int) : List Int := l.flatMap fun x => ((waysAt n x).filter (fun e => decide (e.1 = sign))).map (·.2)
def stepN (n : NF) (l : List Int) (sign : Int) : List Nat := if sign < 0 then [] else closeN n (goN n l sign)
def toI (l : List Nat) : List Int := l.map (fun s : Nat => (s : Int))
theorem toI_mem {l : List Nat} {s : Nat} : (s : Int) ∈ toI l ↔ s ∈ l := by
 simp only [toI, List.mem_map]
 constructor
 ·rintro ⟨a, h, e⟩
  have : a = s := by omega
  rw [← this]; exact h
 ·exact fun h => ⟨s, h, rfl⟩
def begI (n : NF) : List Int := toI n.beg
def walkN (n : NF) (t : List ByteArray) : List Nat := t.foldl (fun l q => stepN n (toI l) (letterN n.signs q)) (closeN n (begI n))
theorem walkN_snoc (n : NF) (t : List ByteArray) (q : ByteArray) : walkN n (t ++ [q]) = stepN n (toI (walkN n t)) (letterN n.signs q) := by
 unfold walkN; rw [List.foldl_append]; rfl
section
variable {gs : List (List ByteArray)}
theorem size_nfa : (nfaOf gs).size = base gs gs.length := waysG_len _ _ _
theorem in_size {i k : Nat} (h : i < gs.length) (hk : k ≤ gs[i].length) : base gs i + k < (nfaOf gs).size := by
 rw [size_nfa]
 have := base_mono (gs := gs) h (Nat.le_refl _)
 omega
theorem ways_at {i k : Nat} (h : i < gs.length) (hk : k ≤ gs[i].length) : (nfaOf gs).ways.getD (base gs i + k) [] = match (gs[i])[k]? with
  | some p => wayOf (signsOf gs) (base gs i + k) p
  | none => [] := by
 have := waysG_at (signsOf gs) gs 0 i k h hk
 rw [Nat.zero_add] at this
 exact this
theorem eps_at {i k : Nat} (h : i < gs.length) (hk : k ≤ gs[i].length) : (nfaOf gs).eps (base gs i + k) = isAll gs[i] k := by
 unfold NF.eps
 rw [ways_at h hk]
 cases hp : (gs[i])[k]? with
 | none => simp [isAll, hp]
 | some p =>
  simp only [isAll, hp, Option.some.injEq]
  unfold wayOf
  split
  ·rename_i ha; simp [ha]
  ·rename_i ha
   split
   ·rename_i h2
    simp only [ha, decide_false, List.any_eq_false, List.mem_map, List.mem_range]
    rintro x ⟨a, _, rfl⟩
    simp
   ·simp [ha]
theorem eps_ahead {i : Nat} (h : i < gs.length) : base gs i = 0 ∨ (nfaOf gs).eps (base gs i - 1) = false := by
 cases i with
 | zero => exact .inl rfl
 | succ i =>
  right
  rw [base_succ (by omega), show base gs i + ((gs[i]'(by omega)).length + 1) - 1 = base gs i + (gs[i]'(by omega)).length by omega, eps_at (by omega) (Nat.le_refl _)]
  simp [isAll]
theorem cl_at {L : Nat → Bool} {i : Nat} (h : i < gs.length) {k : Nat} (hk : k ≤ gs[i].length) : cl (nfaOf gs).eps L (base gs i + k) = cl (isAll gs[i]) (fun j => L (base gs i + j)) k := by
 rw [cl_shift (eps_ahead h)]
 have : ∀ m, m ≤ k → cl (fun j => (nfaOf gs).eps (base gs i + j)) (fun j => L (base gs i + j)) m = cl (isAll gs[i]) (fun j => L (base gs i + j)) m := by
  intro m
  induction m with
  | zero => intro _; rfl
  | succ m ih =>
   intro hm
   simp only [cl, ih (by omega), eps_at h (show m ≤ gs[i].length by omega)]
 exact this k (Nat.le_refl _)
theorem go_at {S : Nat → Prop} {l : List Nat} (hl : ∀ s, s ∈ l ↔ s < (nfaOf gs).size ∧ S s) {q : ByteArray} {i : Nat} (h : i < gs.length) {k : Nat} (hk : k ≤ gs[i].length) :
  inI (goN (nfaOf gs) (toI l) (letterN (signsOf gs) q)) (base gs i + k) = true ↔
   (isAll gs[i] k = true ∧ S (base gs i + k)) ∨ (∃ j, ∃ hj : j < gs[i].length, k = j + 1 ∧ isAll gs[i] j = false ∧ ((gs[i])[j] = sAny ∨ (gs[i])[j] = q) ∧ S (base gs i + j)) := by
 have hle := letterN_le (signsOf gs) q
 have mem : ∀ e : Int × Int, ∀ s, ∀ p, e ∈ wayOf (signsOf gs) s p → e.1 = (letterN (signsOf gs) q : Int) → p ∈ signsOf gs ∨ p = sAny ∨ p = sAll → (p = sAll ∧ e.2 = (s : Int)) ∨ (p ≠ sAll ∧ (p = sAny ∨ p = q) ∧ e.2 = ((s + 1 : Nat) : Int)) := by
  intro e s p he h1 hp
  unfold wayOf at he
  split at he
  ·rename_i ha
   rcases List.mem_cons.1 he with rfl | he
   ·simp only at h1; omega
   ·obtain ⟨a, _, rfl⟩ := List.mem_map.1 he
    exact .inl ⟨ha, rfl⟩
  ·rename_i ha
   split at he
   ·rename_i h2
    obtain ⟨a, _, rfl⟩ := List.mem_map.1 he
    exact .inr ⟨ha, .inl h2, rfl⟩
   ·rename_i h2
    simp only [List.mem_singleton] at he
    subst he
    simp only at h1
    have hps := hp.resolve_right (fun h => h.elim h2 ha)
    exact .inr ⟨ha, .inr ((letterN_eq hps).1 (by omega)), rfl⟩
 have inp : ∀ {i k : Nat} (h : i < gs.length) (hk : k < gs[i].length), (gs[i])[k] ∈ signsOf gs ∨ (gs[i])[k] = sAny ∨ (gs[i])[k] = sAll := by
  intro i k h hk
  by_cases h1 : (gs[i])[k] = sAny
  ·exact .inr (.inl h1)
  ·by_cases h2 : (gs[i])[k] = sAll
   ·exact .inr (.inr h2)
   ·exact .inl (signsOf_mem.2 ⟨gs[i], List.getElem_mem _, List.getElem_mem _, h1, h2⟩)
 rw [inI_iff]
 unfold goN
 simp only [List.mem_flatMap, List.mem_map, List.mem_filter, decide_eq_true_eq]
 constructor
 ·rintro ⟨x, hx, e, ⟨he, h1⟩, h2⟩
  obtain ⟨s, hs, rfl⟩ := List.mem_map.1 hx
  obtain ⟨hss, hS⟩ := (hl s).1 hs
  rw [size_nfa] at hss
  obtain ⟨i', hi', _, k', hk', rfl⟩ := base_split _ (Nat.le_refl _) s hss
  have hlt := in_size hi' hk'
  unfold waysAt at he
  rw [if_pos (by omega), Int.toNat_natCast, ways_at hi' hk'] at he
  cases hp : (gs[i'])[k']? with
  | none => rw [hp] at he; simp at he
  | some p =>
   rw [hp] at he
   obtain ⟨hk'', hpe⟩ := List.getElem?_eq_some_iff.1 hp
   have hin := inp hi' hk''
   rw [hpe] at hin
   rcases mem e _ p he h1 hin with ⟨ha, h3⟩ | ⟨ha, h4, h3⟩
   ·rw [h3] at h2
    obtain ⟨e1, e2⟩ := base_uniq hi' h hk' hk (by omega)
    subst e1; subst e2
    exact .inl ⟨by rw [isAll_some, hp, ha], hS⟩
   ·rw [h3] at h2
    obtain ⟨e1, e2⟩ := base_uniq (k := k' + 1) hi' h (by omega) hk (by omega)
    subst e1
    refine .inr ⟨k', hk'', e2.symm, ?_, by rw [hpe]; exact h4, hS⟩
    cases h5 : isAll gs[i'] k'
    ·rfl
    ·rw [isAll_some, hp] at h5; exact absurd (Option.some.inj h5) ha
 ·rintro (⟨ha, hS⟩ | ⟨j, hj, rfl, ha, hm, hS⟩)
  ·have hlt := in_size h hk
   have hp := isAll_some.1 ha
   refine ⟨((base gs i + k : Nat) : Int), List.mem_map.2 ⟨_, (hl _).2 ⟨hlt, hS⟩, rfl⟩, ((letterN (signsOf gs) q : Int), ((base gs i + k : Nat) : Int)), ⟨?_, rfl⟩, rfl⟩
   unfold waysAt
   rw [if_pos (by omega), Int.toNat_natCast, ways_at h hk, hp]
   simp only [wayOf, if_true]
   refine List.mem_cons_of_mem _ (List.mem_map.2 ⟨letterN (signsOf gs) q, List.mem_range.2 (by omega), rfl⟩)
  ·have hlt := in_size h (show j ≤ gs[i].length by omega)
   have hp : (gs[i])[j]? = some (gs[i])[j] := List.getElem?_eq_getElem hj
   have hne : (gs[i])[j] ≠ sAll := fun e => by rw [e] at hp; rw [isAll_some.2 hp] at ha; cases ha
   refine ⟨((base gs i + j : Nat) : Int), List.mem_map.2 ⟨_, (hl _).2 ⟨hlt, hS⟩, rfl⟩, ((letterN (signsOf gs) q : Int), ((base gs i + (j + 1) : Nat) : Int)), ⟨?_, rfl⟩, rfl⟩
   unfold waysAt
   rw [if_pos (by omega), Int.toNat_natCast, ways_at h (by omega), hp]
   simp only [wayOf, if_neg hne]
   split
   ·refine List.mem_map.2 ⟨letterN (signsOf gs) q, List.mem_range.2 (by omega), ?_⟩
    rw [show base gs i + j + 1 = base gs i + (j + 1) by omega]
   ·rename_i h2
    rw [List.mem_singleton, hm.resolve_left h2, show base gs i + j + 1 = base gs i + (j + 1) by omega]
theorem walk_at (w : List ByteArray) : ∀ s, s ∈ walkN (nfaOf gs) w ↔ ∃ i, ∃ h : i < gs.length, ∃ k, k ≤ gs[i].length ∧ s = base gs i + k ∧ Sk gs[i] k w := by
 suffices H : ∀ {i : Nat} (h : i < gs.length) (k : Nat), k ≤ gs[i].length → (base gs i + k ∈ walkN (nfaOf gs) w ↔ Sk gs[i] k w) by
  intro s
  constructor
  ·intro hs
   have hlt : s < (nfaOf gs).size := by
    rcases List.eq_nil_or_concat w with rfl | ⟨u, q, rfl⟩
    ·exact (closeN_mem.1 hs).1
    ·rw [List.concat_eq_append, walkN_snoc] at hs
     unfold stepN at hs
     rw [if_neg (by omega)] at hs
     exact (closeN_mem.1 hs).1
   rw [size_nfa] at hlt
   obtain ⟨i, h, _, k, hk, rfl⟩ := base_split _ (Nat.le_refl _) s hlt
   exact ⟨i, h, k, hk, rfl, (H h k hk).1 hs⟩
  ·rintro ⟨i, h, k, hk, rfl, hS⟩
   exact (H h k hk).2 hS
 obtain ⟨n, hn⟩ : ∃ n, n = w.length := ⟨_, rfl⟩
 induction n generalizing w with
 | zero =>
  have hw : w = [] := List.eq_nil_of_length_eq_zero hn.symm
  subst hw
  intro i h k hk
  have hc : (base gs i + k ∈ walkN (nfaOf gs) [] ↔ cl (isAll gs[i]) (fun j => inI (begI (nfaOf gs)) (base gs i + j)) k = true) := by
   rw [← cl_at h hk]
   exact closeN_mem.trans (and_iff_right (in_size h hk))
  rw [hc]
  clear hc
  have hL : ∀ j, j ≤ gs[i].length → (inI (begI (nfaOf gs)) (base gs i + j) = true ↔ j = 0) := by
   intro j hj
   rw [inI_iff]
   unfold begI
   rw [toI_mem]
   simp only [nfaOf, List.mem_map, List.mem_range]
   constructor
   ·rintro ⟨a, ha, e⟩
    exact (base_uniq (k := 0) ha h (Nat.zero_le _) hj (by omega)).2.symm
   ·rintro rfl; exact ⟨i, h, rfl⟩
  induction k with
  | zero => simp only [cl, hL 0 (Nat.zero_le _), true_iff]; exact Sk_nil0
  | succ k ih =>
   have ihk := ih (by omega)
   refine Iff.trans ?_ (Sk_nilS (show k < gs[i].length by omega)).symm
   simp only [cl, Bool.or_eq_true, Bool.and_eq_true, hL (k + 1) hk]
   constructor
   ·rintro (h1 | h1)
    ·omega
    ·exact ⟨h1.2, ihk.1 h1.1⟩
   ·exact fun h1 => .inr ⟨ihk.2 h1.2, h1.1⟩
 | succ n ih =>
  rcases List.eq_nil_or_concat w with rfl | ⟨u, q, rfl⟩
  ·simp at hn
  rw [List.concat_eq_append] at hn ⊢
  have ihu := fun {i : Nat} (h : i < gs.length) (k : Nat) (hk : k ≤ gs[i].length) => ih u (by simp at hn; exact hn) h k hk
  intro i h k hk
  have hl : ∀ s, s ∈ walkN (nfaOf gs) u ↔ s < (nfaOf gs).size ∧ s ∈ walkN (nfaOf gs) u := fun s => by
   constructor
   ·intro hs
    refine ⟨?_, hs⟩
    rcases List.eq_nil_or_concat u with rfl | ⟨v, r, rfl⟩
    ·exact (closeN_mem.1 hs).1
    ·rw [List.concat_eq_append, walkN_snoc] at hs
     unfold stepN at hs
     rw [if_neg (by omega)] at hs
     exact (closeN_mem.1 hs).1
   ·exact fun h => h.2
  have hc : (base gs i + k ∈ walkN (nfaOf gs) (u ++ [q]) ↔ cl (isAll gs[i]) (fun j => inI (goN (nfaOf gs) (toI (walkN (nfaOf gs) u)) (letterN (signsOf gs) q)) (base gs i + j)) k = true) := by
   rw [← cl_at h hk, walkN_snoc]
   unfold stepN
   rw [if_neg (by omega)]
   exact closeN_mem.trans (and_iff_right (in_size h hk))
  rw [hc]
  clear hc
  induction k with
  | zero =>
   simp only [cl]
   rw [go_at hl h (Nat.zero_le _), Sk_snoc0, ← ihu h 0 (Nat.zero_le _)]
   constructor
   ·rintro (h1 | ⟨j, _, e, _⟩)
    ·exact h1
    ·omega
   ·exact .inl
  | succ k ihk =>
   have ihk' := ihk (by omega)
   refine Iff.trans ?_ (Sk_snocS (show k < gs[i].length by omega)).symm
   have u1 := ihu h k (by omega)
   have u2 := ihu h (k + 1) hk
   simp only [cl, Bool.or_eq_true, Bool.and_eq_true]
   rw [go_at hl h hk]
   constructor
   ·rintro ((h1 | ⟨j, hj, e, h2, h3, h4⟩) | h1)
    ·exact .inr (.inl ⟨h1.1, u2.1 h1.2⟩)
    ·have : j = k := by omega
     subst this
     exact .inl ⟨h2, h3, u1.1 h4⟩
    ·exact .inr (.inr ⟨h1.2, ihk'.1 h1.1⟩)
   ·rintro (⟨h2, h3, h4⟩ | h1 | h1)
    ·exact .inl (.inr ⟨k, by omega, rfl, h2, h3, u1.2 h4⟩)
    ·exact .inl (.inl ⟨h1.1, u2.2 h1.2⟩)
    ·exact .inr ⟨ihk'.2 h1.2, h1.1⟩
end
end Go.Vc

namespace Go.Vc
set_option linter.unusedSimpArgs false
set_option linter.unusedVariables false
structure NF.Good (n : NF) : Prop where
 to : ∀ s, s < n.size → ∀ e ∈ n.ways.getD s [], e.1 = -1 → e.2 = ((s + 1 : Nat) : Int) ∧ s + 1 < n.size
theorem wayOf_eps {signs : List ByteArray} {a : Nat} {p : ByteArray} {e : Int × Int} (h : e ∈ wayOf signs a p) (h1 : e.1 = -1) : p = sAll ∧ e.2 = ((a + 1 : Nat) : Int) := by
 unfold wayOf at h
 split at h
 ·rename_i ha
  rcases List.mem_cons.1 h with rfl | h
  ·exact ⟨ha, rfl⟩
  ·obtain ⟨x, _, rfl⟩ := List.mem_map.1 h
   simp only at h1; omega
 ·split at h
  ·obtain ⟨x, _, rfl⟩ := List.mem_map.1 h
   simp only at h1; omega
  ·simp only [List.mem_singleton] at h
   subst h
   simp only at h1; omega
theorem good_nfa (gs : List (List ByteArray)) : (nfaOf gs).Good := ⟨fun s hs e he h1 => by
 rw [size_nfa] at hs
 obtain ⟨i, hi, _, k, hk, rfl⟩ := base_split _ (Nat.le_refl _) s hs
 rw [ways_at hi hk] at he
 cases hp : (gs[i])[k]? with
 | none => rw [hp] at he; simp at he
 | some p =>
  rw [hp] at he
  obtain ⟨h2, h3⟩ := wayOf_eps he h1
  have hlt : k < gs[i].length := (List.getElem?_eq_some_iff.1 hp).1
  have := in_size (gs := gs) hi (show k + 1 ≤ gs[i].length by omega)
  exact ⟨h3, by omega⟩⟩
def isSt (n : NF) (x : Int) : Bool := decide (0 ≤ x ∧ x < n.size)
structure InvC (n : NF) (L : Nat → Bool) (met ws : List Nat) : Prop where
 nodup : met.Nodup
 inn : ∀ s ∈ met, s < n.size
 has : ∀ s, s < n.size → L s = true → s ∈ met
 sub : ∀ s ∈ ws, s ∈ met
 sound : ∀ s ∈ met, cl n.eps L s = true
 shut : ∀ s ∈ met, s ∈ ws ∨ (n.eps s = true → s + 1 ∈ met)
structure PreC (n : NF) (L : Nat → Bool) (todo : List Int) (met ws : List Nat) : Prop where
 nodup : met.Nodup
 inn : ∀ s ∈ met, s < n.size
 has : ∀ s, s < n.size → L s = true → s ∈ met ∨ (s : Int) ∈ todo
 sub : ∀ s ∈ ws, s ∈ met
 sound : ∀ s ∈ met, cl n.eps L s = true
 shut : ∀ s ∈ met, s ∈ ws
abbrev WorkC := List Nat × List Nat × List PV
def addC (n : NF) (x : Int) (s : WorkC) : WorkC := if isSt n x = true ∧ x.toNat ∉ s.1 then (s.1 ++ [x.toNat], s.2.1 ++ [x.toNat], []) else s
theorem isSt_iff {n : NF} {x : Int} : isSt n x = true ↔ ∃ s : Nat, x = s ∧ s < n.size := by
 simp only [isSt, decide_eq_true_eq]
 constructor
 ·intro h; exact ⟨x.toNat, by omega, by omega⟩
 ·rintro ⟨s, rfl, h⟩; omega
theorem nodup_snoc {l : List Nat} {s : Nat} (h : l.Nodup) (h2 : s ∉ l) : (l ++ [s]).Nodup := by
 rw [List.nodup_append]
 exact ⟨h, by simp, fun a ha b hb => by simp only [List.mem_singleton] at hb; subst hb; exact fun e => h2 (by rw [← e]; exact ha)⟩
theorem PreC.init (n : NF) (l : List Int) : PreC n (inI l) l [] [] :=
 ⟨by simp, by simp, fun s _ h => .inr (inI_iff.1 h), by simp, by simp, by simp⟩
theorem PreC.add {n : NF} {l todo : List Int} {x : Int} {s : WorkC} (hx : x ∈ l) (h : PreC n (inI l) (x :: todo) s.1 s.2.1) : PreC n (inI l) todo (addC n x s).1 (addC n x s).2.1 := by
 unfold addC
 split
 ·rename_i hc
  obtain ⟨k, rfl, hk⟩ := isSt_iff.1 hc.1
  rw [Int.toNat_natCast] at hc ⊢
  refine ⟨nodup_snoc h.nodup hc.2, fun s hs => ?_, fun s hs hl => ?_, fun s hs => ?_, fun s hs => ?_, fun s hs => ?_⟩
  ·rcases List.mem_append.1 hs with hs | hs
   ·exact h.inn s hs
   ·simp only [List.mem_singleton] at hs; subst hs; exact hk
  ·rcases h.has s hs hl with h1 | h1
   ·exact .inl (List.mem_append_left _ h1)
   ·rcases List.mem_cons.1 h1 with h1 | h1
    ·exact .inl (List.mem_append_right _ (by simp; omega))
    ·exact .inr h1
  ·rcases List.mem_append.1 hs with hs | hs
   ·exact List.mem_append_left _ (h.sub s hs)
   ·exact List.mem_append_right _ hs
  ·rcases List.mem_append.1 hs with hs | hs
   ·exact h.sound s hs
   ·simp only [List.mem_singleton] at hs; subst hs
    exact cl_of (inI_iff.2 hx)
  ·rcases List.mem_append.1 hs with hs | hs
   ·exact List.mem_append_left _ (h.shut s hs)
   ·exact List.mem_append_right _ hs
 ·rename_i hc
  refine ⟨h.nodup, h.inn, fun s hs hl => ?_, h.sub, h.sound, h.shut⟩
  rcases h.has s hs hl with h1 | h1
  ·exact .inl h1
  ·rcases List.mem_cons.1 h1 with h1 | h1
   ·left
    apply Decidable.byContradiction
    intro hn
    exact hc ⟨isSt_iff.2 ⟨s, h1.symm, hs⟩, by rw [← h1, Int.toNat_natCast]; exact hn⟩
   ·exact .inr h1
theorem PreC.done {n : NF} {L : Nat → Bool} {met ws : List Nat} (h : PreC n L [] met ws) : InvC n L met ws :=
 ⟨h.nodup, h.inn, fun s hs hl => (h.has s hs hl).resolve_right (by simp), h.sub, h.sound, fun s hs => .inl (h.shut s hs)⟩
structure MidC (n : NF) (L : Nat → Bool) (k : Nat) (todo : List (Int × Int)) (met ws : List Nat) : Prop where
 nodup : met.Nodup
 inn : ∀ s ∈ met, s < n.size
 has : ∀ s, s < n.size → L s = true → s ∈ met
 sub : ∀ s ∈ ws, s ∈ met
 sound : ∀ s ∈ met, cl n.eps L s = true
 own : k ∈ met
 rest : ∀ e ∈ todo, e ∈ n.ways.getD k []
 left : n.eps k = true → k + 1 ∈ met ∨ ∃ e ∈ todo, e.1 = -1
 shut : ∀ s ∈ met, s = k ∨ s ∈ ws ∨ (n.eps s = true → s + 1 ∈ met)
theorem InvC.pop {n : NF} {L : Nat → Bool} {met ws : List Nat} {k : Nat} (h : InvC n L met (ws ++ [k])) : MidC n L k (n.ways.getD k []) met ws where
 nodup := h.nodup
 inn := h.inn
 has := h.has
 sub := fun j hj => h.sub j (List.mem_append_left _ hj)
 sound := h.sound
 own := h.sub k (by simp)
 rest := fun e he => he
 left := fun he => by
  right
  unfold NF.eps at he
  obtain ⟨e, h1, h2⟩ := List.any_eq_true.1 he
  exact ⟨e, h1, by simpa using h2⟩
 shut := fun j hj => by
  rcases h.shut j hj with h1 | h1
  ·rcases List.mem_append.1 h1 with h1 | h1
   ·exact .inr (.inl h1)
   ·simp only [List.mem_singleton] at h1; exact .inl h1
  ·exact .inr (.inr h1)
theorem MidC.skip {n : NF} {L : Nat → Bool} {met ws : List Nat} {k : Nat} {e : Int × Int} {todo : List (Int × Int)} (he : e.1 ≠ -1) (h : MidC n L k (e :: todo) met ws) : MidC n L k todo met ws :=
 {h with
  rest := fun f hf => h.rest f (List.mem_cons_of_mem _ hf)
  left := fun h1 => by
   rcases h.left h1 with h2 | ⟨f, h2, h3⟩
   ·exact .inl h2
   ·rcases List.mem_cons.1 h2 with rfl | h2
    ·exact absurd h3 he
    ·exact .inr ⟨f, h2, h3⟩ }
theorem MidC.to {n : NF} (hg : n.Good) {L : Nat → Bool} {met ws : List Nat} {k : Nat} {e : Int × Int} {todo : List (Int × Int)} (he : e.1 = -1) (h : MidC n L k (e :: todo) met ws) : e.2 = ((k + 1 : Nat) : Int) ∧ k + 1 < n.size ∧ n.eps k = true := by
 have h1 := h.rest e (by simp)
 have := hg.to k (h.inn k h.own) e h1 he
 exact ⟨this.1, this.2, List.any_eq_true.2 ⟨e, h1, by simpa using he⟩⟩
theorem MidC.add {n : NF} (hg : n.Good) {L : Nat → Bool} {k : Nat} {s : WorkC} {e : Int × Int} {todo : List (Int × Int)} (he : e.1 = -1) (h : MidC n L k (e :: todo) s.1 s.2.1) : MidC n L k todo (addC n e.2 s).1 (addC n e.2 s).2.1 := by
 obtain ⟨h1, h2, h3⟩ := h.to hg he
 unfold addC
 rw [h1, Int.toNat_natCast]
 have hs : isSt n ((k + 1 : Nat) : Int) = true := isSt_iff.2 ⟨_, rfl, h2⟩
 split
 ·rename_i hc
  refine ⟨nodup_snoc h.nodup hc.2, fun s hs => ?_, fun s hs hl => List.mem_append_left _ (h.has s hs hl), fun s hs => ?_, fun s hs => ?_, List.mem_append_left _ h.own, fun f hf => h.rest f (List.mem_cons_of_mem _ hf), fun _ => .inl (List.mem_append_right _ (by simp)), fun j hj => ?_⟩
  ·rcases List.mem_append.1 hs with hs | hs
   ·exact h.inn s hs
   ·simp only [List.mem_singleton] at hs; subst hs; exact h2
  ·rcases List.mem_append.1 hs with hs | hs
   ·exact List.mem_append_left _ (h.sub s hs)
   ·exact List.mem_append_right _ hs
  ·rcases List.mem_append.1 hs with hs | hs
   ·exact h.sound s hs
   ·simp only [List.mem_singleton] at hs; subst hs
    exact cl_next (h.sound k h.own) h3
  ·rcases List.mem_append.1 hj with hj | hj
   ·rcases h.shut j hj with h4 | h4 | h4
    ·exact .inl h4
    ·exact .inr (.inl (List.mem_append_left _ h4))
    ·exact .inr (.inr fun h5 => List.mem_append_left _ (h4 h5))
   ·exact .inr (.inl (List.mem_append_right _ hj))
 ·rename_i hc
  have hin : k + 1 ∈ s.1 := Decidable.byContradiction fun hn => hc ⟨hs, hn⟩
  exact { h with
   rest := fun f hf => h.rest f (List.mem_cons_of_mem _ hf)
   left := fun _ => .inl hin }
theorem MidC.done {n : NF} {L : Nat → Bool} {k : Nat} {met ws : List Nat} (h : MidC n L k [] met ws) : InvC n L met ws where
 nodup := h.nodup
 inn := h.inn
 has := h.has
 sub := h.sub
 sound := h.sound
 shut := fun j hj => by
  rcases h.shut j hj with rfl | h1 | h1
  ·exact .inr fun he => (h.left he).resolve_right (by rintro ⟨e, he, _⟩; cases he)
  ·exact .inl h1
  ·exact .inr h1
theorem InvC.end_ {n : NF} (hg : n.Good) {l : List Int} {met : List Nat} (h : InvC n (inI l) met []) (s : Nat) : s ∈ met ↔ s ∈ closeN n l := by
 rw [closeN_mem]
 constructor
 ·exact fun hm => ⟨h.inn s hm, h.sound s hm⟩
 ·rintro ⟨h1, h2⟩
  have := cl_least (E := n.eps) (L := inI l) (Q := fun s => s < n.size → s ∈ met) (fun s hl hs => h.has s hs hl) (fun s hq he hs => (h.shut s (hq (by omega))).resolve_left (by simp) he) s h2
  exact this h1
theorem len_le {n : NF} {met : List Nat} (hn : met.Nodup) (hi : ∀ s ∈ met, s < n.size) : met.length ≤ n.size := by
 have := List.Nodup.length_le_of_subset (l₂ := List.range n.size) hn (fun s hs => List.mem_range.2 (hi s hs))
 simpa using this
def muC (n : NF) (s : WorkC) : Nat := 2 * (n.size - s.1.length) + s.2.1.length
theorem muC_add {n : NF} {x : Int} {s : WorkC} (h : (addC n x s).1.length ≤ n.size) : muC n (addC n x s) ≤ muC n s := by
 unfold muC addC at *
 split
 ·rename_i hk
  rw [if_pos hk] at h
  simp only [List.length_append, List.length_singleton] at h ⊢
  omega
 ·exact Nat.le_refl _
theorem addC_le {n : NF} {x : Int} {s : WorkC} (h : s.2.1.length ≤ s.1.length) : (addC n x s).2.1.length ≤ (addC n x s).1.length := by
 unfold addC; split
 ·simp only [List.length_append, List.length_singleton]; omega
 ·exact h
theorem risI_ext {l m : List Nat} (h : l.Pairwise (· < ·)) (h2 : m.Pairwise (· < ·)) (hm : ∀ y, y ∈ l ↔ y ∈ m) : l = m := by
 have nd : ∀ {l : List Nat}, l.Pairwise (· < ·) → l.Nodup := fun h => h.imp fun hab => Nat.ne_of_lt hab
 exact List.Perm.eq_of_pairwise (le := (· < ·)) (fun a b _ _ h1 h2 => by omega) h h2 ((List.perm_ext_iff_of_nodup (nd h) (nd h2)).2 hm)
theorem range_filter_ris (p : Nat → Bool) (n : Nat) : ((List.range n).filter p).Pairwise (· < ·) := (List.pairwise_lt_range (n := n)).filter _
theorem closeN_ris (n : NF) (l : List Int) : (closeN n l).Pairwise (· < ·) := range_filter_ris _ _
theorem sort_ris {met l : List Nat} (hn : met.Nodup) (hl : l.Pairwise (· < ·)) (hm : ∀ y, y ∈ met ↔ y ∈ l) : (toI met).mergeSort (fun a b => decide (a ≤ b)) = toI l := by
 have nd : l.Nodup := hl.imp fun hab => Nat.ne_of_lt hab
 have hp : (toI met).Perm (toI l) := ((List.perm_ext_iff_of_nodup hn nd).2 hm).map _
 refine List.Perm.eq_of_pairwise (le := (· ≤ ·)) (fun a b _ _ h1 h2 => by omega) ?_ ?_ ((List.mergeSort_perm _ _).trans hp)
 ·have := List.pairwise_mergeSort (le := fun a b : Int => decide (a ≤ b)) (fun a b c h1 h2 => by simp only [decide_eq_true_eq] at *; omega) (fun a b => by simp only [Bool.or_eq_true, decide_eq_true_eq]; omega) (toI met)
  exact this.imp fun h => by simpa using h
 ·unfold toI
  rw [List.pairwise_map]
  exact hl.imp fun h => by omega
theorem closeN_nil (n : NF) : closeN n [] = [] := by
 unfold closeN
 rw [List.filter_eq_nil_iff]
 intro s _ h
 exact absurd (cl_least (E := n.eps) (L := inI []) (Q := fun _ => False) (fun s h => by simp [inI] at h) (fun s h _ => h) s h) id
end Go.Vc

namespace Go.Vc
set_option linter.unusedSimpArgs false
set_option linter.unusedVariables false
theorem bl_lt : ∀ (x y : List UInt8), Op.bytesLess x y = decide (x < y)
 | [], [] => by simp [Op.bytesLess]
 | _ :: _, [] => by simp [Op.bytesLess]
 | [], _ :: _ => by simp [Op.bytesLess]
 | a :: x, b :: y => by
  rw [Op.bytesLess, bl_lt x y]
  simp only [List.cons_lt_cons_iff]
  by_cases h1 : a < b <;> by_cases h2 : a = b <;> by_cases h3 : x < y <;> simp [h1, h2, h3]
abbrev octs (b : ByteArray) : List UInt8 := b.data.toList
abbrev ofOcts (l : List UInt8) : ByteArray := ⟨l.toArray⟩
theorem octs_ofOcts (l : List UInt8) : octs (ofOcts l) = l := by simp [octs, ofOcts]
theorem ltB_octs (a b : ByteArray) : ltB a b = decide (octs a < octs b) := by
 unfold ltB
 rw [bl_lt, Lib.toList_data, Lib.toList_data]
def srtL (l : List (List UInt8)) : List (List UInt8) := l.mergeSort fun x y => decide (x ≤ y)
def srtB (l : List ByteArray) : List ByteArray := (srtL (l.map octs)).map ofOcts
theorem srtB_mem {l : List ByteArray} {y : ByteArray} : y ∈ srtB l ↔ y ∈ l := by
 unfold srtB srtL
 simp only [List.mem_map, List.mem_mergeSort]
 constructor
 ·rintro ⟨a, ⟨b, hb, rfl⟩, rfl⟩; exact hb
 ·exact fun h => ⟨octs y, ⟨y, h, rfl⟩, rfl⟩
theorem srtB_len (l : List ByteArray) : (srtB l).length = l.length := by simp [srtB, srtL]
theorem srtB_sorted (l : List ByteArray) : (srtB l).Pairwise (fun a b => ltB b a = false) := by
 unfold srtB srtL
 rw [List.pairwise_map]
 have := List.pairwise_mergeSort (le := fun x y : List UInt8 => decide (x ≤ y)) (fun a b c h1 h2 => by simp only [decide_eq_true_eq] at *; exact List.le_trans h1 h2) (fun a b => by simp only [Bool.or_eq_true, decide_eq_true_eq]; exact List.le_total a b) (l.map octs)
 refine this.imp fun {a b} h => ?_
 rw [ltB_octs, octs_ofOcts, octs_ofOcts]
 simpa using h
theorem ltB_anti {a b : ByteArray} (h : ltB a b = false) (h2 : ltB b a = false) : a = b := Decidable.byContradiction fun hn => by
 rw [ltB_tot h hn] at h2; cases h2
def keepB (d : List ByteArray) (j : Nat) : Bool := decide (j = 0) || decide (d.getD j ⟨#[]⟩ ≠ d.getD (j - 1) ⟨#[]⟩)
def cupB (d : List ByteArray) (n : Nat) : List ByteArray := ((List.range n).filter (keepB d)).map fun j => d.getD j ⟨#[]⟩
theorem cupB_succ (d : List ByteArray) (n : Nat) : cupB d (n + 1) = if keepB d n = true then cupB d n ++ [d.getD n ⟨#[]⟩] else cupB d n := by
 unfold cupB
 rw [List.range_succ, List.filter_append, List.map_append]
 cases h : keepB d n <;> simp [h]
theorem cupB_all {d : List ByteArray} : ∀ n, n ≤ d.length → (∀ j, j < n → keepB d j = true) → cupB d n = d.take n
 | 0, _, _ => by simp [cupB]
 | n + 1, h, hk => by
  rw [cupB_succ, if_pos (hk n (by omega)), cupB_all n (by omega) (fun j hj => hk j (by omega)), List.take_succ_eq_append_getElem (by omega)]
  simp [List.getD_eq_getElem?_getD, show n < d.length by omega]
theorem cupB_mem {d : List ByteArray} {y : ByteArray} : ∀ n, y ∈ cupB d n ↔ ∃ j, j < n ∧ y = d.getD j ⟨#[]⟩
 | 0 => by simp [cupB]
 | n + 1 => by
  have ih := cupB_mem (d := d) (y := y) n
  rw [cupB_succ]
  constructor
  ·intro h
   have : y ∈ cupB d n ∨ y = d.getD n ⟨#[]⟩ := by
    split at h
    ·simpa using h
    ·exact .inl h
   rcases this with h | h
   ·obtain ⟨j, h1, h2⟩ := ih.1 h; exact ⟨j, by omega, h2⟩
   ·exact ⟨n, by omega, h⟩
  ·rintro ⟨j, h1, h2⟩
   by_cases hj : j < n
   ·have := ih.2 ⟨j, hj, h2⟩
    split
    ·exact List.mem_append_left _ this
    ·exact this
   ·have : j = n := by omega
    subst this
    split
    ·rw [h2]; simp
    ·rename_i hk
     simp only [keepB, Bool.or_eq_true, decide_eq_true_eq, not_or, Decidable.not_not] at hk
     exact ih.2 ⟨j - 1, by omega, h2.trans hk.2⟩
theorem sorted_get {d : List ByteArray} (h : d.Pairwise (fun a b => ltB b a = false)) {i j : Nat} (hi : i ≤ j) (hj : j < d.length) : ltB (d.getD j ⟨#[]⟩) (d.getD i ⟨#[]⟩) = false := by
 have e : ∀ k, k < d.length → d.getD k ⟨#[]⟩ = d[k]?.getD ⟨#[]⟩ := fun k _ => List.getD_eq_getElem?_getD ..
 rcases Nat.lt_or_eq_of_le hi with h1 | rfl
 ·have := List.pairwise_iff_getElem.1 h i j (by omega) hj h1
  simpa [List.getD_eq_getElem?_getD, hj, show i < d.length by omega] using this
 ·exact ltB_irr _
theorem cupB_ris {d : List ByteArray} (h : d.Pairwise (fun a b => ltB b a = false)) {n : Nat} (hn : n ≤ d.length) : RisB (cupB d n) := by
 unfold cupB RisB
 rw [List.pairwise_map]
 have hr : ((List.range n).filter (keepB d)).Pairwise (fun i j => i < j ∧ j < n ∧ keepB d j = true) := by
  have h1 : ((List.range n).filter (keepB d)).Pairwise (· < ·) := (List.pairwise_lt_range (n := n)).filter _
  refine List.Pairwise.imp_of_mem (R := (· < ·)) (fun {i j} hi hj hij => ?_) h1
  have hj := List.mem_filter.1 hj
  exact ⟨hij, List.mem_range.1 hj.1, hj.2⟩
 refine hr.imp fun {i j} ⟨h1, h2, h3⟩ => ?_
 cases hc : ltB (d.getD i ⟨#[]⟩) (d.getD j ⟨#[]⟩) with
 | true => rfl
 | false =>
  exfalso
  have e1 := ltB_anti hc (sorted_get h (i := i) (j := j) (by omega) (by omega))
  have a1 := sorted_get h (i := i) (j := j - 1) (by omega) (by omega)
  have a2 := sorted_get h (i := j - 1) (j := j) (by omega) (by omega)
  rw [e1] at a1
  have e2 := ltB_anti a2 a1
  simp only [keepB, Bool.or_eq_true, decide_eq_true_eq] at h3
  rcases h3 with h3 | h3
  ·omega
  ·exact h3 e2
theorem cup_srt (l : List ByteArray) : cupB (srtB l) l.length = addsB [] l := by
 refine risB_ext (cupB_ris (srtB_sorted l) (by rw [srtB_len]; exact Nat.le_refl _)) (addsB_ris (by simp [RisB])) fun y => ?_
 rw [cupB_mem, addsB_mem]
 simp only [List.not_mem_nil, false_or]
 rw [← srtB_mem (l := l), ← srtB_len l]
 constructor
 ·rintro ⟨j, hj, rfl⟩
  rw [List.getD_eq_getElem?_getD, List.getElem?_eq_getElem hj]; exact List.getElem_mem hj
 ·intro hm
  obtain ⟨j, hj, rfl⟩ := List.getElem_of_mem hm
  exact ⟨j, hj, by simp [List.getD_eq_getElem?_getD, hj]⟩
theorem ris_get {d : List ByteArray} (h : RisB d) {i j : Nat} (hi : i < j) (hj : j < d.length) : ltB (d.getD i ⟨#[]⟩) (d.getD j ⟨#[]⟩) = true := by
 have := List.pairwise_iff_getElem.1 h i j (by omega) hj hi
 simpa [List.getD_eq_getElem?_getD, hj, show i < d.length by omega] using this
theorem letterN_at {d : List ByteArray} (h : RisB d) {i : Nat} (hi : i < d.length) : letterN d (d.getD i ⟨#[]⟩) = i := by
 have e : d.getD i ⟨#[]⟩ = d[i] := by simp [List.getD_eq_getElem?_getD, hi]
 rw [e]
 unfold letterN
 rw [List.findIdx_eq hi]
 refine ⟨by simp, fun j hj => ?_⟩
 simp only [decide_eq_false_iff_not]
 intro e2
 have := ris_get h hj hi
 rw [e, show d.getD j ⟨#[]⟩ = d[j] by simp [List.getD_eq_getElem?_getD, show j < d.length by omega], e2, ltB_irr] at this
 cases this
theorem letterN_out {d : List ByteArray} {p : ByteArray} (h : p ∉ d) : letterN d p = d.length := by
 unfold letterN
 rw [List.findIdx_eq_length]
 intro x hx
 simp only [decide_eq_false_iff_not]
 rintro rfl; exact h hx
theorem letterN_srch {d : List ByteArray} (h : RisB d) {p : ByteArray} {i : Nat} (hi : i ≤ d.length) (h1 : ∀ k, k < i → ltB (d.getD k ⟨#[]⟩) p = true) (h2 : ∀ k, i ≤ k → k < d.length → ltB (d.getD k ⟨#[]⟩) p = false) :
  (i < d.length ∧ d.getD i ⟨#[]⟩ = p ∧ letterN d p = i) ∨ (¬ (i < d.length ∧ d.getD i ⟨#[]⟩ = p) ∧ letterN d p = d.length) := by
 by_cases hc : i < d.length ∧ d.getD i ⟨#[]⟩ = p
 ·exact .inl ⟨hc.1, hc.2, by rw [← hc.2]; exact letterN_at h hc.1⟩
 ·refine .inr ⟨hc, letterN_out fun hm => ?_⟩
  obtain ⟨k, hk, e⟩ := List.getElem_of_mem hm
  have e' : d.getD k ⟨#[]⟩ = p := by simp [List.getD_eq_getElem?_getD, hk, e]
  by_cases hki : k < i
  ·have := h1 k hki
   rw [e', ltB_irr] at this; cases this
  ·by_cases hke : k = i
   ·subst hke; exact hc ⟨hk, e'⟩
   ·have a1 := ris_get h (i := i) (j := k) (by omega) hk
    have a2 := h2 i (Nat.le_refl _) (by omega)
    rw [e'] at a1
    rw [a1] at a2; cases a2
end Go.Vc
