/- A part of the proofs of the seat YtbgobfldphoncaaDoor: the contracts of functions, each proved out of its code. -/
import Derived.Test.YtbgobfldphoncaaDoorVh
import Derived.Test.YtbgobfldphoncaaDoorProg
import Derived.Lib.Bytealg
import Derived.Shelf.Strings.Search2
import Derived.Shelf.Strings.Count
import Derived.Shelf.Small.Strs
namespace Go.Vc
set_option linter.unusedSimpArgs false
set_option linter.unusedVariables false

/-! ## Names, without the program: parts between dots -/
abbrev mkB (l : List UInt8) : ByteArray := ⟨⟨l⟩⟩
theorem mkB_inj {a b : List UInt8} (h : mkB a = mkB b) : a = b := by injection h with h; injection h
theorem mkB_list (s : ByteArray) : mkB s.data.toList = s := by cases s; rfl
abbrev sDot : ByteArray := ⟨#[46]⟩
abbrev sAny : ByteArray := ⟨#[42]⟩
abbrev sAll : ByteArray := ⟨#[42, 42]⟩
def dotAt (s : ByteArray) : Int := Lib.indexByte s.data.toList 46
def consH (c : UInt8) : List (List UInt8) → List (List UInt8)
  | [] => [[c]]
  | p :: ps => (c :: p) :: ps
def cutL : List UInt8 → List (List UInt8)
  | [] => [[]]
  | c :: l => if c = 46 then [] :: cutL l else consH c (cutL l)
theorem cutL_ne : ∀ l, cutL l ≠ []
  | [] => by simp [cutL]
  | c :: l => by
    unfold cutL; split
    · simp
    · cases h : cutL l <;> simp [consH]
def cutS (s : ByteArray) : List ByteArray := (cutL s.data.toList).map mkB
theorem cutS_ne (s : ByteArray) : cutS s ≠ [] := by simp [cutS, cutL_ne]
theorem cutS_pos (s : ByteArray) : 0 < (cutS s).length := List.length_pos_iff.2 (cutS_ne s)
theorem indexByte_lt : ∀ (l : List UInt8) (c : UInt8), Lib.indexByte l c = -1 ∨ 0 ≤ Lib.indexByte l c ∧ Lib.indexByte l c < l.length
  | [], _ => .inl rfl
  | b :: l, c => by
    have ih := indexByte_lt l c
    simp only [Lib.indexByte]
    split
    · right; simp only [List.length_cons]; omega
    · split
      · exact .inl rfl
      · rename_i h; right
        have : Lib.indexByte l c ≠ -1 := by simpa using h
        simp only [List.length_cons]
        omega
theorem dotAt_lt (s : ByteArray) : dotAt s = -1 ∨ 0 ≤ dotAt s ∧ dotAt s < s.size := by
  have := indexByte_lt s.data.toList 46
  simpa [dotAt] using this
/-- no dot -/
theorem cutL_none : ∀ l : List UInt8, Lib.indexByte l 46 = -1 → cutL l = [l]
  | [], _ => rfl
  | b :: l, h => by
    simp only [Lib.indexByte] at h
    split at h
    · omega
    · rename_i hb
      have hb' : b ≠ 46 := by simpa using hb
      have hl : Lib.indexByte l 46 = -1 := by
        split at h
        · rename_i h2; simpa using h2
        · rename_i h2
          have := indexByte_lt l 46
          have h3 : Lib.indexByte l 46 ≠ -1 := by simpa using h2
          omega
      simp [cutL, hb', cutL_none l hl, consH]
theorem cutL_some : ∀ l : List UInt8, 0 ≤ Lib.indexByte l 46 → cutL l = l.take (Lib.indexByte l 46).toNat :: cutL (l.drop ((Lib.indexByte l 46).toNat + 1))
  | [], h => by simp [Lib.indexByte] at h
  | b :: l, h => by
    by_cases hb : b = 46
    · subst hb
      have e : Lib.indexByte (46 :: l) 46 = 0 := by simp [Lib.indexByte]
      rw [e]; simp [cutL]
    · have hb' : (b == 46) = false := by simpa using hb
      rcases indexByte_lt l 46 with h1 | h1
      · simp [Lib.indexByte, hb', h1] at h
      · have hne : (Lib.indexByte l 46 == -1) = false := by simp; omega
        have e : Lib.indexByte (b :: l) 46 = Lib.indexByte l 46 + 1 := by simp [Lib.indexByte, hb', hne]
        rw [e]
        have e2 : (Lib.indexByte l 46 + 1).toNat = (Lib.indexByte l 46).toNat + 1 := by omega
        rw [e2, List.take_succ_cons, List.drop_succ_cons]
        simp only [cutL, hb, if_false]
        rw [cutL_some l h1.1]
        rfl
def cutB (s : ByteArray) : ByteArray := if 0 ≤ dotAt s then s.extract 0 (dotAt s).toNat else s
def cutA (s : ByteArray) : ByteArray := if 0 ≤ dotAt s then s.extract ((dotAt s).toNat + 1) s.size else ⟨#[]⟩
theorem extract_list (s : ByteArray) (a b : Nat) : (s.extract a b).data.toList = (s.data.toList.drop a).take (b - a) := by
  rw [ByteArray.data_extract, Array.toList_extract]
theorem ext_list {a b : ByteArray} (h : a.data.toList = b.data.toList) : a = b := by
  cases a; cases b; simp only at h; rw [Array.toList_inj.1 h]
theorem cutS_none {s : ByteArray} (h : ¬ 0 ≤ dotAt s) : cutS s = [s] := by
  have h1 : Lib.indexByte s.data.toList 46 = -1 := by rcases dotAt_lt s with h2 | h2; exact h2; omega
  unfold cutS
  rw [cutL_none _ h1, List.map_cons, List.map_nil, mkB_list]
theorem cutS_some {s : ByteArray} (h : 0 ≤ dotAt s) : cutS s = cutB s :: cutS (cutA s) := by
  unfold cutS
  rw [cutL_some _ h, List.map_cons]
  have e1 : mkB (s.data.toList.take (Lib.indexByte s.data.toList 46).toNat) = cutB s := ext_list (by
    unfold cutB; rw [if_pos h, extract_list]; simp [dotAt])
  have e2 : (cutA s).data.toList = s.data.toList.drop ((Lib.indexByte s.data.toList 46).toNat + 1) := by
    unfold cutA; rw [if_pos h, extract_list]
    rw [List.take_of_length_le (by simp [dotAt])]
    rfl
  rw [e1, e2]
theorem cutB_size (s : ByteArray) : (cutB s).size ≤ s.size := by
  unfold cutB; split
  · rw [ByteArray.size_extract]; omega
  · exact Nat.le_refl _
theorem cutA_size (s : ByteArray) : (cutA s).size ≤ s.size := by
  unfold cutA; split
  · rw [ByteArray.size_extract]; omega
  · exact Nat.zero_le _
theorem cutA_less {s : ByteArray} (h : 0 ≤ dotAt s) : (cutA s).size < s.size := by
  have := dotAt_lt s
  unfold cutA; rw [if_pos h, ByteArray.size_extract]; omega
/-- one more octet -/
def snocL (c : UInt8) : List (List UInt8) → List (List UInt8)
  | [] => [[c]]
  | [p] => [p ++ [c]]
  | p :: q :: ps => p :: snocL c (q :: ps)
theorem snocL_cons (c d : UInt8) : ∀ ps : List (List UInt8), ps ≠ [] → snocL c (consH d ps) = consH d (snocL c ps)
  | [], h => absurd rfl h
  | [p], _ => rfl
  | p :: q :: ps, _ => rfl
theorem cutL_snoc (c : UInt8) : ∀ l : List UInt8, cutL (l ++ [c]) = if c = 46 then cutL l ++ [[]] else snocL c (cutL l)
  | [] => by
    simp only [List.nil_append, cutL]
    split <;> rfl
  | d :: l => by
    have ih := cutL_snoc c l
    simp only [List.cons_append, cutL, ih]
    by_cases hc : c = 46
    · simp only [hc, if_true]
      by_cases hd : d = 46
      · simp [hd]
      · simp only [hd, if_false]
        cases h : cutL l with
        | nil => exact absurd h (cutL_ne l)
        | cons p ps => rfl
    · simp only [hc, if_false]
      by_cases hd : d = 46
      · simp only [hd, if_true]
        cases h : cutL l with
        | nil => exact absurd h (cutL_ne l)
        | cons p ps => rfl
      · simp only [hd, if_false]
        exact (snocL_cons c d _ (cutL_ne l)).symm
theorem snocL_last (c : UInt8) : ∀ ps : List (List UInt8), ps ≠ [] → snocL c ps = ps.set (ps.length - 1) (ps.getLastD [] ++ [c])
  | [], h => absurd rfl h
  | [p], _ => rfl
  | p :: q :: ps, _ => by
    have ih := snocL_last c (q :: ps) (by simp)
    simp only [snocL, ih, List.length_cons, Nat.add_sub_cancel, List.set_cons_succ, List.getLastD_cons]
/-- the parts, with dots between -/
def joinL : List (List UInt8) → List UInt8
  | [] => []
  | [p] => p
  | p :: q :: ps => p ++ 46 :: joinL (q :: ps)
theorem joinL_consH (c : UInt8) : ∀ ps : List (List UInt8), ps ≠ [] → joinL (consH c ps) = c :: joinL ps
  | [], h => absurd rfl h
  | [p], _ => rfl
  | p :: q :: ps, _ => rfl
theorem joinL_cut : ∀ l : List UInt8, joinL (cutL l) = l
  | [] => rfl
  | c :: l => by
    have ih := joinL_cut l
    simp only [cutL]
    split
    · rename_i h
      cases h2 : cutL l with
      | nil => exact absurd h2 (cutL_ne l)
      | cons p ps => rw [h2] at ih; simp only [joinL, List.nil_append, ih, h]
    · rw [joinL_consH _ _ (cutL_ne l), ih]
theorem cutL_inj {a b : List UInt8} (h : cutL a = cutL b) : a = b := by rw [← joinL_cut a, h, joinL_cut]
theorem map_mkB_inj : ∀ {a b : List (List UInt8)}, a.map mkB = b.map mkB → a = b
  | [], [], _ => rfl
  | [], _ :: _, h => by simp at h
  | _ :: _, [], h => by simp at h
  | x :: a, y :: b, h => by
    simp only [List.map_cons, List.cons.injEq] at h
    rw [mkB_inj h.1, map_mkB_inj h.2]
theorem cutS_inj {a b : ByteArray} (h : cutS a = cutS b) : a = b := ext_list (cutL_inj (map_mkB_inj h))
theorem cutL_nodot : ∀ {l : List UInt8}, (∀ c ∈ l, c ≠ 46) → cutL l = [l]
  | [], _ => rfl
  | c :: l, h => by simp [cutL, h c (by simp), cutL_nodot fun d hd => h d (List.mem_cons_of_mem _ hd), consH]
theorem cutL_app : ∀ (a b : List UInt8), cutL (a ++ 46 :: b) = cutL a ++ cutL b
  | [], b => by simp [cutL]
  | c :: a, b => by
    simp only [List.cons_append, cutL, cutL_app a b]
    split
    · rfl
    · cases h : cutL a with
      | nil => exact absurd h (cutL_ne a)
      | cons p ps => rfl
theorem cutL_join : ∀ {ps : List (List UInt8)}, ps ≠ [] → (∀ p ∈ ps, ∀ c ∈ p, c ≠ 46) → cutL (joinL ps) = ps
  | [], h, _ => absurd rfl h
  | [p], _, h => cutL_nodot (h p (by simp))
  | p :: q :: ps, _, h => by
    simp only [joinL, cutL_app]
    rw [cutL_nodot (h p (by simp)), cutL_join (by simp) fun r hr => h r (List.mem_cons_of_mem _ hr)]
    rfl
theorem cutL_parts : ∀ (l : List UInt8), ∀ p ∈ cutL l, ∀ c ∈ p, c ≠ 46
  | [], p, hp, c, hc => by simp only [cutL, List.mem_singleton] at hp; subst hp; cases hc
  | d :: l, p, hp, c, hc => by
    have ih := cutL_parts l
    simp only [cutL] at hp
    split at hp
    · rcases List.mem_cons.1 hp with rfl | hp
      · cases hc
      · exact ih p hp c hc
    · rename_i hd
      cases h : cutL l with
      | nil => exact absurd h (cutL_ne l)
      | cons q ps =>
        rw [h] at hp ih
        simp only [consH] at hp
        rcases List.mem_cons.1 hp with rfl | hp
        · rcases List.mem_cons.1 hc with rfl | hc
          · exact hd
          · exact ih q (by simp) c hc
        · exact ih p (List.mem_cons_of_mem _ hp) c hc
theorem cutS_app (a b : ByteArray) : cutS (a ++ sDot ++ b) = cutS a ++ cutS b := by
  unfold cutS
  rw [← List.map_append, ← cutL_app]
  simp [ByteArray.data_append]
/-! ### which texts -/
def okR (r : Int) : Bool := decide (97 ≤ r ∧ r ≤ 122) || decide (48 ≤ r ∧ r ≤ 57) || decide (r = 95)
def partB (s : ByteArray) : Bool := decide (s ≠ ⟨#[]⟩) && s.data.toList.all (fun b => okR b.toNat)
def globP (s : ByteArray) : Bool := decide (s = sAny) || (decide (s = sAll) || partB s)
def allN (may : ByteArray → Bool) : Nat → ByteArray → Bool
  | 0, _ => false
  | n + 1, s => may (cutB s) && (!decide (0 ≤ dotAt s) || allN may n (cutA s))
theorem allN_cut (may : ByteArray → Bool) : ∀ n s, allN may n s = (decide ((cutS s).length ≤ n) && (cutS s).all may)
  | 0, s => by
    have h : ¬ (cutS s).length ≤ 0 := by have := cutS_pos s; omega
    simp only [allN, h, decide_false, Bool.false_and]
  | n + 1, s => by
    simp only [allN]
    by_cases h : 0 ≤ dotAt s
    · rw [cutS_some h, allN_cut may n]
      simp only [h, decide_true, Bool.not_true, Bool.false_or, List.length_cons, Nat.add_le_add_iff_right, List.all_cons]
      cases may (cutB s) <;> simp
    · have e : cutB s = s := by unfold cutB; rw [if_neg h]
      rw [cutS_none h, e]
      simp [h]
def nameB (may : ByteArray → Bool) (s : ByteArray) : Bool := decide (s.size ≤ 40) && (decide ((cutS s).length ≤ 8) && (cutS s).all may)
def topicB (s : ByteArray) : Bool := nameB partB s
def globB (s : ByteArray) : Bool := nameB globP s
def partsB (s : ByteArray) : List ByteArray := if globB s then cutS s else []
theorem partsB_len (s : ByteArray) : (partsB s).length ≤ 8 := by
  unfold partsB
  split
  · rename_i h
    simp only [globB, nameB, Bool.and_eq_true, decide_eq_true_eq] at h
    exact h.2.1
  · simp
theorem topic_glob {s : ByteArray} (h : topicB s = true) : globB s = true := by
  simp only [topicB, globB, nameB, Bool.and_eq_true, List.all_eq_true, globP, Bool.or_eq_true] at h ⊢
  exact ⟨h.1, h.2.1, fun x hx => .inr (.inr (h.2.2 x hx))⟩
theorem part_ne {s : ByteArray} (h : partB s = true) : s ≠ sAny ∧ s ≠ sAll := by
  constructor <;> · rintro rfl; revert h; decide
/-! ### what meets -/
def matchL : List ByteArray → List ByteArray → Bool
  | [], t => decide (t.length = 0)
  | p :: g, t => if p = sAll then (List.range (t.length + 1)).any (fun i => matchL g (t.drop i)) else match t with
    | [] => false
    | q :: t' => (decide (p = sAny) || decide (p = q)) && matchL g t'
inductive MatchP : List ByteArray → List ByteArray → Prop
  | nil : MatchP [] []
  | skip {g t} : MatchP g t → MatchP (sAll :: g) t
  | take {g q t} : MatchP (sAll :: g) t → MatchP (sAll :: g) (q :: t)
  | one {p g q t} : p ≠ sAll → (p = sAny ∨ p = q) → MatchP g t → MatchP (p :: g) (q :: t)
theorem matchP_drop {g : List ByteArray} : ∀ {t : List ByteArray}, MatchP (sAll :: g) t ↔ ∃ i, i ≤ t.length ∧ MatchP g (t.drop i)
  | [] => by
    constructor
    · intro h
      cases h with
      | skip h => exact ⟨0, Nat.le_refl _, h⟩
    · rintro ⟨i, hi, h⟩
      simp only [List.drop_nil] at h
      exact .skip h
  | q :: t => by
    constructor
    · intro h
      cases h with
      | skip h => exact ⟨0, Nat.zero_le _, h⟩
      | take h =>
        obtain ⟨i, hi, h⟩ := matchP_drop.1 h
        exact ⟨i + 1, by simp; omega, by simpa using h⟩
      | one h1 h2 h3 => exact absurd rfl h1
    · rintro ⟨i, hi, h⟩
      cases i with
      | zero => exact .skip h
      | succ i => exact .take (matchP_drop.2 ⟨i, by simpa using hi, by simpa using h⟩)
theorem matchL_iff : ∀ {g t : List ByteArray}, matchL g t = true ↔ MatchP g t
  | [], t => by
    simp only [matchL, decide_eq_true_eq, List.length_eq_zero_iff]
    constructor
    · rintro rfl; exact .nil
    · intro h; cases h; rfl
  | p :: g, t => by
    by_cases hp : p = sAll
    · subst hp
      rw [matchP_drop]
      simp only [matchL, if_true, List.any_eq_true, List.mem_range]
      exact exists_congr fun i => ⟨fun ⟨h1, h2⟩ => ⟨by omega, matchL_iff.1 h2⟩, fun ⟨h1, h2⟩ => ⟨by omega, matchL_iff.2 h2⟩⟩
    · cases t with
      | nil =>
        simp only [matchL, hp, if_false, Bool.false_eq_true, false_iff]
        intro h
        cases h with
        | skip h => exact hp rfl
      | cons q t =>
        simp only [matchL, hp, if_false, Bool.and_eq_true, Bool.or_eq_true, decide_eq_true_eq]
        constructor
        · rintro ⟨h1, h2⟩; exact .one hp h1 (matchL_iff.1 h2)
        · intro h
          cases h with
          | skip h => exact absurd rfl hp
          | take h => exact absurd rfl hp
          | one h1 h2 h3 => exact ⟨h2, matchL_iff.2 h3⟩
def meetsB (g t : ByteArray) : Bool := globB g && (topicB t && matchL (cutS g) (cutS t))
end Go.Vc

namespace Go.Vc
open Go.Proofs
set_option maxRecDepth 100000

/-- 'trystlaw02.Few' -/
def M10 : MC := (.seq (.reg [⟨(some 2), none, (.q (.mv (.c (.string ⟨#[]⟩))))⟩] [] [0] []) (.seq (.seq (.reg [⟨(some 3), none, (.q (.mv (.t 0)))⟩, ⟨(some 4), none, (.q (.len (.t 3) true))⟩, ⟨(some 5),
  none, (.q (.bin .gtr (.t 4) (.c (.int .i64 60))))⟩] [] [0, 5] []) (.cond (.t 5) (.seq (.reg [⟨(some 6), none, (.q (.mv (.t 0)))⟩, ⟨(some 7), none, (.q (.slc (.t 6) none (some (.c (.int .i64 60)))
  0 true))⟩, ⟨(some 2), none, (.q (.mv (.t 7)))⟩] [] [2] []) .ret) .skip)) (.seq (.reg [⟨(some 8), none, (.q (.mv (.t 0)))⟩, ⟨(some 2), none, (.q (.mv (.t 8)))⟩] [] [2] []) .ret)))
theorem mc10 : ofCode Tryd.prog [] Tryd.f10.ntmps [(0, ⟨[0], [], [], 0, [], none⟩),
    (1, ⟨[0, 5], [], [], 0, [], none⟩),
    (2, ⟨[2], [], [], 0, [], none⟩),
    (3, ⟨[2], [], [], 0, [], none⟩)] (Tryd.f10.body.getD .skip) = some M10 := by kernel_rfl
theorem Run10 {args : List PV} {v : AV} {rs : List (Nat × List PV)} (ids : List Bool) (h : args.length ≤ 9) (hv : run Tryd.prog (retK [RV.tmp 2] ids v rs) M10 [] ⟨entry 0 args, []⟩) : Fn Tryd.prog 10 args v rs :=
  Fn_run ids (by kernel_rfl) Tryd.func10 (by decide) rfl mc10 (by kernel_rfl) (by rw [Tryd.ntmps10]; exact h) (by rw [Tryd.ntmps10]; decide) hv

/-- 'name.Topic' -/
def M12 : MC := (.seq (.reg [⟨(some 2), none, (.q (.mv (.c (.bool false))))⟩] [] [0] []) (.seq (.reg [⟨(some 3), none, (.q (.mv (.t 0)))⟩, ⟨(some 4), none, (.call (.f 25) [(.t 3), (.f 26)])⟩,
  ⟨(some 2), none, (.q (.mv (.t 4)))⟩] [] [2] [1004]) .ret))
theorem mc12 : ofCode Tryd.prog [] Tryd.f12.ntmps [(0, ⟨[0], [], [], 0, [], none⟩),
    (1, ⟨[2], [1004], [], 0, [], none⟩)] (Tryd.f12.body.getD .skip) = some M12 := by kernel_rfl
theorem Run12 {args : List PV} {v : AV} {rs : List (Nat × List PV)} (ids : List Bool) (h : args.length ≤ 5) (hv : run Tryd.prog (retK [RV.tmp 2] ids v rs) M12 [] ⟨entry 0 args, []⟩) : Fn Tryd.prog 12 args v rs :=
  Fn_run ids (by kernel_rfl) Tryd.func12 (by decide) rfl mc12 (by kernel_rfl) (by rw [Tryd.ntmps12]; exact h) (by rw [Tryd.ntmps12]; decide) hv

/-- 'name.Glob' -/
def M14 : MC := (.seq (.reg [⟨(some 2), none, (.q (.mv (.c (.bool false))))⟩] [] [0] []) (.seq (.reg [⟨(some 3), none, (.q (.mv (.t 0)))⟩, ⟨(some 4), none, (.call (.f 25) [(.t 3), (.f 27)])⟩,
  ⟨(some 2), none, (.q (.mv (.t 4)))⟩] [] [2] [1004]) .ret))
theorem mc14 : ofCode Tryd.prog [] Tryd.f14.ntmps [(0, ⟨[0], [], [], 0, [], none⟩),
    (1, ⟨[2], [1004], [], 0, [], none⟩)] (Tryd.f14.body.getD .skip) = some M14 := by kernel_rfl
theorem Run14 {args : List PV} {v : AV} {rs : List (Nat × List PV)} (ids : List Bool) (h : args.length ≤ 5) (hv : run Tryd.prog (retK [RV.tmp 2] ids v rs) M14 [] ⟨entry 0 args, []⟩) : Fn Tryd.prog 14 args v rs :=
  Fn_run ids (by kernel_rfl) Tryd.func14 (by decide) rfl mc14 (by kernel_rfl) (by rw [Tryd.ntmps14]; exact h) (by rw [Tryd.ntmps14]; decide) hv

/-- 'name.Parts' -/
def M15 : MC := (.seq (.reg [⟨(some 2), none, (.q (.mv .nil))⟩] [] [0] []) (.seq (.seq (.reg [⟨(some 3), none, (.q (.mv (.t 0)))⟩, ⟨(some 4), none, (.call (.f 14) [(.t 3)])⟩, ⟨(some 5), none,
  (.q (.not (.t 4)))⟩] [] [0, 5] [1004]) (.cond (.t 5) (.seq (.reg [⟨(some 2), none, (.q (.mv .nil))⟩] [] [2] [1007]) .ret) .skip)) (.seq (.reg [⟨(some 6), none, (.q (.mv (.t 0)))⟩, ⟨(some 7), none,
  (.call (.f 23) [(.t 6), (.c (.string ⟨#[46]⟩))])⟩, ⟨(some 2), none, (.q (.mv (.t 7)))⟩] [] [2] [1007]) .ret)))
theorem mc15 : ofCode Tryd.prog [] Tryd.f15.ntmps [(0, ⟨[0], [], [], 0, [], none⟩),
    (1, ⟨[0, 5], [1004], [], 0, [], none⟩),
    (2, ⟨[2], [1007], [], 0, [], none⟩),
    (3, ⟨[2], [1007], [], 0, [], none⟩)] (Tryd.f15.body.getD .skip) = some M15 := by kernel_rfl
theorem Run15 {args : List PV} {v : AV} {rs : List (Nat × List PV)} (ids : List Bool) (h : args.length ≤ 8) (hv : run Tryd.prog (retK [RV.tmp 2] ids v rs) M15 [] ⟨entry 0 args, []⟩) : Fn Tryd.prog 15 args v rs :=
  Fn_run ids (by kernel_rfl) Tryd.func15 (by decide) rfl mc15 (by kernel_rfl) (by rw [Tryd.ntmps15]; exact h) (by rw [Tryd.ntmps15]; decide) hv

/-- 'strings.Split' -/
def M23 : MC := (.seq (.reg [⟨(some 4), none, (.q (.mv .nil))⟩] [] [0, 1] []) (.seq (.reg [⟨(some 5), none, (.q (.mv (.t 0)))⟩, ⟨(some 6), none, (.q (.mv (.t 1)))⟩, ⟨(some 7), none, (.call (.f 32)
  [(.t 5), (.t 6), (.c (.int .i64 0)), (.c (.int .i64 (-1)))])⟩, ⟨(some 4), none, (.q (.mv (.t 7)))⟩] [] [4] [1007]) .ret))
theorem mc23 : ofCode Tryd.prog [] Tryd.f23.ntmps [(0, ⟨[0, 1], [], [], 0, [], none⟩),
    (1, ⟨[4], [1007], [], 0, [], none⟩)] (Tryd.f23.body.getD .skip) = some M23 := by kernel_rfl
theorem Run23 {args : List PV} {v : AV} {rs : List (Nat × List PV)} (ids : List Bool) (h : args.length ≤ 8) (hv : run Tryd.prog (retK [RV.tmp 4] ids v rs) M23 [] ⟨entry 0 args, []⟩) : Fn Tryd.prog 23 args v rs :=
  Fn_run ids (by kernel_rfl) Tryd.func23 (by decide) rfl mc23 (by kernel_rfl) (by rw [Tryd.ntmps23]; exact h) (by rw [Tryd.ntmps23]; decide) hv

/-- 'name.all' -/
def B25_0 : MC := (.seq (.reg [⟨(some 12), none, (.q (.bin .lss (.t 11) (.c (.int .i64 8))))⟩] [] [0, 1, 11, 12] [1015]) (.seq (.cond (.t 12) .skip (.exit 0)) (.seq (.block 1 (.seq (.reg [⟨(some 14),
  none, (.q (.mv (.t 0)))⟩, ⟨(some 15), none, (.call (.f 33) [(.t 14), (.c (.string ⟨#[46]⟩))])⟩, ⟨(some 13), none, (.q (.mv (.t 15)))⟩, ⟨(some 16), none, (.q (.ext (.t 13) 0))⟩, ⟨(some 17), none,
  (.q (.ext (.t 13) 1))⟩, ⟨(some 18), none, (.q (.ext (.t 13) 2))⟩, ⟨(some 5), none, (.q (.mv (.t 16)))⟩, ⟨(some 6), none, (.q (.mv (.t 17)))⟩, ⟨(some 7), none, (.q (.mv (.t 18)))⟩] [] [1, 5, 6, 7,
  11] [1015]) (.seq (.seq (.reg [⟨(some 19), none, (.q (.mv (.t 1)))⟩, ⟨(some 20), none, (.q (.mv (.t 5)))⟩, ⟨(some 21), none, (.call (.t 19) [(.t 20)])⟩, ⟨(some 22), none,
  (.q (.not (.t 21)))⟩] [] [1, 6, 7, 11, 22] [1015, 1021]) (.cond (.t 22) (.seq (.reg [⟨(some 4), none, (.q (.mv (.c (.bool false))))⟩] [] [4] []) .ret) .skip)) (.seq (.seq (.reg [⟨(some 23), none,
  (.q (.mv (.t 7)))⟩, ⟨(some 24), none, (.q (.not (.t 23)))⟩] [] [1, 6, 11, 24] [1015]) (.cond (.t 24) (.seq (.reg [⟨(some 4), none, (.q (.mv (.c (.bool true))))⟩] [] [4] []) .ret) .skip))
  (.reg [⟨(some 25), none, (.q (.mv (.t 6)))⟩, ⟨(some 0), none, (.q (.mv (.t 25)))⟩] [] [0, 1, 11] [1015]))))) (.reg [⟨(some 26), none, (.q (.bin .add (.t 11) (.c (.int .i64 1))))⟩, ⟨(some 11), none,
  (.q (.mv (.t 26)))⟩] [] [0, 1, 11] [1015]))))
def R25_0 : MC := (.seq (.reg [⟨(some 4), none, (.q (.mv (.c (.bool false))))⟩] [] [4] []) .ret)
def M25 : MC := (.seq (.reg [⟨(some 4), none, (.q (.mv (.c (.bool false))))⟩] [] [0, 1] [1015]) (.seq (.seq (.reg [⟨(some 8), none, (.q (.mv (.t 0)))⟩, ⟨(some 9), none, (.q (.len (.t 8) true))⟩,
  ⟨(some 10), none, (.q (.bin .gtr (.t 9) (.c (.int .i64 40))))⟩] [] [0, 1, 10] [1015]) (.cond (.t 10) (.seq (.reg [⟨(some 4), none, (.q (.mv (.c (.bool false))))⟩] [] [4] []) .ret) .skip))
  (.seq (.seq (.reg [⟨(some 11), none, (.q (.mv (.c (.int .i64 0))))⟩] [] [0, 1, 11] [1015]) (.block 0 (.loop B25_0))) R25_0)))
theorem mc25 : ofCode Tryd.prog [] Tryd.f25.ntmps [(0, ⟨[0, 1], [1015], [], 0, [], none⟩),
    (1, ⟨[0, 1, 10], [1015], [], 0, [], none⟩),
    (2, ⟨[4], [], [], 0, [], none⟩),
    (3, ⟨[0, 1, 11], [1015], [], 0, [], none⟩),
    (4, ⟨[0, 1, 11, 12], [1015], [], 0, [], none⟩),
    (5, ⟨[1, 5, 6, 7, 11], [1015], [], 0, [], none⟩),
    (6, ⟨[1, 6, 7, 11, 22], [1015, 1021], [], 0, [], none⟩),
    (7, ⟨[4], [], [], 0, [], none⟩),
    (8, ⟨[1, 6, 11, 24], [1015], [], 0, [], none⟩),
    (9, ⟨[4], [], [], 0, [], none⟩),
    (10, ⟨[0, 1, 11], [1015], [], 0, [], none⟩),
    (11, ⟨[0, 1, 11], [1015], [], 0, [], none⟩),
    (12, ⟨[4], [], [], 0, [], none⟩)] (Tryd.f25.body.getD .skip) = some M25 := by kernel_rfl
theorem Run25 {args : List PV} {v : AV} {rs : List (Nat × List PV)} (ids : List Bool) (h : args.length ≤ 27) (hv : run Tryd.prog (retK [RV.tmp 4] ids v rs) M25 [] ⟨entry 0 args, []⟩) : Fn Tryd.prog 25 args v rs :=
  Fn_run ids (by kernel_rfl) Tryd.func25 (by decide) rfl mc25 (by kernel_rfl) (by rw [Tryd.ntmps25]; exact h) (by rw [Tryd.ntmps25]; decide) hv

/-- 'name.part' -/
def B26_0 : MC := (.seq (.reg [⟨(some 8), none, (.nxts (.t 7))⟩, ⟨(some 9), none, (.q (.ext (.t 8) 0))⟩] [] [0, 3, 7, 8, 9] [7]) (.seq (.cond (.t 9) .skip (.exit 0)) (.block 1 (.seq (.reg [⟨(some 10),
  none, (.q (.ext (.t 8) 2))⟩, ⟨(some 5), none, (.q (.mv (.t 10)))⟩] [] [0, 3, 5, 7] [7]) (.seq (.reg [⟨(some 11), none, (.q (.mv (.t 3)))⟩, ⟨(some 12), none, (.q (.mv (.t 5)))⟩, ⟨(some 13), none,
  (.call (.t 11) [(.t 12)])⟩, ⟨(some 14), none, (.q (.not (.t 13)))⟩] [] [0, 3, 7, 14] [7, 1013]) (.cond (.t 14) (.seq (.reg [⟨(some 2), none, (.q (.mv (.c (.bool false))))⟩] [] [2] []) .ret)
  .skip))))))
def R26_0 : MC := (.seq (.reg [⟨(some 15), none, (.q (.mv (.t 0)))⟩, ⟨(some 16), none, (.q (.bin .neq (.t 15) (.c (.string ⟨#[]⟩))))⟩, ⟨(some 2), none, (.q (.mv (.t 16)))⟩] [] [2] []) .ret)
def M26 : MC := (.seq (.reg [⟨(some 2), none, (.q (.mv (.c (.bool false))))⟩] [] [0] []) (.seq (.reg [⟨(some 3), none, (.q (.mv (.f 34)))⟩] [] [0, 3] []) (.seq (.seq (.reg [⟨(some 6), none,
  (.q (.mv (.t 0)))⟩, ⟨(some 7), none, (.rngs (.t 6))⟩] [] [0, 3, 7] [7]) (.block 0 (.loop B26_0))) R26_0)))
theorem mc26 : ofCode Tryd.prog [] Tryd.f26.ntmps [(0, ⟨[0], [], [], 0, [], none⟩),
    (1, ⟨[0, 3], [], [], 0, [], none⟩),
    (2, ⟨[0, 3, 7], [7], [], 0, [], none⟩),
    (3, ⟨[0, 3, 7, 8, 9], [7], [], 0, [], none⟩),
    (4, ⟨[0, 3, 5, 7], [7], [], 0, [], none⟩),
    (5, ⟨[0, 3, 7, 14], [7, 1013], [], 0, [], none⟩),
    (6, ⟨[2], [], [], 0, [], none⟩),
    (7, ⟨[2], [], [], 0, [], none⟩)] (Tryd.f26.body.getD .skip) = some M26 := by kernel_rfl
theorem Run26 {args : List PV} {v : AV} {rs : List (Nat × List PV)} (ids : List Bool) (h : args.length ≤ 17) (hv : run Tryd.prog (retK [RV.tmp 2] ids v rs) M26 [] ⟨entry 0 args, []⟩) : Fn Tryd.prog 26 args v rs :=
  Fn_run ids (by kernel_rfl) Tryd.func26 (by decide) rfl mc26 (by kernel_rfl) (by rw [Tryd.ntmps26]; exact h) (by rw [Tryd.ntmps26]; decide) hv

/-- 'name.Glob.1' -/
def M27 : MC := (.seq (.reg [⟨(some 2), none, (.q (.mv (.c (.bool false))))⟩] [] [0] []) (.seq (.reg [⟨(some 3), none, (.q (.mv (.t 0)))⟩, ⟨(some 4), none, (.q (.bin .eql (.t 3)
  (.c (.string ⟨#[42]⟩))))⟩, ⟨(some 5), none, (.q (.mv (.t 4)))⟩, ⟨(some 6), (some (5, false)), (.q (.mv (.t 0)))⟩, ⟨(some 7), (some (5, false)), (.q (.bin .eql (.t 6) (.c (.string ⟨#[42, 42]⟩))))⟩,
  ⟨(some 8), none, (.q (.pick (.t 5) (.c (.bool true)) (.t 7)))⟩, ⟨(some 9), none, (.q (.mv (.t 8)))⟩, ⟨(some 10), (some (9, false)), (.q (.mv (.t 0)))⟩, ⟨(some 11), (some (9, false)), (.call (.f 26)
  [(.t 10)])⟩, ⟨(some 12), none, (.q (.pick (.t 9) (.c (.bool true)) (.t 11)))⟩, ⟨(some 2), none, (.q (.mv (.t 12)))⟩] [] [2] [1011]) .ret))
theorem mc27 : ofCode Tryd.prog [] Tryd.f27.ntmps [(0, ⟨[0], [], [], 0, [], none⟩),
    (1, ⟨[2], [1011], [], 0, [], none⟩)] (Tryd.f27.body.getD .skip) = some M27 := by kernel_rfl
theorem Run27 {args : List PV} {v : AV} {rs : List (Nat × List PV)} (ids : List Bool) (h : args.length ≤ 13) (hv : run Tryd.prog (retK [RV.tmp 2] ids v rs) M27 [] ⟨entry 0 args, []⟩) : Fn Tryd.prog 27 args v rs :=
  Fn_run ids (by kernel_rfl) Tryd.func27 (by decide) rfl mc27 (by kernel_rfl) (by rw [Tryd.ntmps27]; exact h) (by rw [Tryd.ntmps27]; decide) hv

/-- 'strings.Compare' -/
def M31 : MC := (.seq (.reg [⟨(some 4), none, (.q (.mv (.c (.int .i64 0))))⟩] [] [0, 1] []) (.seq (.reg [⟨(some 5), none, (.q (.mv (.t 0)))⟩, ⟨(some 6), none, (.q (.mv (.t 1)))⟩, ⟨(some 7), none,
  (.call (.f 36) [(.t 5), (.t 6)])⟩, ⟨(some 4), none, (.q (.mv (.t 7)))⟩] [] [4] [1007]) .ret))
theorem mc31 : ofCode Tryd.prog [] Tryd.f31.ntmps [(0, ⟨[0, 1], [], [], 0, [], none⟩),
    (1, ⟨[4], [1007], [], 0, [], none⟩)] (Tryd.f31.body.getD .skip) = some M31 := by kernel_rfl
theorem Run31 {args : List PV} {v : AV} {rs : List (Nat × List PV)} (ids : List Bool) (h : args.length ≤ 8) (hv : run Tryd.prog (retK [RV.tmp 4] ids v rs) M31 [] ⟨entry 0 args, []⟩) : Fn Tryd.prog 31 args v rs :=
  Fn_run ids (by kernel_rfl) Tryd.func31 (by decide) rfl mc31 (by kernel_rfl) (by rw [Tryd.ntmps31]; exact h) (by rw [Tryd.ntmps31]; decide) hv

/-- 'strings.genSplit' -/
def B32_0 : MC := (.seq (.seq (.reg [⟨(some 34), none, (.q (.mv (.t 10)))⟩, ⟨(some 35), none, (.q (.mv (.t 3)))⟩, ⟨(some 36), none, (.q (.bin .lss (.t 34) (.t 35)))⟩] [] [0, 1, 2, 3, 9, 10, 36] [31,
  1023, 1039]) (.cond (.t 36) .skip (.exit 0))) (.block 1 (.seq (.reg [⟨(some 37), none, (.q (.mv (.t 0)))⟩, ⟨(some 38), none, (.q (.mv (.t 1)))⟩, ⟨(some 39), none, (.call (.f 39) [(.t 37),
  (.t 38)])⟩, ⟨(some 11), none, (.q (.mv (.t 39)))⟩] [] [0, 1, 2, 3, 9, 10, 11] [31, 1023, 1039]) (.seq (.seq (.reg [⟨(some 40), none, (.q (.mv (.t 11)))⟩, ⟨(some 41), none, (.q (.bin .lss (.t 40)
  (.c (.int .i64 0))))⟩] [] [0, 1, 2, 3, 9, 10, 11, 41] [31, 1023, 1039]) (.cond (.t 41) (.exit 0) .skip)) (.seq (.reg [⟨(some 42), none, (.q (.mv (.t 9)))⟩, ⟨(some 43), none, (.q (.mv (.t 10)))⟩,
  ⟨(some 44), none, (.q (.mv (.t 0)))⟩, ⟨(some 45), none, (.q (.mv (.t 11)))⟩, ⟨(some 46), none, (.q (.mv (.t 2)))⟩, ⟨(some 47), none, (.q (.bin .add (.t 45) (.t 46)))⟩, ⟨(some 48), none,
  (.q (.slc (.t 44) none (some (.t 47)) 0 true))⟩, ⟨(some 49), none, (.q (.ia (.t 42) (.t 43) 1))⟩, ⟨none, none, (.st (.t 49) (.t 48) 1)⟩] [] [0, 1, 2, 3, 9, 10, 11] [31, 1023, 1039])
  (.seq (.reg [⟨(some 50), none, (.q (.mv (.t 0)))⟩, ⟨(some 51), none, (.q (.mv (.t 11)))⟩, ⟨(some 52), none, (.q (.mv (.t 1)))⟩, ⟨(some 53), none, (.q (.len (.t 52) true))⟩, ⟨(some 54), none,
  (.q (.bin .add (.t 51) (.t 53)))⟩, ⟨(some 55), none, (.q (.slc (.t 50) (some (.t 54)) none 0 true))⟩, ⟨(some 0), none, (.q (.mv (.t 55)))⟩] [] [0, 1, 2, 3, 9, 10] [31, 1023, 1039])
  (.reg [⟨(some 56), none, (.q (.mv (.t 10)))⟩, ⟨(some 57), none, (.q (.bin .add (.t 56) (.c (.int .i64 1))))⟩, ⟨(some 10), none, (.q (.mv (.t 57)))⟩] [] [0, 1, 2, 3, 9, 10] [31, 1023, 1039])))))))
def R32_0 : MC := (.seq (.reg [⟨(some 58), none, (.q (.mv (.t 9)))⟩, ⟨(some 59), none, (.q (.mv (.t 10)))⟩, ⟨(some 60), none, (.q (.mv (.t 0)))⟩, ⟨(some 61), none, (.q (.ia (.t 58) (.t 59) 1))⟩,
  ⟨none, none, (.st (.t 61) (.t 60) 1)⟩] [] [9, 10] [31, 1039]) (.seq (.reg [⟨(some 62), none, (.q (.mv (.t 9)))⟩, ⟨(some 63), none, (.q (.mv (.t 10)))⟩, ⟨(some 64), none, (.q (.bin .add (.t 63)
  (.c (.int .i64 1))))⟩, ⟨(some 65), none, (.q (.slc (.t 62) none (some (.t 64)) 1 false))⟩, ⟨(some 8), none, (.q (.mv (.t 65)))⟩] [] [8] [31, 1018, 1039]) .ret))
def M32 : MC := (.seq (.reg [⟨(some 8), none, (.q (.mv .nil))⟩] [] [0, 1, 2, 3] [1023, 1039]) (.seq (.seq (.reg [⟨(some 12), none, (.q (.mv (.t 3)))⟩, ⟨(some 13), none, (.q (.bin .eql (.t 12)
  (.c (.int .i64 0))))⟩] [] [0, 1, 2, 3, 13] [1023, 1039]) (.cond (.t 13) (.seq (.reg [⟨(some 8), none, (.q (.mv .nil))⟩] [] [8] [31, 1018, 1039]) .ret) .skip)) (.seq (.seq (.reg [⟨(some 14), none,
  (.q (.mv (.t 1)))⟩, ⟨(some 15), none, (.q (.bin .eql (.t 14) (.c (.string ⟨#[]⟩))))⟩] [] [0, 1, 2, 3, 15] [1023, 1039]) (.cond (.t 15) (.seq (.reg [⟨(some 16), none, (.q (.mv (.t 0)))⟩, ⟨(some 17),
  none, (.q (.mv (.t 3)))⟩, ⟨(some 18), none, (.call (.f 37) [(.t 16), (.t 17)])⟩, ⟨(some 8), none, (.q (.mv (.t 18)))⟩] [] [8] [31, 1018, 1039]) .ret) .skip)) (.seq (.seq (.reg [⟨(some 19), none,
  (.q (.mv (.t 3)))⟩, ⟨(some 20), none, (.q (.bin .lss (.t 19) (.c (.int .i64 0))))⟩] [] [0, 1, 2, 3, 20] [1023, 1039]) (.cond (.t 20) (.reg [⟨(some 21), none, (.q (.mv (.t 0)))⟩, ⟨(some 22), none,
  (.q (.mv (.t 1)))⟩, ⟨(some 23), none, (.call (.f 38) [(.t 21), (.t 22)])⟩, ⟨(some 24), none, (.q (.bin .add (.t 23) (.c (.int .i64 1))))⟩, ⟨(some 3), none, (.q (.mv (.t 24)))⟩] [] [0, 1, 2,
  3] [1023, 1039]) .skip)) (.seq (.reg [⟨(some 25), none, (.q (.mv (.t 3)))⟩, ⟨(some 26), none, (.q (.mv (.t 0)))⟩, ⟨(some 27), none, (.q (.len (.t 26) true))⟩, ⟨(some 28), none,
  (.q (.bin .add (.t 27) (.c (.int .i64 1))))⟩, ⟨(some 29), none, (.q (.mm false (.t 25) (.t 28)))⟩, ⟨(some 3), none, (.q (.mv (.t 29)))⟩] [] [0, 1, 2, 3] [1023, 1039]) (.seq (.reg [⟨(some 30), none,
  (.q (.mv (.t 3)))⟩, ⟨(some 31), none, (.mks (.t 30) (.t 30) 1 16 (.sc (.string ⟨#[]⟩)))⟩, ⟨(some 9), none, (.q (.mv (.t 31)))⟩] [] [0, 1, 2, 3, 9] [31, 1023, 1039]) (.seq (.reg [⟨(some 32), none,
  (.q (.mv (.t 3)))⟩, ⟨(some 33), none, (.q (.bin .sub (.t 32) (.c (.int .i64 1))))⟩, ⟨(some 3), none, (.q (.mv (.t 33)))⟩] [] [0, 1, 2, 3, 9] [31, 1023, 1039]) (.seq (.reg [⟨(some 10), none,
  (.q (.mv (.c (.int .i64 0))))⟩] [] [0, 1, 2, 3, 9, 10] [31, 1023, 1039]) (.seq (.block 0 (.loop B32_0)) R32_0)))))))))
theorem mc32 : ofCode Tryd.prog [] Tryd.f32.ntmps [(0, ⟨[0, 1, 2, 3], [1023, 1039], [], 0, [], none⟩),
    (1, ⟨[0, 1, 2, 3, 13], [1023, 1039], [], 0, [], none⟩),
    (2, ⟨[8], [31, 1018, 1039], [], 0, [], none⟩),
    (3, ⟨[0, 1, 2, 3, 15], [1023, 1039], [], 0, [], none⟩),
    (4, ⟨[8], [31, 1018, 1039], [], 0, [], none⟩),
    (5, ⟨[0, 1, 2, 3, 20], [1023, 1039], [], 0, [], none⟩),
    (6, ⟨[0, 1, 2, 3], [1023, 1039], [], 0, [], none⟩),
    (7, ⟨[0, 1, 2, 3], [1023, 1039], [], 0, [], none⟩),
    (8, ⟨[0, 1, 2, 3, 9], [31, 1023, 1039], [], 0, [], none⟩),
    (9, ⟨[0, 1, 2, 3, 9], [31, 1023, 1039], [], 0, [], none⟩),
    (10, ⟨[0, 1, 2, 3, 9, 10], [31, 1023, 1039], [], 0, [], none⟩),
    (11, ⟨[0, 1, 2, 3, 9, 10, 36], [31, 1023, 1039], [], 0, [], none⟩),
    (12, ⟨[0, 1, 2, 3, 9, 10, 11], [31, 1023, 1039], [], 0, [], none⟩),
    (13, ⟨[0, 1, 2, 3, 9, 10, 11, 41], [31, 1023, 1039], [], 0, [], none⟩),
    (14, ⟨[0, 1, 2, 3, 9, 10, 11], [31, 1023, 1039], [], 0, [], none⟩),
    (15, ⟨[0, 1, 2, 3, 9, 10], [31, 1023, 1039], [], 0, [], none⟩),
    (16, ⟨[0, 1, 2, 3, 9, 10], [31, 1023, 1039], [], 0, [], none⟩),
    (17, ⟨[9, 10], [31, 1039], [], 0, [], none⟩),
    (18, ⟨[8], [31, 1018, 1039], [], 0, [], none⟩)] (Tryd.f32.body.getD .skip) = some M32 := by kernel_rfl
theorem Run32 {args : List PV} {v : AV} {rs : List (Nat × List PV)} (ids : List Bool) (h : args.length ≤ 66) (hv : run Tryd.prog (retK [RV.tmp 8] ids v rs) M32 [] ⟨entry 0 args, []⟩) : Fn Tryd.prog 32 args v rs :=
  Fn_run ids (by kernel_rfl) Tryd.func32 (by decide) rfl mc32 (by kernel_rfl) (by rw [Tryd.ntmps32]; exact h) (by rw [Tryd.ntmps32]; decide) hv

/-- 'strings.Cut' -/
def M33 : MC := (.seq (.reg [⟨(some 4), none, (.q (.mv (.c (.string ⟨#[]⟩))))⟩, ⟨(some 5), none, (.q (.mv (.c (.string ⟨#[]⟩))))⟩, ⟨(some 6), none, (.q (.mv (.c (.bool false))))⟩] [] [0, 1] [])
  (.seq (.reg [⟨(some 7), none, (.q (.mv (.t 0)))⟩, ⟨(some 8), none, (.q (.mv (.t 1)))⟩, ⟨(some 9), none, (.call (.f 40) [(.t 7), (.t 8)])⟩, ⟨(some 10), none, (.q (.ext (.t 9) 0))⟩, ⟨(some 11), none,
  (.q (.ext (.t 9) 1))⟩, ⟨(some 12), none, (.q (.ext (.t 9) 2))⟩, ⟨(some 4), none, (.q (.mv (.t 10)))⟩, ⟨(some 5), none, (.q (.mv (.t 11)))⟩, ⟨(some 6), none, (.q (.mv (.t 12)))⟩] [] [4, 5, 6] [1009])
  .ret))
theorem mc33 : ofCode Tryd.prog [] Tryd.f33.ntmps [(0, ⟨[0, 1], [], [], 0, [], none⟩),
    (1, ⟨[4, 5, 6], [1009], [], 0, [], none⟩)] (Tryd.f33.body.getD .skip) = some M33 := by kernel_rfl
theorem Run33 {args : List PV} {v : AV} {rs : List (Nat × List PV)} (ids : List Bool) (h : args.length ≤ 13) (hv : run Tryd.prog (retK [RV.tmp 4, RV.tmp 5, RV.tmp 6] ids v rs) M33 [] ⟨entry 0 args, []⟩) : Fn Tryd.prog 33 args v rs :=
  Fn_run ids (by kernel_rfl) Tryd.func33 (by decide) rfl mc33 (by kernel_rfl) (by rw [Tryd.ntmps33]; exact h) (by rw [Tryd.ntmps33]; decide) hv

/-- 'name.part.1' -/
def M34 : MC := (.seq (.reg [⟨(some 2), none, (.q (.mv (.c (.bool false))))⟩] [] [0] []) (.seq (.reg [⟨(some 3), none, (.q (.mv (.t 0)))⟩, ⟨(some 4), none, (.q (.bin .geq (.t 3)
  (.c (.int .i32 97))))⟩, ⟨(some 5), none, (.q (.mv (.t 4)))⟩, ⟨(some 6), (some (5, true)), (.q (.mv (.t 0)))⟩, ⟨(some 7), (some (5, true)), (.q (.bin .leq (.t 6) (.c (.int .i32 122))))⟩, ⟨(some 8),
  none, (.q (.pick (.t 5) (.t 7) (.c (.bool false))))⟩, ⟨(some 9), none, (.q (.mv (.t 8)))⟩, ⟨(some 10), (some (9, false)), (.q (.mv (.t 0)))⟩, ⟨(some 11), (some (9, false)), (.q (.bin .geq (.t 10)
  (.c (.int .i32 48))))⟩, ⟨(some 12), (some (9, false)), (.q (.mv (.t 11)))⟩, ⟨(some 13), (some (12, true)), (.q (.mv (.t 0)))⟩, ⟨(some 14), (some (12, true)), (.q (.bin .leq (.t 13)
  (.c (.int .i32 57))))⟩, ⟨(some 15), (some (9, false)), (.q (.pick (.t 12) (.t 14) (.c (.bool false))))⟩, ⟨(some 16), none, (.q (.pick (.t 9) (.c (.bool true)) (.t 15)))⟩, ⟨(some 17), none,
  (.q (.mv (.t 16)))⟩, ⟨(some 18), (some (17, false)), (.q (.mv (.t 0)))⟩, ⟨(some 19), (some (17, false)), (.q (.bin .eql (.t 18) (.c (.int .i32 95))))⟩, ⟨(some 20), none, (.q (.pick (.t 17)
  (.c (.bool true)) (.t 19)))⟩, ⟨(some 2), none, (.q (.mv (.t 20)))⟩] [] [2] []) .ret))
theorem mc34 : ofCode Tryd.prog [] Tryd.f34.ntmps [(0, ⟨[0], [], [], 0, [], none⟩),
    (1, ⟨[2], [], [], 0, [], none⟩)] (Tryd.f34.body.getD .skip) = some M34 := by kernel_rfl
theorem Run34 {args : List PV} {v : AV} {rs : List (Nat × List PV)} (ids : List Bool) (h : args.length ≤ 21) (hv : run Tryd.prog (retK [RV.tmp 2] ids v rs) M34 [] ⟨entry 0 args, []⟩) : Fn Tryd.prog 34 args v rs :=
  Fn_run ids (by kernel_rfl) Tryd.func34 (by decide) rfl mc34 (by kernel_rfl) (by rw [Tryd.ntmps34]; exact h) (by rw [Tryd.ntmps34]; decide) hv

/-- 'strings.Count' -/
def B38_0 : MC := (.block 1 (.seq (.reg [⟨(some 20), none, (.q (.mv (.t 0)))⟩, ⟨(some 21), none, (.q (.mv (.t 1)))⟩, ⟨(some 22), none, (.call (.f 39) [(.t 20), (.t 21)])⟩, ⟨(some 6), none,
  (.q (.mv (.t 22)))⟩] [] [0, 1, 5, 6] [1022]) (.seq (.seq (.reg [⟨(some 23), none, (.q (.mv (.t 6)))⟩, ⟨(some 24), none, (.q (.bin .eql (.t 23) (.c (.int .i64 (-1)))))⟩] [] [0, 1, 5, 6, 24] [1022])
  (.cond (.t 24) (.seq (.reg [⟨(some 25), none, (.q (.mv (.t 5)))⟩, ⟨(some 4), none, (.q (.mv (.t 25)))⟩] [] [4] [1011, 1019]) .ret) .skip)) (.seq (.reg [⟨(some 26), none, (.q (.mv (.t 5)))⟩,
  ⟨(some 27), none, (.q (.bin .add (.t 26) (.c (.int .i64 1))))⟩, ⟨(some 5), none, (.q (.mv (.t 27)))⟩] [] [0, 1, 5, 6] [1022]) (.reg [⟨(some 28), none, (.q (.mv (.t 0)))⟩, ⟨(some 29), none,
  (.q (.mv (.t 6)))⟩, ⟨(some 30), none, (.q (.mv (.t 1)))⟩, ⟨(some 31), none, (.q (.len (.t 30) true))⟩, ⟨(some 32), none, (.q (.bin .add (.t 29) (.t 31)))⟩, ⟨(some 33), none, (.q (.slc (.t 28)
  (some (.t 32)) none 0 true))⟩, ⟨(some 0), none, (.q (.mv (.t 33)))⟩] [] [0, 1, 5] [1022])))))
def M38 : MC := (.seq (.reg [⟨(some 4), none, (.q (.mv (.c (.int .i64 0))))⟩] [] [0, 1] [1022]) (.seq (.seq (.reg [⟨(some 7), none, (.q (.mv (.t 1)))⟩, ⟨(some 8), none, (.q (.len (.t 7) true))⟩,
  ⟨(some 9), none, (.q (.bin .eql (.t 8) (.c (.int .i64 0))))⟩] [] [0, 1, 9] [1022]) (.cond (.t 9) (.seq (.reg [⟨(some 10), none, (.q (.mv (.t 0)))⟩, ⟨(some 11), none, (.call (.f 42) [(.t 10)])⟩,
  ⟨(some 12), none, (.q (.bin .add (.t 11) (.c (.int .i64 1))))⟩, ⟨(some 4), none, (.q (.mv (.t 12)))⟩] [] [4] [1011, 1019]) .ret) .skip)) (.seq (.seq (.reg [⟨(some 13), none, (.q (.mv (.t 1)))⟩,
  ⟨(some 14), none, (.q (.len (.t 13) true))⟩, ⟨(some 15), none, (.q (.bin .eql (.t 14) (.c (.int .i64 1))))⟩] [] [0, 1, 15] [1022]) (.cond (.t 15) (.seq (.reg [⟨(some 16), none, (.q (.mv (.t 0)))⟩,
  ⟨(some 17), none, (.q (.mv (.t 1)))⟩, ⟨(some 18), none, (.q (.idx (.t 17) (.c (.int .i64 0))))⟩, ⟨(some 19), none, (.call (.f 44) [(.t 16), (.t 18)])⟩, ⟨(some 4), none,
  (.q (.mv (.t 19)))⟩] [] [4] [1011, 1019]) .ret) .skip)) (.seq (.reg [⟨(some 5), none, (.q (.mv (.c (.int .i64 0))))⟩] [] [0, 1, 5] [1022]) (.block 0 (.loop B38_0))))))
theorem mc38 : ofCode Tryd.prog [] Tryd.f38.ntmps [(0, ⟨[0, 1], [1022], [], 0, [], none⟩),
    (1, ⟨[0, 1, 9], [1022], [], 0, [], none⟩),
    (2, ⟨[4], [1011, 1019], [], 0, [], none⟩),
    (3, ⟨[0, 1, 15], [1022], [], 0, [], none⟩),
    (4, ⟨[4], [1011, 1019], [], 0, [], none⟩),
    (5, ⟨[0, 1, 5], [1022], [], 0, [], none⟩),
    (6, ⟨[0, 1, 5, 6], [1022], [], 0, [], none⟩),
    (7, ⟨[0, 1, 5, 6, 24], [1022], [], 0, [], none⟩),
    (8, ⟨[4], [1011, 1019], [], 0, [], none⟩),
    (9, ⟨[0, 1, 5, 6], [1022], [], 0, [], none⟩),
    (10, ⟨[0, 1, 5], [1022], [], 0, [], none⟩)] (Tryd.f38.body.getD .skip) = some M38 := by kernel_rfl
theorem Run38 {args : List PV} {v : AV} {rs : List (Nat × List PV)} (ids : List Bool) (h : args.length ≤ 34) (hv : run Tryd.prog (retK [RV.tmp 4] ids v rs) M38 [] ⟨entry 0 args, []⟩) : Fn Tryd.prog 38 args v rs :=
  Fn_run ids (by kernel_rfl) Tryd.func38 (by decide) rfl mc38 (by kernel_rfl) (by rw [Tryd.ntmps38]; exact h) (by rw [Tryd.ntmps38]; decide) hv

/-- 'strings.Index' -/
def M39 : MC := (.seq (.reg [⟨(some 4), none, (.q (.mv (.c (.int .i64 0))))⟩] [] [0, 1] []) (.seq (.reg [⟨(some 5), none, (.q (.mv (.t 0)))⟩, ⟨(some 6), none, (.q (.mv (.t 1)))⟩, ⟨(some 7), none,
  (.call (.f 45) [(.t 5), (.t 6)])⟩, ⟨(some 4), none, (.q (.mv (.t 7)))⟩] [] [4] [1007]) .ret))
theorem mc39 : ofCode Tryd.prog [] Tryd.f39.ntmps [(0, ⟨[0, 1], [], [], 0, [], none⟩),
    (1, ⟨[4], [1007], [], 0, [], none⟩)] (Tryd.f39.body.getD .skip) = some M39 := by kernel_rfl
theorem Run39 {args : List PV} {v : AV} {rs : List (Nat × List PV)} (ids : List Bool) (h : args.length ≤ 8) (hv : run Tryd.prog (retK [RV.tmp 4] ids v rs) M39 [] ⟨entry 0 args, []⟩) : Fn Tryd.prog 39 args v rs :=
  Fn_run ids (by kernel_rfl) Tryd.func39 (by decide) rfl mc39 (by kernel_rfl) (by rw [Tryd.ntmps39]; exact h) (by rw [Tryd.ntmps39]; decide) hv

/-- 'stringslite.Cut' -/
def M40 : MC := (.seq (.reg [⟨(some 4), none, (.q (.mv (.c (.string ⟨#[]⟩))))⟩, ⟨(some 5), none, (.q (.mv (.c (.string ⟨#[]⟩))))⟩, ⟨(some 6), none, (.q (.mv (.c (.bool false))))⟩] [] [0, 1] [])
  (.seq (.seq (.reg [⟨(some 8), none, (.q (.mv (.t 0)))⟩, ⟨(some 9), none, (.q (.mv (.t 1)))⟩, ⟨(some 10), none, (.call (.f 45) [(.t 8), (.t 9)])⟩, ⟨(some 7), none, (.q (.mv (.t 10)))⟩] [] [0, 1,
  7] [1010]) (.seq (.reg [⟨(some 11), none, (.q (.mv (.t 7)))⟩, ⟨(some 12), none, (.q (.bin .geq (.t 11) (.c (.int .i64 0))))⟩] [] [0, 1, 7, 12] [1010]) (.cond (.t 12) (.seq (.reg [⟨(some 13), none,
  (.q (.mv (.t 0)))⟩, ⟨(some 14), none, (.q (.mv (.t 7)))⟩, ⟨(some 15), none, (.q (.slc (.t 13) none (some (.t 14)) 0 true))⟩, ⟨(some 16), none, (.q (.mv (.t 0)))⟩, ⟨(some 17), none,
  (.q (.mv (.t 7)))⟩, ⟨(some 18), none, (.q (.mv (.t 1)))⟩, ⟨(some 19), none, (.q (.len (.t 18) true))⟩, ⟨(some 20), none, (.q (.bin .add (.t 17) (.t 19)))⟩, ⟨(some 21), none, (.q (.slc (.t 16)
  (some (.t 20)) none 0 true))⟩, ⟨(some 4), none, (.q (.mv (.t 15)))⟩, ⟨(some 5), none, (.q (.mv (.t 21)))⟩, ⟨(some 6), none, (.q (.mv (.c (.bool true))))⟩] [] [4, 5, 6] [1010]) .ret) .skip)))
  (.seq (.reg [⟨(some 22), none, (.q (.mv (.t 0)))⟩, ⟨(some 4), none, (.q (.mv (.t 22)))⟩, ⟨(some 5), none, (.q (.mv (.c (.string ⟨#[]⟩))))⟩, ⟨(some 6), none, (.q (.mv (.c (.bool false))))⟩] [] [4, 5,
  6] [1010]) .ret)))
theorem mc40 : ofCode Tryd.prog [] Tryd.f40.ntmps [(0, ⟨[0, 1], [], [], 0, [], none⟩),
    (1, ⟨[0, 1, 7], [1010], [], 0, [], none⟩),
    (2, ⟨[0, 1, 7, 12], [1010], [], 0, [], none⟩),
    (3, ⟨[4, 5, 6], [1010], [(0, 3589), (1, 3590), (2, 3588), (3, 3336), (4, 3472), (5, 3552), (6, 3520), (7, 3456), (8, 3328), (9, 3584), (10, 3072), (11, 2048)], 4095, [], none⟩),
    (4, ⟨[4, 5, 6], [1010], [], 0, [], none⟩)] (Tryd.f40.body.getD .skip) = some M40 := by kernel_rfl
theorem Run40 {args : List PV} {v : AV} {rs : List (Nat × List PV)} (ids : List Bool) (h : args.length ≤ 23) (hv : run Tryd.prog (retK [RV.tmp 4, RV.tmp 5, RV.tmp 6] ids v rs) M40 [] ⟨entry 0 args, []⟩) : Fn Tryd.prog 40 args v rs :=
  Fn_run ids (by kernel_rfl) Tryd.func40 (by decide) rfl mc40 (by kernel_rfl) (by rw [Tryd.ntmps40]; exact h) (by rw [Tryd.ntmps40]; decide) hv

end Go.Vc

namespace Go.Vc
open Go.Proofs Go.Shelf Go.RowKit
set_option linter.unusedSimpArgs false
set_option linter.unusedVariables false

/-! ## Strings: out of the shelf -/
def renN : Ren := ⟨fun n => if n = 217 then 47 else if n = 219 then 45 else if n = 224 then 49 else if n = 225 then 48 else if n = 266 then 51 else if n = 267 then 50 else if n = 314 then 52 else if n = 138 then 38 else if n = 143 then 39 else
    if n = 195 then 42 else if n = 218 then 44 else if n = 213 then 36 else if n = 265 then 41 else n,
  fun t => if t = 46 then 52 else if t = 51 then 57 else if t = 146 then 58 else t, fun g => if g = 1 then 0 else g⟩
theorem lays219 : Lays.n219 Tryd.prog renN where
  mixed := by kernel_rfl
  f217 := by kernel_rfl
  f219 := by kernel_rfl
  f224 := by kernel_rfl
  f225 := by kernel_rfl
  f266 := by kernel_rfl
  f267 := by kernel_rfl
  f314 := by kernel_rfl
  t3 := by kernel_rfl
  a3 := fun w => by kernel_rfl
  z3 := fun w => by kernel_rfl
  v3 := fun w => by kernel_rfl
  t4 := by kernel_rfl
  a4 := fun w => by kernel_rfl
  z4 := fun w => by kernel_rfl
  v4 := fun w => by kernel_rfl
  t5 := by kernel_rfl
  a5 := fun w => by kernel_rfl
  z5 := fun w => by kernel_rfl
  v5 := fun w => by kernel_rfl
  t9 := by kernel_rfl
  a9 := fun w => by kernel_rfl
  z9 := fun w => by kernel_rfl
  v9 := fun w => by kernel_rfl
  t46 := by kernel_rfl
  a46 := fun w => by kernel_rfl
  z46 := fun w => by kernel_rfl
  v46 := fun w => by kernel_rfl
  t51 := by kernel_rfl
  a51 := fun w => by kernel_rfl
  z51 := fun w => by kernel_rfl
  v51 := fun w => by kernel_rfl
  t146 := by kernel_rfl
  a146 := fun w => by kernel_rfl
  z146 := fun w => by kernel_rfl
  v146 := fun w => by kernel_rfl
  g1 := by kernel_rfl
theorem lays138 : Lays.n138 Tryd.prog renN where
  mixed := by kernel_rfl
  f138 := by kernel_rfl
  f143 := by kernel_rfl
  f195 := by kernel_rfl
  f217 := by kernel_rfl
  f218 := by kernel_rfl
  f219 := by kernel_rfl
  f224 := by kernel_rfl
  f225 := by kernel_rfl
  f266 := by kernel_rfl
  f267 := by kernel_rfl
  f314 := by kernel_rfl
  t0 := by kernel_rfl
  a0 := fun w => by kernel_rfl
  z0 := fun w => by kernel_rfl
  v0 := fun w => by kernel_rfl
  t3 := by kernel_rfl
  a3 := fun w => by kernel_rfl
  z3 := fun w => by kernel_rfl
  v3 := fun w => by kernel_rfl
  t4 := by kernel_rfl
  a4 := fun w => by kernel_rfl
  z4 := fun w => by kernel_rfl
  v4 := fun w => by kernel_rfl
  t5 := by kernel_rfl
  a5 := fun w => by kernel_rfl
  z5 := fun w => by kernel_rfl
  v5 := fun w => by kernel_rfl
  t9 := by kernel_rfl
  a9 := fun w => by kernel_rfl
  z9 := fun w => by kernel_rfl
  v9 := fun w => by kernel_rfl
  t46 := by kernel_rfl
  a46 := fun w => by kernel_rfl
  z46 := fun w => by kernel_rfl
  v46 := fun w => by kernel_rfl
  t51 := by kernel_rfl
  a51 := fun w => by kernel_rfl
  z51 := fun w => by kernel_rfl
  v51 := fun w => by kernel_rfl
  t146 := by kernel_rfl
  a146 := fun w => by kernel_rfl
  z146 := fun w => by kernel_rfl
  v146 := fun w => by kernel_rfl
  g1 := by kernel_rfl
theorem lays213 : Lays.n213 Tryd.prog renN where
  mixed := by kernel_rfl
  f213 := by kernel_rfl
  f265 := by kernel_rfl
  t3 := by kernel_rfl
  a3 := fun w => by kernel_rfl
  z3 := fun w => by kernel_rfl
  v3 := fun w => by kernel_rfl
  t9 := by kernel_rfl
  a9 := fun w => by kernel_rfl
  z9 := fun w => by kernel_rfl
  v9 := fun w => by kernel_rfl
theorem fn45 (s : ByteArray) : Fn Tryd.prog 45 [pS s, pS sDot] (.pv (pI (dotAt s))) [] := by
  refine ⟨enters_of (fn := Tryd.f45) Tryd.func45 (by decide) rfl, fun w F vs hF hv => ?_⟩
  simp only [PRels, PRel] at hv
  obtain ⟨u, r, rfl, rfl, u', r', rfl, rfl, rfl⟩ := hv
  have := Any.stringslite_Index_one lays219 s 46 w
  refine this.mono fun en w' ⟨e1, e2⟩ => ?_
  subst e1; subst e2
  refine ⟨_, ⟨w', F, fun _ => default⟩, rfl, rfl, ⟨Below.refl _ _, by simp [VRel, PRel, dotAt], fun i s xs h => by simp at h, fun i j hi => by simp at hi, fun i hi => by simp at hi, fun b => by simp⟩⟩
def dotsIn (s : ByteArray) : Nat := Lib.countByte s.data.toList 46
theorem fn38 (s : ByteArray) : Fn Tryd.prog 38 [pS s, pS sDot] (.pv (pI (dotsIn s))) [] := by
  refine ⟨enters_of (fn := Tryd.f38) Tryd.func38 (by decide) rfl, fun w F vs hF hv => ?_⟩
  simp only [PRels, PRel] at hv
  obtain ⟨u, r, rfl, rfl, u', r', rfl, rfl, rfl⟩ := hv
  have := Any.strings_Count_one lays138 s 46 w
  refine this.mono fun en w' ⟨e1, e2⟩ => ?_
  subst e1; subst e2
  refine ⟨_, ⟨w', F, fun _ => default⟩, rfl, rfl, ⟨Below.refl _ _, by simp [VRel, PRel, dotsIn], fun i s xs h => by simp at h, fun i j hi => by simp at hi, fun i hi => by simp at hi, fun b => by simp⟩⟩
def cmpB (a b : ByteArray) : Int := Lib.compareBytes a.data.toList b.data.toList
theorem fn36 (a b : ByteArray) : Fn Tryd.prog 36 [pS a, pS b] (.pv (pI (cmpB a b))) [] := by
  refine ⟨enters_of (fn := Tryd.f36) Tryd.func36 (by decide) rfl, fun w F vs hF hv => ?_⟩
  simp only [PRels, PRel] at hv
  obtain ⟨u, r, rfl, rfl, u', r', rfl, rfl, rfl⟩ := hv
  have := Any.bytealg_CompareString lays213 a b w
  refine this.mono fun en w' ⟨e1, e2⟩ => ?_
  subst e1; subst e2
  refine ⟨_, ⟨w', F, fun _ => default⟩, rfl, rfl, ⟨Below.refl _ _, by simp [VRel, PRel, cmpB], fun i s xs h => by simp at h, fun i j hi => by simp at hi, fun i hi => by simp at hi, fun b => by simp⟩⟩
theorem fn31 (a b : ByteArray) : Fn Tryd.prog 31 [pS a, pS b] (.pv (pI (cmpB a b))) [] := by
  refine Run31 [] (by simp) ?_
  simp only [go_sem, Nat.reduceEqDiff, Nat.reduceBEq, Nat.reduceAdd, Nat.reduceMul, Nat.reduceSub, Nat.reduceLeDiff, Nat.reduceLT, reduceIte, reduceCtorEq, Int.reduceToNat, Int.reduceLE, Int.reduceLT, Int.reduceNeg, Bool.not_not, and_self, Bool.and_eq_false_iff, Int.cast_ofNat_Int, Int.reduceAdd, Int.reduceSub, Int.reduceMul, Int.reduceEq, Int.reduceNe, M31]
  refine runR_callf (by simp only [go_sem, Nat.reduceEqDiff, Nat.reduceBEq, Nat.reduceAdd, Nat.reduceMul, Nat.reduceSub, Nat.reduceLeDiff, Nat.reduceLT, reduceIte, reduceCtorEq, Int.reduceToNat, Int.reduceLE, Int.reduceLT, Int.reduceNeg, Bool.not_not, and_self, Bool.and_eq_false_iff, Int.cast_ofNat_Int, Int.reduceAdd, Int.reduceSub, Int.reduceMul, Int.reduceEq, Int.reduceNe]) (by simp only [go_sem, Nat.reduceEqDiff, Nat.reduceBEq, Nat.reduceAdd, Nat.reduceMul, Nat.reduceSub, Nat.reduceLeDiff, Nat.reduceLT, reduceIte, reduceCtorEq, Int.reduceToNat, Int.reduceLE, Int.reduceLT, Int.reduceNeg, Bool.not_not, and_self, Bool.and_eq_false_iff, Int.cast_ofNat_Int, Int.reduceAdd, Int.reduceSub, Int.reduceMul, Int.reduceEq, Int.reduceNe] <;> rfl) (fn36 a b) ⟨rfl, trivial⟩ trivial ?_
  simp only [go_sem, Nat.reduceEqDiff, Nat.reduceBEq, Nat.reduceAdd, Nat.reduceMul, Nat.reduceSub, Nat.reduceLeDiff, Nat.reduceLT, reduceIte, reduceCtorEq, Int.reduceToNat, Int.reduceLE, Int.reduceLT, Int.reduceNeg, Bool.not_not, and_self, Bool.and_eq_false_iff, Int.cast_ofNat_Int, Int.reduceAdd, Int.reduceSub, Int.reduceMul, Int.reduceEq, Int.reduceNe]
/-! ## 'Index', 'Cut', 'Split' at the dot -/
theorem fn39 (s : ByteArray) : Fn Tryd.prog 39 [pS s, pS sDot] (.pv (pI (dotAt s))) [] := by
  refine Run39 [] (by simp) ?_
  simp only [go_sem, Nat.reduceEqDiff, Nat.reduceBEq, Nat.reduceAdd, Nat.reduceMul, Nat.reduceSub, Nat.reduceLeDiff, Nat.reduceLT, reduceIte, reduceCtorEq, Int.reduceToNat, Int.reduceLE, Int.reduceLT, Int.reduceNeg, Bool.not_not, and_self, Bool.and_eq_false_iff, Int.cast_ofNat_Int, Int.reduceAdd, Int.reduceSub, Int.reduceMul, Int.reduceEq, Int.reduceNe, M39]
  refine runR_callf (by simp only [go_sem, Nat.reduceEqDiff, Nat.reduceBEq, Nat.reduceAdd, Nat.reduceMul, Nat.reduceSub, Nat.reduceLeDiff, Nat.reduceLT, reduceIte, reduceCtorEq, Int.reduceToNat, Int.reduceLE, Int.reduceLT, Int.reduceNeg, Bool.not_not, and_self, Bool.and_eq_false_iff, Int.cast_ofNat_Int, Int.reduceAdd, Int.reduceSub, Int.reduceMul, Int.reduceEq, Int.reduceNe]) (by simp only [go_sem, Nat.reduceEqDiff, Nat.reduceBEq, Nat.reduceAdd, Nat.reduceMul, Nat.reduceSub, Nat.reduceLeDiff, Nat.reduceLT, reduceIte, reduceCtorEq, Int.reduceToNat, Int.reduceLE, Int.reduceLT, Int.reduceNeg, Bool.not_not, and_self, Bool.and_eq_false_iff, Int.cast_ofNat_Int, Int.reduceAdd, Int.reduceSub, Int.reduceMul, Int.reduceEq, Int.reduceNe] <;> rfl) (fn45 s) ⟨rfl, trivial⟩ trivial ?_
  simp only [go_sem, Nat.reduceEqDiff, Nat.reduceBEq, Nat.reduceAdd, Nat.reduceMul, Nat.reduceSub, Nat.reduceLeDiff, Nat.reduceLT, reduceIte, reduceCtorEq, Int.reduceToNat, Int.reduceLE, Int.reduceLT, Int.reduceNeg, Bool.not_not, and_self, Bool.and_eq_false_iff, Int.cast_ofNat_Int, Int.reduceAdd, Int.reduceSub, Int.reduceMul, Int.reduceEq, Int.reduceNe]
theorem fn40 (s : ByteArray) (hs : s.size ≤ 1000) : Fn Tryd.prog 40 [pS s, pS sDot] (.pv (.tup [pS (cutB s), pS (cutA s), pB (decide (0 ≤ dotAt s))])) [] := by
  refine Run40 [] (by simp) ?_
  simp only [go_sem, Nat.reduceEqDiff, Nat.reduceBEq, Nat.reduceAdd, Nat.reduceMul, Nat.reduceSub, Nat.reduceLeDiff, Nat.reduceLT, reduceIte, reduceCtorEq, Int.reduceToNat, Int.reduceLE, Int.reduceLT, Int.reduceNeg, Bool.not_not, and_self, Bool.and_eq_false_iff, Int.cast_ofNat_Int, Int.reduceAdd, Int.reduceSub, Int.reduceMul, Int.reduceEq, Int.reduceNe, M40]
  refine runR_callf (by simp only [go_sem, Nat.reduceEqDiff, Nat.reduceBEq, Nat.reduceAdd, Nat.reduceMul, Nat.reduceSub, Nat.reduceLeDiff, Nat.reduceLT, reduceIte, reduceCtorEq, Int.reduceToNat, Int.reduceLE, Int.reduceLT, Int.reduceNeg, Bool.not_not, and_self, Bool.and_eq_false_iff, Int.cast_ofNat_Int, Int.reduceAdd, Int.reduceSub, Int.reduceMul, Int.reduceEq, Int.reduceNe]) (by simp only [go_sem, Nat.reduceEqDiff, Nat.reduceBEq, Nat.reduceAdd, Nat.reduceMul, Nat.reduceSub, Nat.reduceLeDiff, Nat.reduceLT, reduceIte, reduceCtorEq, Int.reduceToNat, Int.reduceLE, Int.reduceLT, Int.reduceNeg, Bool.not_not, and_self, Bool.and_eq_false_iff, Int.cast_ofNat_Int, Int.reduceAdd, Int.reduceSub, Int.reduceMul, Int.reduceEq, Int.reduceNe] <;> rfl) (fn45 s) ⟨rfl, trivial⟩ trivial ?_
  have hd := dotAt_lt s
  have e1 : sDot.size = 1 := rfl
  simp only [go_sem, Nat.reduceEqDiff, Nat.reduceBEq, Nat.reduceAdd, Nat.reduceMul, Nat.reduceSub, Nat.reduceLeDiff, Nat.reduceLT, reduceIte, reduceCtorEq, Int.reduceToNat, Int.reduceLE, Int.reduceLT, Int.reduceNeg, Bool.not_not, and_self, Bool.and_eq_false_iff, Int.cast_ofNat_Int, Int.reduceAdd, Int.reduceSub, Int.reduceMul, Int.reduceEq, Int.reduceNe, e1]
  refine ⟨fun h => ⟨⟨h, by omega⟩, ⟨by omega, by omega⟩, ⟨by omega, by omega, by omega⟩, ?_⟩, fun h => ?_⟩
  · have e2 : (dotAt s + ((1 : Nat) : Int)).toNat = (dotAt s).toNat + 1 := by omega
    have e3 : (dotAt s + 1).toNat = (dotAt s).toNat + 1 := by omega
    simp [e2, e3, cutB, cutA, h]
  · simp [cutB, cutA, h]
theorem fn33 (s : ByteArray) (hs : s.size ≤ 1000) : Fn Tryd.prog 33 [pS s, pS sDot] (.pv (.tup [pS (cutB s), pS (cutA s), pB (decide (0 ≤ dotAt s))])) [] := by
  refine Run33 [] (by simp) ?_
  simp only [go_sem, Nat.reduceEqDiff, Nat.reduceBEq, Nat.reduceAdd, Nat.reduceMul, Nat.reduceSub, Nat.reduceLeDiff, Nat.reduceLT, reduceIte, reduceCtorEq, Int.reduceToNat, Int.reduceLE, Int.reduceLT, Int.reduceNeg, Bool.not_not, and_self, Bool.and_eq_false_iff, Int.cast_ofNat_Int, Int.reduceAdd, Int.reduceSub, Int.reduceMul, Int.reduceEq, Int.reduceNe, M33]
  refine runR_callf (by simp only [go_sem, Nat.reduceEqDiff, Nat.reduceBEq, Nat.reduceAdd, Nat.reduceMul, Nat.reduceSub, Nat.reduceLeDiff, Nat.reduceLT, reduceIte, reduceCtorEq, Int.reduceToNat, Int.reduceLE, Int.reduceLT, Int.reduceNeg, Bool.not_not, and_self, Bool.and_eq_false_iff, Int.cast_ofNat_Int, Int.reduceAdd, Int.reduceSub, Int.reduceMul, Int.reduceEq, Int.reduceNe]) (by simp only [go_sem, Nat.reduceEqDiff, Nat.reduceBEq, Nat.reduceAdd, Nat.reduceMul, Nat.reduceSub, Nat.reduceLeDiff, Nat.reduceLT, reduceIte, reduceCtorEq, Int.reduceToNat, Int.reduceLE, Int.reduceLT, Int.reduceNeg, Bool.not_not, and_self, Bool.and_eq_false_iff, Int.cast_ofNat_Int, Int.reduceAdd, Int.reduceSub, Int.reduceMul, Int.reduceEq, Int.reduceNe] <;> rfl) (fn40 s hs) ⟨rfl, trivial⟩ trivial ?_
  simp only [go_sem, Nat.reduceEqDiff, Nat.reduceBEq, Nat.reduceAdd, Nat.reduceMul, Nat.reduceSub, Nat.reduceLeDiff, Nat.reduceLT, reduceIte, reduceCtorEq, Int.reduceToNat, Int.reduceLE, Int.reduceLT, Int.reduceNeg, Bool.not_not, and_self, Bool.and_eq_false_iff, Int.cast_ofNat_Int, Int.reduceAdd, Int.reduceSub, Int.reduceMul, Int.reduceEq, Int.reduceNe]
theorem cutL_count : ∀ l : List UInt8, (cutL l).length = Lib.countByte l 46 + 1
  | [] => rfl
  | c :: l => by
    have ih := cutL_count l
    unfold Lib.countByte at *
    simp only [cutL]
    split
    · rename_i h; subst h; simp [ih]
    · rename_i h
      rw [List.count_cons_of_ne h]
      cases h2 : cutL l with
      | nil => exact absurd h2 (cutL_ne l)
      | cons p ps => rw [h2] at ih; simpa [consH] using ih
theorem cutS_count (s : ByteArray) : (cutS s).length = dotsIn s + 1 := by unfold cutS dotsIn; rw [List.length_map, cutL_count]
theorem dots_le (s : ByteArray) : dotsIn s ≤ s.size := by
  have : dotsIn s ≤ s.data.toList.length := List.count_le_length
  simpa using this
abbrev ss (l : List ByteArray) : PV := .lst (l.map pS)
theorem wf_ss (l : List ByteArray) : WfL 1 (l.map pS) := wf_map (f := pS) (s := 1) (fun a => ⟨rfl, fun c hc => by simp only [PV.cells, List.mem_cons, List.not_mem_nil, or_false] at hc; subst hc; rfl⟩) l
theorem fill_set {α : Type} {f : α → PV} {A : List α} {z p : PV} {k : Nat} : (A.map f ++ List.replicate (k + 1) z).set A.length p = A.map f ++ p :: List.replicate k z := by
  rw [List.set_append_right _ _ (by simp)]
  simp [List.replicate_succ]
theorem fill_get {α : Type} {f : α → PV} {A : List α} {z : PV} {k : Nat} : (A.map f ++ List.replicate (k + 1) z).getD A.length default = z := by
  simp [List.getD_eq_getElem?_getD, List.getElem?_append_right, List.replicate_succ]
theorem fn32 (s : ByteArray) (hs : s.size ≤ 1000) : Fn Tryd.prog 32 [pS s, pS sDot, pI 0, pI (-1)] (.pv (ss (cutS s))) [] := by
  refine Run32 [false] (by simp) ?_
  simp only [go_sem, Nat.reduceEqDiff, Nat.reduceBEq, Nat.reduceAdd, Nat.reduceMul, Nat.reduceSub, Nat.reduceLeDiff, Nat.reduceLT, reduceIte, reduceCtorEq, Int.reduceToNat, Int.reduceLE, Int.reduceLT, Int.reduceNeg, Bool.not_not, and_self, Bool.and_eq_false_iff, Int.cast_ofNat_Int, Int.reduceAdd, Int.reduceSub, Int.reduceMul, Int.reduceEq, Int.reduceNe, M32]
  have hd := dots_le s
  have hc := cutS_count s
  have e1 : sDot.size = 1 := rfl
  refine ⟨fun h => absurd h (by decide), fun _ => ?_⟩
  refine runR_callf (by simp only [go_sem, Nat.reduceEqDiff, Nat.reduceBEq, Nat.reduceAdd, Nat.reduceMul, Nat.reduceSub, Nat.reduceLeDiff, Nat.reduceLT, reduceIte, reduceCtorEq, Int.reduceToNat, Int.reduceLE, Int.reduceLT, Int.reduceNeg, Bool.not_not, and_self, Bool.and_eq_false_iff, Int.cast_ofNat_Int, Int.reduceAdd, Int.reduceSub, Int.reduceMul, Int.reduceEq, Int.reduceNe]) (by simp only [go_sem, Nat.reduceEqDiff, Nat.reduceBEq, Nat.reduceAdd, Nat.reduceMul, Nat.reduceSub, Nat.reduceLeDiff, Nat.reduceLT, reduceIte, reduceCtorEq, Int.reduceToNat, Int.reduceLE, Int.reduceLT, Int.reduceNeg, Bool.not_not, and_self, Bool.and_eq_false_iff, Int.cast_ofNat_Int, Int.reduceAdd, Int.reduceSub, Int.reduceMul, Int.reduceEq, Int.reduceNe] <;> rfl) (fn38 s) ⟨rfl, trivial⟩ trivial ?_
  simp only [go_sem, Nat.reduceEqDiff, Nat.reduceBEq, Nat.reduceAdd, Nat.reduceMul, Nat.reduceSub, Nat.reduceLeDiff, Nat.reduceLT, reduceIte, reduceCtorEq, Int.reduceToNat, Int.reduceLE, Int.reduceLT, Int.reduceNeg, Bool.not_not, and_self, Bool.and_eq_false_iff, Int.cast_ofNat_Int, Int.reduceAdd, Int.reduceSub, Int.reduceMul, Int.reduceEq, Int.reduceNe, e1]
  refine ⟨⟨by omega, by omega⟩, ⟨by omega, by omega⟩, ?_⟩
  have hmin : (if (s.size : Int) + 1 < (dotsIn s : Int) + 1 then (s.size : Int) + 1 else (dotsIn s : Int) + 1) = (dotsIn s : Int) + 1 := by rw [if_neg (by omega)]
  simp only [go_sem, Nat.reduceEqDiff, Nat.reduceBEq, Nat.reduceAdd, Nat.reduceMul, Nat.reduceSub, Nat.reduceLeDiff, Nat.reduceLT, reduceIte, reduceCtorEq, Int.reduceToNat, Int.reduceLE, Int.reduceLT, Int.reduceNeg, Bool.not_not, and_self, Bool.and_eq_false_iff, Int.cast_ofNat_Int, Int.reduceAdd, Int.reduceSub, Int.reduceMul, Int.reduceEq, Int.reduceNe, hmin]
  obtain ⟨N, hN⟩ : ∃ N, N = (cutS s).length := ⟨_, rfl⟩
  have hN2 : ((dotsIn s : Int) + 1).toNat = N := by omega
  rw [hN2]
  refine ⟨⟨by omega, by omega, by omega, by omega⟩, ⟨by omega, by omega⟩, ?_⟩
  refine run_loop (T := Nat × ByteArray) (fun t => ⟨[(0, .pv (pS t.2)), (1, .pv (pS sDot)), (2, .pv (pI 0)), (3, .pv (pI (dotsIn s + 1 - 1))), (9, .row 31 0 N), (10, .pv (pI t.1))], [(31, .sl 1 (((cutS s).take t.1).map pS ++ List.replicate (N - t.1) (pS ⟨#[]⟩)))]⟩) (fun t => t.1 < N ∧ cutS s = (cutS s).take t.1 ++ cutS t.2 ∧ t.2.size ≤ s.size) (fun t => N - t.1) ⟨0, s⟩ (by simp) ⟨by omega, by simp, Nat.le_refl _⟩ ?_
  rintro ⟨i, u⟩ ⟨hi, hq, hu⟩
  simp only at hi hq hu
  have hlen : ((cutS s).take i).length = i := by simp; omega
  have hul : (cutS u).length = N - i := by
    have := congrArg List.length hq
    rw [List.length_append, hlen] at this; omega
  obtain ⟨k, hk⟩ : ∃ k, N - i = k + 1 := ⟨N - i - 1, by omega⟩
  have hset := fill_set (f := pS) (A := (cutS s).take i) (z := pS ⟨#[]⟩) (p := pS (cutB u)) (k := k)
  have hset2 := fill_set (f := pS) (A := (cutS s).take i) (z := pS ⟨#[]⟩) (p := pS u) (k := k)
  have hget := fill_get (f := pS) (A := (cutS s).take i) (z := pS ⟨#[]⟩) (k := k)
  rw [hlen] at hset hset2 hget
  have hdl := dotAt_lt u
  by_cases hdt : 0 ≤ dotAt u
  · have hcu := cutS_some hdt
    have hca := cutS_pos (cutA u)
    have hnext : (cutS s).take (i + 1) = (cutS s).take i ++ [cutB u] := by
      conv => lhs; rw [hq, hcu]
      rw [List.take_append, hlen, show i + 1 - i = 1 by omega, List.take_of_length_le (by omega)]; rfl
    rw [hcu, List.length_cons] at hul
    rw [hk]
    simp only [go_sem, Nat.reduceEqDiff, Nat.reduceBEq, Nat.reduceAdd, Nat.reduceMul, Nat.reduceSub, Nat.reduceLeDiff, Nat.reduceLT, reduceIte, reduceCtorEq, Int.reduceToNat, Int.reduceLE, Int.reduceLT, Int.reduceNeg, Bool.not_not, and_self, Bool.and_eq_false_iff, Int.cast_ofNat_Int, Int.reduceAdd, Int.reduceSub, Int.reduceMul, Int.reduceEq, Int.reduceNe, B32_0, show (i : Int) < (dotsIn s : Int) + 1 - 1 by omega]
    refine runR_callf (by simp only [go_sem, Nat.reduceEqDiff, Nat.reduceBEq, Nat.reduceAdd, Nat.reduceMul, Nat.reduceSub, Nat.reduceLeDiff, Nat.reduceLT, reduceIte, reduceCtorEq, Int.reduceToNat, Int.reduceLE, Int.reduceLT, Int.reduceNeg, Bool.not_not, and_self, Bool.and_eq_false_iff, Int.cast_ofNat_Int, Int.reduceAdd, Int.reduceSub, Int.reduceMul, Int.reduceEq, Int.reduceNe]) (by simp only [go_sem, Nat.reduceEqDiff, Nat.reduceBEq, Nat.reduceAdd, Nat.reduceMul, Nat.reduceSub, Nat.reduceLeDiff, Nat.reduceLT, reduceIte, reduceCtorEq, Int.reduceToNat, Int.reduceLE, Int.reduceLT, Int.reduceNeg, Bool.not_not, and_self, Bool.and_eq_false_iff, Int.cast_ofNat_Int, Int.reduceAdd, Int.reduceSub, Int.reduceMul, Int.reduceEq, Int.reduceNe] <;> rfl) (fn39 u) ⟨rfl, trivial⟩ trivial ?_
    have hB : u.extract 0 (dotAt u + 0).toNat = cutB u := by unfold cutB; rw [if_pos hdt, Int.add_zero]
    have hA : u.extract (dotAt u + 1).toNat u.size = cutA u := by unfold cutA; rw [if_pos hdt, show (dotAt u + 1).toNat = (dotAt u).toNat + 1 by omega]
    have hcl := cutA_size u
    simp only [go_sem, Nat.reduceEqDiff, Nat.reduceBEq, Nat.reduceAdd, Nat.reduceMul, Nat.reduceSub, Nat.reduceLeDiff, Nat.reduceLT, reduceIte, reduceCtorEq, Int.reduceToNat, Int.reduceLE, Int.reduceLT, Int.reduceNeg, Bool.not_not, and_self, Bool.and_eq_false_iff, Int.cast_ofNat_Int, Int.reduceAdd, Int.reduceSub, Int.reduceMul, Int.reduceEq, Int.reduceNe, e1, show ¬ dotAt u < 0 by omega, hget, hB, hA, hset]
    refine ⟨⟨by omega, by omega⟩, ⟨by omega, by omega⟩, by omega, by simp; omega, ⟨by omega, by omega⟩, ⟨by omega, by omega, by omega⟩, ⟨by omega, by omega⟩, ⟨i + 1, cutA u⟩, ?_, ⟨by simp only; omega, ?_, by simp only; omega⟩, by simp only; omega⟩
    · rw [hnext, List.map_append, show N - (i + 1) = k by omega, List.append_assoc]; rfl
    · simp only
      rw [hnext, List.append_assoc, hq, hcu]
      simp [hlen]
  · have hcu := cutS_none hdt
    rw [hcu, List.length_singleton] at hul
    rw [hk]
    simp only [go_sem, Nat.reduceEqDiff, Nat.reduceBEq, Nat.reduceAdd, Nat.reduceMul, Nat.reduceSub, Nat.reduceLeDiff, Nat.reduceLT, reduceIte, reduceCtorEq, Int.reduceToNat, Int.reduceLE, Int.reduceLT, Int.reduceNeg, Bool.not_not, and_self, Bool.and_eq_false_iff, Int.cast_ofNat_Int, Int.reduceAdd, Int.reduceSub, Int.reduceMul, Int.reduceEq, Int.reduceNe, B32_0, R32_0, show ¬ (i : Int) < (dotsIn s : Int) + 1 - 1 by omega, hget, hset2]
    refine ⟨by omega, by simp; omega, ⟨by omega, by omega⟩, ⟨by omega, by omega⟩, ?_⟩
    have hk0 : k = 0 := by omega
    subst hk0
    rw [show ((i : Int) + 1).toNat - 0 = i + 1 by omega, List.replicate_zero, ← List.map_singleton, ← List.map_append, ← hcu, ← hq, List.take_of_length_le (by simp; omega)]
end Go.Vc
