/- A part of the proofs of the seat YtmgbbmhljopepaaDoor: the contracts of functions, each proved out of its code. -/
import Derived.Test.YtmgbbmhljopepaaDoorVh
import Derived.Test.YtmgbbmhljopepaaDoorProg
import Derived.Test.YtmgbbmhljopepaaDoorDj
import Derived.Test.YtmgbbmhljopepaaDoorVf
import Derived.Test.YtmgbbmhljopepaaDoorRows
import Derived.LaidHandle
import Derived.MakeChecks
namespace Go.Vc
open Go.Proofs
set_option maxRecDepth 100000

/-- 'trystlaw07.DfaMeets' -/
def M5 : MC := (.seq (.reg [⟨(some 4), none, (.q (.mv (.c (.bool false))))⟩] [] [0, 1] [1008, 1010]) (.seq (.reg [⟨(some 7), none, (.q (.mv (.t 0)))⟩, ⟨(some 8), none, (.call (.f 18) [(.t 7)])⟩,
  ⟨(some 9), none, (.q (.mv (.t 1)))⟩, ⟨(some 10), none, (.call (.f 19) [(.t 9)])⟩, ⟨(some 0), none, (.q (.mv (.t 8)))⟩, ⟨(some 1), none, (.q (.mv (.t 10)))⟩] [] [0, 1] [1008, 1010])
  (.seq (.reg [⟨(some 12), none, (.q (.mv (.t 0)))⟩, ⟨(some 13), none, (.call (.f 20) [(.t 12), (.c (.int .i64 200))])⟩, ⟨(some 11), none, (.q (.mv (.t 13)))⟩, ⟨(some 14), none, (.q (.ext (.t 11)
  0))⟩, ⟨(some 15), none, (.q (.ext (.t 11) 1))⟩, ⟨(some 5), none, (.alloc [.e0, .e0, .e0])⟩, ⟨none, none, (.st (.t 5) (.t 14) 3)⟩, ⟨(some 6), none, (.q (.mv (.t 15)))⟩] [] [0, 1, 5, 6] [5, 1008,
  1010, 1013]) (.seq (.seq (.reg [⟨(some 16), none, (.q (.mv (.t 6)))⟩, ⟨(some 17), none, (.q (.bin .neq (.t 16) (.c (.int .i64 0))))⟩] [] [0, 1, 5, 17] [5, 1008, 1010, 1013]) (.cond (.t 17)
  (.seq (.reg [⟨(some 18), none, (.q (.ld (.t 5) 3 true))⟩, ⟨(some 19), none, (.q (.mv (.t 1)))⟩, ⟨(some 20), none, (.call (.f 21) [(.t 18), (.t 19)])⟩, ⟨(some 21), none, (.q (.len (.t 20) false))⟩,
  ⟨(some 22), none, (.q (.bin .eql (.t 21) (.c (.int .i64 0))))⟩, ⟨(some 23), none, (.q (.mv (.t 22)))⟩, ⟨(some 24), (some (23, true)), (.call (.f 22) [])⟩, ⟨(some 25), none, (.q (.pick (.t 23)
  (.t 24) (.c (.bool false))))⟩, ⟨(some 4), none, (.q (.mv (.t 25)))⟩] [] [4] [1024, 1032, 1034]) .ret) .skip)) (.seq (.reg [⟨(some 26), none, (.q (.ld (.t 5) 3 true))⟩, ⟨(some 27), none,
  (.q (.mv (.t 1)))⟩, ⟨(some 28), none, (.call (.f 21) [(.t 26), (.t 27)])⟩, ⟨(some 29), none, (.q (.mv (.t 0)))⟩, ⟨(some 30), none, (.q (.mv (.t 1)))⟩, ⟨(some 31), none, (.call (.f 24) [(.t 29),
  (.t 30)])⟩, ⟨(some 32), none, (.call (.f 23) [(.t 28), (.t 31)])⟩, ⟨(some 33), none, (.q (.mv (.t 32)))⟩, ⟨(some 34), (some (33, true)), (.call (.f 22) [])⟩, ⟨(some 35), none, (.q (.pick (.t 33)
  (.t 34) (.c (.bool false))))⟩, ⟨(some 4), none, (.q (.mv (.t 35)))⟩] [] [4] [1024, 1032, 1034]) .ret)))))
theorem mc5 : ofCode Tryd.prog [] Tryd.f5.ntmps [(0, ⟨[0, 1], [1008, 1010], [], 0, [], none⟩),
    (1, ⟨[0, 1], [1008, 1010], [], 0, [], none⟩),
    (2, ⟨[0, 1, 5, 6], [5, 1008, 1010, 1013], [], 0, [], none⟩),
    (3, ⟨[0, 1, 5, 17], [5, 1008, 1010, 1013], [], 0, [], none⟩),
    (4, ⟨[4], [1024, 1032, 1034], [], 0, [], none⟩),
    (5, ⟨[4], [1024, 1032, 1034], [], 0, [], none⟩)] (Tryd.f5.body.getD .skip) = some M5 := by kernel_rfl
theorem Run5 {args : List PV} {v : AV} {rs : List (Nat × List PV)} (ids : List Bool) (h : args.length ≤ 36) (hv : run Tryd.prog (retK [RV.tmp 4] ids v rs) M5 [] ⟨entry 0 args, []⟩) : Fn Tryd.prog 5 args v rs :=
  Fn_run ids (by kernel_rfl) Tryd.func5 (by decide) rfl mc5 (by kernel_rfl) (by rw [Tryd.ntmps5]; exact h) (by rw [Tryd.ntmps5]; decide) hv

/-- 'trystlaw07.DfaMore' -/
def M8 : MC := (.seq (.reg [⟨(some 6), none, (.q (.mv (.c (.bool false))))⟩] [] [0, 1, 2] [1014, 1016, 1018]) (.seq (.reg [⟨(some 13), none, (.q (.mv (.t 0)))⟩, ⟨(some 14), none, (.call (.f 18)
  [(.t 13)])⟩, ⟨(some 15), none, (.q (.mv (.t 1)))⟩, ⟨(some 16), none, (.call (.f 19) [(.t 15)])⟩, ⟨(some 17), none, (.q (.mv (.t 2)))⟩, ⟨(some 18), none, (.call (.f 19) [(.t 17)])⟩, ⟨(some 0), none,
  (.q (.mv (.t 14)))⟩, ⟨(some 1), none, (.q (.mv (.t 16)))⟩, ⟨(some 2), none, (.q (.mv (.t 18)))⟩] [] [0, 1, 2] [1014, 1016, 1018]) (.seq (.reg [⟨(some 20), none, (.q (.mv (.t 0)))⟩, ⟨(some 21), none,
  (.call (.f 20) [(.t 20), (.c (.int .i64 200))])⟩, ⟨(some 19), none, (.q (.mv (.t 21)))⟩, ⟨(some 22), none, (.q (.ext (.t 19) 0))⟩, ⟨(some 23), none, (.q (.ext (.t 19) 1))⟩, ⟨(some 7), none,
  (.alloc [.e0, .e0, .e0])⟩, ⟨none, none, (.st (.t 7) (.t 22) 3)⟩, ⟨(some 8), none, (.q (.mv (.t 23)))⟩] [] [0, 1, 2, 7, 8] [7, 1014, 1016, 1018, 1021]) (.seq (.reg [⟨(some 25), none, (.lits [] 1)⟩,
  ⟨(some 26), none, (.q (.mv (.t 0)))⟩, ⟨(some 27), none, (.app (.t 25) (.t 26) 1 16)⟩, ⟨(some 28), none, (.q (.mv (.t 1)))⟩, ⟨(some 29), none, (.lits [(.t 28)] 1)⟩, ⟨(some 30), none, (.appi (.t 27)
  (.t 29) 1 16)⟩, ⟨(some 31), none, (.call (.f 20) [(.t 30), (.c (.int .i64 200))])⟩, ⟨(some 24), none, (.q (.mv (.t 31)))⟩, ⟨(some 32), none, (.q (.ext (.t 24) 0))⟩, ⟨(some 33), none,
  (.q (.ext (.t 24) 1))⟩, ⟨(some 9), none, (.alloc [.e0, .e0, .e0])⟩, ⟨none, none, (.st (.t 9) (.t 32) 3)⟩, ⟨(some 10), none, (.q (.mv (.t 33)))⟩] [] [0, 2, 7, 8, 9, 10] [7, 9, 1014, 1018, 1021,
  1031]) (.seq (.seq (.reg [⟨(some 34), none, (.q (.mv (.t 8)))⟩, ⟨(some 35), none, (.q (.bin .neq (.t 34) (.c (.int .i64 0))))⟩, ⟨(some 36), none, (.q (.mv (.t 35)))⟩, ⟨(some 37), (some (36, false)),
  (.q (.mv (.t 10)))⟩, ⟨(some 38), (some (36, false)), (.q (.bin .neq (.t 37) (.c (.int .i64 0))))⟩, ⟨(some 39), none, (.q (.pick (.t 36) (.c (.bool true)) (.t 38)))⟩] [] [0, 2, 7, 9, 39] [7, 9, 1014,
  1018, 1021, 1031]) (.cond (.t 39) (.seq (.reg [⟨(some 40), none, (.call (.f 22) [])⟩, ⟨(some 6), none, (.q (.mv (.t 40)))⟩] [] [6] [1040, 1068, 1071, 1073, 1077]) .ret) .skip))
  (.seq (.reg [⟨(some 41), none, (.q (.ld (.t 7) 3 true))⟩, ⟨(some 42), none, (.q (.mv (.t 2)))⟩, ⟨(some 44), none, (.q (.ld (.t 9) 3 true))⟩, ⟨(some 45), none, (.q (.mv (.t 2)))⟩, ⟨(some 43), none,
  (.call (.f 21) [(.t 41), (.t 42)])⟩, ⟨(some 46), none, (.call (.f 21) [(.t 44), (.t 45)])⟩, ⟨(some 11), none, (.q (.mv (.t 43)))⟩, ⟨(some 12), none, (.q (.mv (.t 46)))⟩] [] [0, 7, 9, 11, 12] [7, 9,
  1014, 1021, 1031, 1043, 1046]) (.seq (.seq (.reg [⟨(some 47), none, (.q (.mv (.t 12)))⟩, ⟨(some 48), none, (.q (.len (.t 47) false))⟩, ⟨(some 49), none, (.q (.bin .gtr (.t 48) (.c (.int .i64 0))))⟩,
  ⟨(some 50), none, (.q (.mv (.t 49)))⟩, ⟨(some 51), (some (50, true)), (.q (.mv (.t 12)))⟩, ⟨(some 52), (some (50, true)), (.q (.mv (.t 12)))⟩, ⟨(some 53), (some (50, true)), (.q (.len (.t 52)
  false))⟩, ⟨(some 54), (some (50, true)), (.q (.bin .sub (.t 53) (.c (.int .i64 1))))⟩, ⟨(some 55), (some (50, true)), (.q (.ia (.t 51) (.t 54) 1))⟩, ⟨(some 56), (some (50, true)), (.q (.ld (.t 55)
  1 false))⟩, ⟨(some 57), (some (50, true)), (.q (.mv (.t 0)))⟩, ⟨(some 58), (some (50, true)), (.q (.len (.t 57) false))⟩, ⟨(some 59), (some (50, true)), (.q (.bin .eql (.t 56) (.t 58)))⟩,
  ⟨(some 60), none, (.q (.pick (.t 50) (.t 59) (.c (.bool false))))⟩] [] [7, 9, 11, 12, 60] [7, 9, 1021, 1031, 1043, 1046]) (.cond (.t 60) (.reg [⟨(some 61), none, (.q (.mv (.t 12)))⟩, ⟨(some 62),
  none, (.q (.mv (.t 12)))⟩, ⟨(some 63), none, (.q (.len (.t 62) false))⟩, ⟨(some 64), none, (.q (.bin .sub (.t 63) (.c (.int .i64 1))))⟩, ⟨(some 65), none, (.q (.slc (.t 61) none (some (.t 64))
  1 false))⟩, ⟨(some 12), none, (.q (.mv (.t 65)))⟩] [] [7, 9, 11, 12] [7, 9, 1021, 1031, 1043, 1046]) .skip)) (.seq (.reg [⟨(some 66), none, (.q (.mv (.t 11)))⟩, ⟨(some 67), none,
  (.q (.mv (.t 12)))⟩, ⟨(some 68), none, (.call (.f 23) [(.t 66), (.t 67)])⟩, ⟨(some 69), none, (.q (.mv (.t 68)))⟩, ⟨(some 70), (some (69, true)), (.q (.ld (.t 9) 3 true))⟩, ⟨(some 72), (some (69,
  true)), (.q (.ld (.t 7) 3 true))⟩, ⟨(some 71), (some (69, true)), (.call (.f 25) [(.t 70)])⟩, ⟨(some 73), (some (69, true)), (.call (.f 25) [(.t 72)])⟩, ⟨(some 74), (some (69, true)),
  (.q (.bin .geq (.t 71) (.t 73)))⟩, ⟨(some 75), none, (.q (.pick (.t 69) (.t 74) (.c (.bool false))))⟩, ⟨(some 76), none, (.q (.mv (.t 75)))⟩, ⟨(some 77), (some (76, true)), (.call (.f 22) [])⟩,
  ⟨(some 78), none, (.q (.pick (.t 76) (.t 77) (.c (.bool false))))⟩, ⟨(some 6), none, (.q (.mv (.t 78)))⟩] [] [6] [1040, 1068, 1071, 1073, 1077]) .ret))))))))
theorem mc8 : ofCode Tryd.prog [30] Tryd.f8.ntmps [(0, ⟨[0, 1, 2], [1014, 1016, 1018], [], 0, [], none⟩),
    (1, ⟨[0, 1, 2], [1014, 1016, 1018], [], 0, [], none⟩),
    (2, ⟨[0, 1, 2, 7, 8], [7, 1014, 1016, 1018, 1021], [], 0, [], none⟩),
    (3, ⟨[0, 2, 7, 8, 9, 10], [7, 9, 1014, 1018, 1021, 1031], [], 0, [], none⟩),
    (4, ⟨[0, 2, 7, 9, 39], [7, 9, 1014, 1018, 1021, 1031], [], 0, [], none⟩),
    (5, ⟨[6], [1040, 1068, 1071, 1073, 1077], [], 0, [], none⟩),
    (6, ⟨[0, 7, 9, 11, 12], [7, 9, 1014, 1021, 1031, 1043, 1046], [(0, 229), (1, 230), (3, 232), (4, 240), (2, 0), (5, 0), (6, 192), (7, 128)], 255, [], none⟩),
    (7, ⟨[7, 9, 11, 12, 60], [7, 9, 1021, 1031, 1043, 1046], [], 0, [], none⟩),
    (8, ⟨[7, 9, 11, 12], [7, 9, 1021, 1031, 1043, 1046], [], 0, [], none⟩),
    (9, ⟨[6], [1040, 1068, 1071, 1073, 1077], [(0, 16381), (1, 16382), (2, 0), (3, 16376), (4, 16304), (6, 16320), (5, 0), (7, 0), (8, 16128), (9, 15872), (10, 15360), (11, 0), (12, 12288), (13, 8192)], 16383, [], none⟩)] (Tryd.f8.body.getD .skip) = some M8 := by kernel_rfl
theorem Run8 {args : List PV} {v : AV} {rs : List (Nat × List PV)} (ids : List Bool) (h : args.length ≤ 79) (hv : run Tryd.prog (retK [RV.tmp 6] ids v rs) M8 [] ⟨entry 0 args, []⟩) : Fn Tryd.prog 8 args v rs :=
  Fn_run ids (by kernel_rfl) Tryd.func8 (by decide) rfl mc8 (by kernel_rfl) (by rw [Tryd.ntmps8]; exact h) (by rw [Tryd.ntmps8]; decide) hv

end Go.Vc

namespace Go.Vc
open Go.Proofs
set_option linter.unusedSimpArgs false
set_option linter.unusedVariables false

/-! ## The laws of dfa: what they share -/
theorem res_meet {bs : List ByteArray} {t : ByteArray} (hg : ∀ b ∈ bs, globB b = true) : (if topicB t = true then resN (bs.map cutS) (partsB t) else []) = meetN bs t bs.length := by
  unfold meetN resN
  split
  · rename_i ht
    rw [List.length_map, partsB_good (topic_glob ht)]
    refine List.filter_congr fun i hi => ?_
    have hil : i < bs.length := List.mem_range.1 hi
    have h2 := hg bs[i] (List.getElem_mem hil)
    simp [List.getD_eq_getElem?_getD, hil, meetsB, ht, h2]
  · rename_i ht
    rw [eq_comm, List.filter_eq_nil_iff]
    intro i _ h
    simp [meetsB] at h
    exact ht h.2.1
def globs7 (bs : List ByteArray) : List ByteArray := if 6 < (globsS bs).length ∧ (globsS bs).length < 21 then (globsS bs).take 6 else globsS bs
theorem globs7_len (bs : List ByteArray) : (globs7 bs).length ≤ 21 := by
  have := globsS_len bs
  unfold globs7; split
  · simp; omega
  · exact this
theorem globs7_size {bs : List ByteArray} {b : ByteArray} (h : b ∈ globs7 bs) : b.size ≤ 60 := by
  unfold globs7 at h; split at h
  · exact globsS_size (List.mem_of_mem_take h)
  · exact globsS_size h
theorem globs7_good {bs : List ByteArray} (h : goodB (globs7 bs) = true) : (globs7 bs).length ≤ 6 := by
  have h1 := (goodB_iff.1 h).1
  unfold globs7 at h1 ⊢
  split
  · simp; omega
  · rename_i h2
    rw [if_neg h2] at h1
    omega
theorem fn18 (bs : List ByteArray) (hb : bs.length ≤ 9223372036854775807) : Fn Tryd.prog 18 [ss bs] (.pv (ss (globs7 bs))) [] := by
  refine Run18 [] (by simp) ?_
  simp only [go_sem, Nat.reduceEqDiff, Nat.reduceBEq, Nat.reduceAdd, Nat.reduceMul, Nat.reduceSub, Nat.reduceLeDiff, Nat.reduceLT, reduceIte, reduceCtorEq, Int.reduceToNat, Int.reduceLE, Int.reduceLT, Int.reduceNeg, Bool.not_not, and_self, Bool.and_eq_false_iff, Int.cast_ofNat_Int, Int.reduceAdd, Int.reduceSub, Int.reduceMul, Int.reduceEq, Int.reduceNe, M18]
  refine runR_call (by simp only [go_sem, Nat.reduceEqDiff, Nat.reduceBEq, Nat.reduceAdd, Nat.reduceMul, Nat.reduceSub, Nat.reduceLeDiff, Nat.reduceLT, reduceIte, reduceCtorEq, Int.reduceToNat, Int.reduceLE, Int.reduceLT, Int.reduceNeg, Bool.not_not, and_self, Bool.and_eq_false_iff, Int.cast_ofNat_Int, Int.reduceAdd, Int.reduceSub, Int.reduceMul, Int.reduceEq, Int.reduceNe]) rfl (fn34 bs hb) (.inl rfl) trivial ?_
  have hl := globsS_len bs
  unfold globs7
  generalize globsS bs = g at hl
  by_cases h1 : 6 < g.length
  · by_cases h2 : g.length < 21
    · rw [if_pos ⟨h1, h2⟩]
      simp only [go_sem, Nat.reduceEqDiff, Nat.reduceBEq, Nat.reduceAdd, Nat.reduceMul, Nat.reduceSub, Nat.reduceLeDiff, Nat.reduceLT, reduceIte, reduceCtorEq, Int.reduceToNat, Int.reduceLE, Int.reduceLT, Int.reduceNeg, Bool.not_not, and_self, Bool.and_eq_false_iff, Int.cast_ofNat_Int, Int.reduceAdd, Int.reduceSub, Int.reduceMul, Int.reduceEq, Int.reduceNe, show (6 : Int) < (g.length : Int) by omega, show (g.length : Int) < 21 by omega]
      exact ⟨⟨by omega, wf_ss g⟩, by show PV.lst _ = PV.lst ((List.take 6 g).map pS); rw [List.map_take]⟩
    · rw [if_neg (by rintro ⟨_, h⟩; exact h2 h)]
      simp only [go_sem, Nat.reduceEqDiff, Nat.reduceBEq, Nat.reduceAdd, Nat.reduceMul, Nat.reduceSub, Nat.reduceLeDiff, Nat.reduceLT, reduceIte, reduceCtorEq, Int.reduceToNat, Int.reduceLE, Int.reduceLT, Int.reduceNeg, Bool.not_not, and_self, Bool.and_eq_false_iff, Int.cast_ofNat_Int, Int.reduceAdd, Int.reduceSub, Int.reduceMul, Int.reduceEq, Int.reduceNe, show (6 : Int) < (g.length : Int) by omega, show ¬ (g.length : Int) < 21 by omega]
  · rw [if_neg (by rintro ⟨h, _⟩; exact h1 h)]
    simp only [go_sem, Nat.reduceEqDiff, Nat.reduceBEq, Nat.reduceAdd, Nat.reduceMul, Nat.reduceSub, Nat.reduceLeDiff, Nat.reduceLT, reduceIte, reduceCtorEq, Int.reduceToNat, Int.reduceLE, Int.reduceLT, Int.reduceNeg, Bool.not_not, and_self, Bool.and_eq_false_iff, Int.cast_ofNat_Int, Int.reduceAdd, Int.reduceSub, Int.reduceMul, Int.reduceEq, Int.reduceNe, show ¬ (6 : Int) < (g.length : Int) by omega]
structure OfOk (bs : List ByteArray) (most : Int) (k : Nat) : Prop where
  good : goodB bs = true
  e : ofE bs most = 0
  r : ofR bs most = dfaOf (nfaOf (bs.map cutS)) k
  whole : Whole (nfaOf (bs.map cutS)) k
  pos : 1 ≤ k
  le : (k : Int) ≤ most
  fin : dfaK (nfaOf (bs.map cutS)) most.toNat = some k
theorem of_cases (bs : List ByteArray) (most : Int) : (∃ k, OfOk bs most k) ∨ (ofE bs most ≠ 0 ∧ ofR bs most = zDf ∧ (ofE bs most = 1 ∨ ofE bs most = 6)) := by
  cases hg : goodB bs with
  | false => right; unfold ofE ofR; rw [hg]; exact ⟨by simp, rfl, .inl rfl⟩
  | true =>
    by_cases hm : most < 1
    · right
      have h1 : ofE bs most = 1 := by unfold ofE dfaE; rw [hg, if_pos rfl, if_pos hm]
      have h2 : ofR bs most = zDf := by unfold ofR dfaR; rw [hg, if_pos rfl, if_pos hm]
      exact ⟨by omega, h2, .inl h1⟩
    · cases hk : dfaK (nfaOf (bs.map cutS)) most.toNat with
      | none =>
        right
        have h1 : ofE bs most = 6 := by unfold ofE dfaE; rw [hg, if_pos rfl, if_neg hm, hk]; rfl
        have h2 : ofR bs most = zDf := by unfold ofR dfaR; rw [hg, if_pos rfl, if_neg hm, hk]; rfl
        exact ⟨by omega, h2, .inr h1⟩
      | some k =>
        left
        obtain ⟨w, hp, hl⟩ := dfaK_some hk
        exact ⟨k, hg, by unfold ofE dfaE; rw [hg, if_pos rfl, if_neg hm, hk]; rfl, by unfold ofR dfaR; rw [hg, if_pos rfl, if_neg hm, hk]; rfl, w, hp, by omega, hk⟩
theorem sm_z : zDf.Sm := ⟨by simp [zDf, RisB], by simp [zDf], by simp [zDf], by simp [zDf], by simp [zDf], by simp [zDf]⟩
theorem sm_dfa {n : NF} (h : n.Ok) {k : Nat} (hk : k ≤ 1000) : (dfaOf n k).Sm where
  ris := h.ris
  s := by have := h.signs; show n.signs.length ≤ 1000; omega
  n := by rw [next_len]; exact hk
  m := by rw [done_len]; exact hk
  ns := fun l hl => by
    obtain ⟨j, hj, rfl⟩ := List.mem_map.1 hl
    have := h.signs
    rw [rowN_len]; unfold NF.wid; omega
  ds := fun l hl => by
    obtain ⟨j, hj, rfl⟩ := List.mem_map.1 hl
    have h1 := List.length_filter_le (fun g => ((bfsL n j).getD j []).any fun s => decide (g ∈ n.done.getD s [])) (List.range n.beg.length)
    have h2 := h.beg
    unfold doneOf
    rw [List.length_range] at h1
    omega
theorem sm_of (bs : List ByteArray) (most : Int) (hm : most ≤ 1000) : (ofR bs most).Sm := by
  rcases of_cases bs most with ⟨k, h⟩ | ⟨_, h, _⟩
  · rw [h.r]; exact sm_dfa (ok_nfa (gsOk h.good)) (by have := h.le; omega)
  · rw [h]; exact sm_z
theorem resO_z (t : List ByteArray) : resO zDf t = [] := by
  unfold resO
  cases t with
  | nil => rfl
  | cons q t =>
    have : runO zDf (q :: t) = none := by
      unfold runO
      rw [List.foldl_cons]
      have h : stepO zDf (some 0) q = none := by unfold stepO; simp [zDf]
      rw [h, stepO_none]
    rw [this]; rfl
theorem of_res {bs : List ByteArray} {most : Int} {k : Nat} (h : OfOk bs most k) (t : List ByteArray) : resO (ofR bs most) t = resN (bs.map cutS) t := by rw [h.r]; exact resO_nfa h.whole t
theorem of_len {bs : List ByteArray} {most : Int} {k : Nat} (h : OfOk bs most k) : (ofR bs most).next.length = k := by rw [h.r]; exact next_len
/-! ### the chapter's examples -/
abbrev exA : List ByteArray := [⟨#[97]⟩]
abbrev exB : List ByteArray := [⟨#[97, 46, 42]⟩]
theorem exA_9 : ofE exA 9 = 0 ∧ (ofR exA 9).next.length = 2 := by decide +kernel
theorem exA_1 : ofE exA 1 = 6 := by decide +kernel
theorem exB_9 : ofE exB 9 = 0 := by decide +kernel
theorem exB_ab : (if topicB ⟨#[97, 46, 98]⟩ = true then resO (ofR exB 9) (partsB ⟨#[97, 46, 98]⟩) else []) = [0] := by decide +kernel
theorem exB_a : (if topicB ⟨#[97]⟩ = true then resO (ofR exB 9) (partsB ⟨#[97]⟩) else []) = [] := by decide +kernel
theorem fn22 : Fn Tryd.prog 22 [] (.pv (pB true)) [] := by
  have rA := fn20 exA 9 (by decide) (by decide) (by omega)
  have rA1 := fn20 exA 1 (by decide) (by decide) (by omega)
  have rB := fn20 exB 9 (by decide) (by decide) (by omega)
  have r1 := fn21 (ofR exB 9) ⟨#[97, 46, 98]⟩ (sm_of _ _ (by omega)) (by decide)
  have r2 := fn21 (ofR exB 9) ⟨#[97]⟩ (sm_of _ _ (by omega)) (by decide)
  rw [exB_ab] at r1
  rw [exB_a] at r2
  rw [exA_9.1] at rA
  rw [exA_1] at rA1
  rw [exB_9] at rB
  have r3 := fn25 (ofR exA 9)
  rw [exA_9.2] at r3
  generalize ofR exA 9 = dA at *
  generalize ofR exA 1 = dA1 at *
  generalize ofR exB 9 = dB at *
  refine Run22 [] (by simp) ?_
  simp only [go_sem, Nat.reduceEqDiff, Nat.reduceBEq, Nat.reduceAdd, Nat.reduceMul, Nat.reduceSub, Nat.reduceLeDiff, Nat.reduceLT, reduceIte, reduceCtorEq, Int.reduceToNat, Int.reduceLE, Int.reduceLT, Int.reduceNeg, Bool.not_not, and_self, Bool.and_eq_false_iff, Int.cast_ofNat_Int, Int.reduceAdd, Int.reduceSub, Int.reduceMul, Int.reduceEq, Int.reduceNe, M22]
  refine runR_call (by simp only [go_sem, Nat.reduceEqDiff, Nat.reduceBEq, Nat.reduceAdd, Nat.reduceMul, Nat.reduceSub, Nat.reduceLeDiff, Nat.reduceLT, reduceIte, reduceCtorEq, Int.reduceToNat, Int.reduceLE, Int.reduceLT, Int.reduceNeg, Bool.not_not, and_self, Bool.and_eq_false_iff, Int.cast_ofNat_Int, Int.reduceAdd, Int.reduceSub, Int.reduceMul, Int.reduceEq, Int.reduceNe]) rfl (rA) (.inl rfl) trivial ?_
  simp only [go_sem, Nat.reduceEqDiff, Nat.reduceBEq, Nat.reduceAdd, Nat.reduceMul, Nat.reduceSub, Nat.reduceLeDiff, Nat.reduceLT, reduceIte, reduceCtorEq, Int.reduceToNat, Int.reduceLE, Int.reduceLT, Int.reduceNeg, Bool.not_not, and_self, Bool.and_eq_false_iff, Int.cast_ofNat_Int, Int.reduceAdd, Int.reduceSub, Int.reduceMul, Int.reduceEq, Int.reduceNe]
  refine runR_call (by simp only [go_sem, Nat.reduceEqDiff, Nat.reduceBEq, Nat.reduceAdd, Nat.reduceMul, Nat.reduceSub, Nat.reduceLeDiff, Nat.reduceLT, reduceIte, reduceCtorEq, Int.reduceToNat, Int.reduceLE, Int.reduceLT, Int.reduceNeg, Bool.not_not, and_self, Bool.and_eq_false_iff, Int.cast_ofNat_Int, Int.reduceAdd, Int.reduceSub, Int.reduceMul, Int.reduceEq, Int.reduceNe]) rfl (rA1) (.inl rfl) trivial ?_
  simp only [go_sem, Nat.reduceEqDiff, Nat.reduceBEq, Nat.reduceAdd, Nat.reduceMul, Nat.reduceSub, Nat.reduceLeDiff, Nat.reduceLT, reduceIte, reduceCtorEq, Int.reduceToNat, Int.reduceLE, Int.reduceLT, Int.reduceNeg, Bool.not_not, and_self, Bool.and_eq_false_iff, Int.cast_ofNat_Int, Int.reduceAdd, Int.reduceSub, Int.reduceMul, Int.reduceEq, Int.reduceNe]
  refine runR_call (by simp only [go_sem, Nat.reduceEqDiff, Nat.reduceBEq, Nat.reduceAdd, Nat.reduceMul, Nat.reduceSub, Nat.reduceLeDiff, Nat.reduceLT, reduceIte, reduceCtorEq, Int.reduceToNat, Int.reduceLE, Int.reduceLT, Int.reduceNeg, Bool.not_not, and_self, Bool.and_eq_false_iff, Int.cast_ofNat_Int, Int.reduceAdd, Int.reduceSub, Int.reduceMul, Int.reduceEq, Int.reduceNe]) rfl (rB) (.inl rfl) trivial ?_
  simp only [go_sem, Nat.reduceEqDiff, Nat.reduceBEq, Nat.reduceAdd, Nat.reduceMul, Nat.reduceSub, Nat.reduceLeDiff, Nat.reduceLT, reduceIte, reduceCtorEq, Int.reduceToNat, Int.reduceLE, Int.reduceLT, Int.reduceNeg, Bool.not_not, and_self, Bool.and_eq_false_iff, Int.cast_ofNat_Int, Int.reduceAdd, Int.reduceSub, Int.reduceMul, Int.reduceEq, Int.reduceNe]
  refine runR_callf (by simp only [go_sem, Nat.reduceEqDiff, Nat.reduceBEq, Nat.reduceAdd, Nat.reduceMul, Nat.reduceSub, Nat.reduceLeDiff, Nat.reduceLT, reduceIte, reduceCtorEq, Int.reduceToNat, Int.reduceLE, Int.reduceLT, Int.reduceNeg, Bool.not_not, and_self, Bool.and_eq_false_iff, Int.cast_ofNat_Int, Int.reduceAdd, Int.reduceSub, Int.reduceMul, Int.reduceEq, Int.reduceNe]) (by simp only [go_sem, Nat.reduceEqDiff, Nat.reduceBEq, Nat.reduceAdd, Nat.reduceMul, Nat.reduceSub, Nat.reduceLeDiff, Nat.reduceLT, reduceIte, reduceCtorEq, Int.reduceToNat, Int.reduceLE, Int.reduceLT, Int.reduceNeg, Bool.not_not, and_self, Bool.and_eq_false_iff, Int.cast_ofNat_Int, Int.reduceAdd, Int.reduceSub, Int.reduceMul, Int.reduceEq, Int.reduceNe] <;> rfl) (r3) ⟨rfl, trivial⟩ trivial ?_
  simp only [go_sem, Nat.reduceEqDiff, Nat.reduceBEq, Nat.reduceAdd, Nat.reduceMul, Nat.reduceSub, Nat.reduceLeDiff, Nat.reduceLT, reduceIte, reduceCtorEq, Int.reduceToNat, Int.reduceLE, Int.reduceLT, Int.reduceNeg, Bool.not_not, and_self, Bool.and_eq_false_iff, Int.cast_ofNat_Int, Int.reduceAdd, Int.reduceSub, Int.reduceMul, Int.reduceEq, Int.reduceNe]
  refine runR_callg (by simp only [go_sem, Nat.reduceEqDiff, Nat.reduceBEq, Nat.reduceAdd, Nat.reduceMul, Nat.reduceSub, Nat.reduceLeDiff, Nat.reduceLT, reduceIte, reduceCtorEq, Int.reduceToNat, Int.reduceLE, Int.reduceLT, Int.reduceNeg, Bool.not_not, and_self, Bool.and_eq_false_iff, Int.cast_ofNat_Int, Int.reduceAdd, Int.reduceSub, Int.reduceMul, Int.reduceEq, Int.reduceNe]) (by simp only [go_sem, Nat.reduceEqDiff, Nat.reduceBEq, Nat.reduceAdd, Nat.reduceMul, Nat.reduceSub, Nat.reduceLeDiff, Nat.reduceLT, reduceIte, reduceCtorEq, Int.reduceToNat, Int.reduceLE, Int.reduceLT, Int.reduceNeg, Bool.not_not, and_self, Bool.and_eq_false_iff, Int.cast_ofNat_Int, Int.reduceAdd, Int.reduceSub, Int.reduceMul, Int.reduceEq, Int.reduceNe]) rfl (fun _ => r1) (.inl rfl) ?_
  simp only [go_sem, Nat.reduceEqDiff, Nat.reduceBEq, Nat.reduceAdd, Nat.reduceMul, Nat.reduceSub, Nat.reduceLeDiff, Nat.reduceLT, reduceIte, reduceCtorEq, Int.reduceToNat, Int.reduceLE, Int.reduceLT, Int.reduceNeg, Bool.not_not, and_self, Bool.and_eq_false_iff, Int.cast_ofNat_Int, Int.reduceAdd, Int.reduceSub, Int.reduceMul, Int.reduceEq, Int.reduceNe]
  refine runR_callgf (by simp only [go_sem, Nat.reduceEqDiff, Nat.reduceBEq, Nat.reduceAdd, Nat.reduceMul, Nat.reduceSub, Nat.reduceLeDiff, Nat.reduceLT, reduceIte, reduceCtorEq, Int.reduceToNat, Int.reduceLE, Int.reduceLT, Int.reduceNeg, Bool.not_not, and_self, Bool.and_eq_false_iff, Int.cast_ofNat_Int, Int.reduceAdd, Int.reduceSub, Int.reduceMul, Int.reduceEq, Int.reduceNe]) (by simp only [go_sem, Nat.reduceEqDiff, Nat.reduceBEq, Nat.reduceAdd, Nat.reduceMul, Nat.reduceSub, Nat.reduceLeDiff, Nat.reduceLT, reduceIte, reduceCtorEq, Int.reduceToNat, Int.reduceLE, Int.reduceLT, Int.reduceNeg, Bool.not_not, and_self, Bool.and_eq_false_iff, Int.cast_ofNat_Int, Int.reduceAdd, Int.reduceSub, Int.reduceMul, Int.reduceEq, Int.reduceNe]) (by simp only [go_sem, Nat.reduceEqDiff, Nat.reduceBEq, Nat.reduceAdd, Nat.reduceMul, Nat.reduceSub, Nat.reduceLeDiff, Nat.reduceLT, reduceIte, reduceCtorEq, Int.reduceToNat, Int.reduceLE, Int.reduceLT, Int.reduceNeg, Bool.not_not, and_self, Bool.and_eq_false_iff, Int.cast_ofNat_Int, Int.reduceAdd, Int.reduceSub, Int.reduceMul, Int.reduceEq, Int.reduceNe] <;> rfl) (fun _ => fn23t [0] (by decide)) rfl ?_
  simp only [go_sem, Nat.reduceEqDiff, Nat.reduceBEq, Nat.reduceAdd, Nat.reduceMul, Nat.reduceSub, Nat.reduceLeDiff, Nat.reduceLT, reduceIte, reduceCtorEq, Int.reduceToNat, Int.reduceLE, Int.reduceLT, Int.reduceNeg, Bool.not_not, and_self, Bool.and_eq_false_iff, Int.cast_ofNat_Int, Int.reduceAdd, Int.reduceSub, Int.reduceMul, Int.reduceEq, Int.reduceNe]
  refine runR_callg (by simp only [go_sem, Nat.reduceEqDiff, Nat.reduceBEq, Nat.reduceAdd, Nat.reduceMul, Nat.reduceSub, Nat.reduceLeDiff, Nat.reduceLT, reduceIte, reduceCtorEq, Int.reduceToNat, Int.reduceLE, Int.reduceLT, Int.reduceNeg, Bool.not_not, and_self, Bool.and_eq_false_iff, Int.cast_ofNat_Int, Int.reduceAdd, Int.reduceSub, Int.reduceMul, Int.reduceEq, Int.reduceNe]) (by simp only [go_sem, Nat.reduceEqDiff, Nat.reduceBEq, Nat.reduceAdd, Nat.reduceMul, Nat.reduceSub, Nat.reduceLeDiff, Nat.reduceLT, reduceIte, reduceCtorEq, Int.reduceToNat, Int.reduceLE, Int.reduceLT, Int.reduceNeg, Bool.not_not, and_self, Bool.and_eq_false_iff, Int.cast_ofNat_Int, Int.reduceAdd, Int.reduceSub, Int.reduceMul, Int.reduceEq, Int.reduceNe]) rfl (fun _ => r2) (.inl rfl) ?_
  simp only [go_sem, Nat.reduceEqDiff, Nat.reduceBEq, Nat.reduceAdd, Nat.reduceMul, Nat.reduceSub, Nat.reduceLeDiff, Nat.reduceLT, reduceIte, reduceCtorEq, Int.reduceToNat, Int.reduceLE, Int.reduceLT, Int.reduceNeg, Bool.not_not, and_self, Bool.and_eq_false_iff, Int.cast_ofNat_Int, Int.reduceAdd, Int.reduceSub, Int.reduceMul, Int.reduceEq, Int.reduceNe, show (toI ([] : List Nat)).length = 0 by rfl]
/-! ## DfaMeets -/
theorem law5 (bs : List ByteArray) (t : ByteArray) (hb : bs.length ≤ 9223372036854775807) : Fn Tryd.prog 5 [ss bs, pS t] (.pv (pB true)) [] := by
  refine Run5 [] (by simp) ?_
  simp only [go_sem, Nat.reduceEqDiff, Nat.reduceBEq, Nat.reduceAdd, Nat.reduceMul, Nat.reduceSub, Nat.reduceLeDiff, Nat.reduceLT, reduceIte, reduceCtorEq, Int.reduceToNat, Int.reduceLE, Int.reduceLT, Int.reduceNeg, Bool.not_not, and_self, Bool.and_eq_false_iff, Int.cast_ofNat_Int, Int.reduceAdd, Int.reduceSub, Int.reduceMul, Int.reduceEq, Int.reduceNe, M5]
  refine runR_call (by simp only [go_sem, Nat.reduceEqDiff, Nat.reduceBEq, Nat.reduceAdd, Nat.reduceMul, Nat.reduceSub, Nat.reduceLeDiff, Nat.reduceLT, reduceIte, reduceCtorEq, Int.reduceToNat, Int.reduceLE, Int.reduceLT, Int.reduceNeg, Bool.not_not, and_self, Bool.and_eq_false_iff, Int.cast_ofNat_Int, Int.reduceAdd, Int.reduceSub, Int.reduceMul, Int.reduceEq, Int.reduceNe]) rfl (fn18 bs hb) (.inl rfl) trivial ?_
  simp only [go_sem, Nat.reduceEqDiff, Nat.reduceBEq, Nat.reduceAdd, Nat.reduceMul, Nat.reduceSub, Nat.reduceLeDiff, Nat.reduceLT, reduceIte, reduceCtorEq, Int.reduceToNat, Int.reduceLE, Int.reduceLT, Int.reduceNeg, Bool.not_not, and_self, Bool.and_eq_false_iff, Int.cast_ofNat_Int, Int.reduceAdd, Int.reduceSub, Int.reduceMul, Int.reduceEq, Int.reduceNe]
  refine runR_callf (by simp only [go_sem, Nat.reduceEqDiff, Nat.reduceBEq, Nat.reduceAdd, Nat.reduceMul, Nat.reduceSub, Nat.reduceLeDiff, Nat.reduceLT, reduceIte, reduceCtorEq, Int.reduceToNat, Int.reduceLE, Int.reduceLT, Int.reduceNeg, Bool.not_not, and_self, Bool.and_eq_false_iff, Int.cast_ofNat_Int, Int.reduceAdd, Int.reduceSub, Int.reduceMul, Int.reduceEq, Int.reduceNe]) (by simp only [go_sem, Nat.reduceEqDiff, Nat.reduceBEq, Nat.reduceAdd, Nat.reduceMul, Nat.reduceSub, Nat.reduceLeDiff, Nat.reduceLT, reduceIte, reduceCtorEq, Int.reduceToNat, Int.reduceLE, Int.reduceLT, Int.reduceNeg, Bool.not_not, and_self, Bool.and_eq_false_iff, Int.cast_ofNat_Int, Int.reduceAdd, Int.reduceSub, Int.reduceMul, Int.reduceEq, Int.reduceNe] <;> rfl) (fn19 t) ⟨rfl, trivial⟩ trivial ?_
  simp only [go_sem, Nat.reduceEqDiff, Nat.reduceBEq, Nat.reduceAdd, Nat.reduceMul, Nat.reduceSub, Nat.reduceLeDiff, Nat.reduceLT, reduceIte, reduceCtorEq, Int.reduceToNat, Int.reduceLE, Int.reduceLT, Int.reduceNeg, Bool.not_not, and_self, Bool.and_eq_false_iff, Int.cast_ofNat_Int, Int.reduceAdd, Int.reduceSub, Int.reduceMul, Int.reduceEq, Int.reduceNe]
  have hl := globs7_len bs
  have hts : (fewS t).size ≤ 1000 := by have := fewS_size t; omega
  have hsz : ∀ b ∈ globs7 bs, b.size ≤ 1000 := fun b hb => by have := globs7_size hb; omega
  generalize globs7 bs = gl at hl hsz
  generalize fewS t = q at hts
  have r20 := fn20 gl 200 (by omega) hsz (by omega)
  have r21 := fn21 (ofR gl 200) q (sm_of _ _ (by omega)) hts
  refine runR_call (by simp only [go_sem, Nat.reduceEqDiff, Nat.reduceBEq, Nat.reduceAdd, Nat.reduceMul, Nat.reduceSub, Nat.reduceLeDiff, Nat.reduceLT, reduceIte, reduceCtorEq, Int.reduceToNat, Int.reduceLE, Int.reduceLT, Int.reduceNeg, Bool.not_not, and_self, Bool.and_eq_false_iff, Int.cast_ofNat_Int, Int.reduceAdd, Int.reduceSub, Int.reduceMul, Int.reduceEq, Int.reduceNe]) rfl (r20) (.inl rfl) trivial ?_
  rcases of_cases gl 200 with ⟨k, h⟩ | ⟨h1, h2, _⟩
  · have hgl := (goodB_iff.1 h.good).2
    rw [of_res h, res_meet hgl] at r21
    rw [h.e]
    generalize ofR gl 200 = d at r21
    simp only [go_sem, Nat.reduceEqDiff, Nat.reduceBEq, Nat.reduceAdd, Nat.reduceMul, Nat.reduceSub, Nat.reduceLeDiff, Nat.reduceLT, reduceIte, reduceCtorEq, Int.reduceToNat, Int.reduceLE, Int.reduceLT, Int.reduceNeg, Bool.not_not, and_self, Bool.and_eq_false_iff, Int.cast_ofNat_Int, Int.reduceAdd, Int.reduceSub, Int.reduceMul, Int.reduceEq, Int.reduceNe]
    refine runR_call (by simp only [go_sem, Nat.reduceEqDiff, Nat.reduceBEq, Nat.reduceAdd, Nat.reduceMul, Nat.reduceSub, Nat.reduceLeDiff, Nat.reduceLT, reduceIte, reduceCtorEq, Int.reduceToNat, Int.reduceLE, Int.reduceLT, Int.reduceNeg, Bool.not_not, and_self, Bool.and_eq_false_iff, Int.cast_ofNat_Int, Int.reduceAdd, Int.reduceSub, Int.reduceMul, Int.reduceEq, Int.reduceNe]) rfl (r21) (.inl rfl) trivial ?_
    simp only [go_sem, Nat.reduceEqDiff, Nat.reduceBEq, Nat.reduceAdd, Nat.reduceMul, Nat.reduceSub, Nat.reduceLeDiff, Nat.reduceLT, reduceIte, reduceCtorEq, Int.reduceToNat, Int.reduceLE, Int.reduceLT, Int.reduceNeg, Bool.not_not, and_self, Bool.and_eq_false_iff, Int.cast_ofNat_Int, Int.reduceAdd, Int.reduceSub, Int.reduceMul, Int.reduceEq, Int.reduceNe]
    refine runR_call (by simp only [go_sem, Nat.reduceEqDiff, Nat.reduceBEq, Nat.reduceAdd, Nat.reduceMul, Nat.reduceSub, Nat.reduceLeDiff, Nat.reduceLT, reduceIte, reduceCtorEq, Int.reduceToNat, Int.reduceLE, Int.reduceLT, Int.reduceNeg, Bool.not_not, and_self, Bool.and_eq_false_iff, Int.cast_ofNat_Int, Int.reduceAdd, Int.reduceSub, Int.reduceMul, Int.reduceEq, Int.reduceNe]) rfl (fn24 gl q (by omega) hsz hts) (.inl rfl) trivial ?_
    simp only [go_sem, Nat.reduceEqDiff, Nat.reduceBEq, Nat.reduceAdd, Nat.reduceMul, Nat.reduceSub, Nat.reduceLeDiff, Nat.reduceLT, reduceIte, reduceCtorEq, Int.reduceToNat, Int.reduceLE, Int.reduceLT, Int.reduceNeg, Bool.not_not, and_self, Bool.and_eq_false_iff, Int.cast_ofNat_Int, Int.reduceAdd, Int.reduceSub, Int.reduceMul, Int.reduceEq, Int.reduceNe]
    refine runR_callf (by simp only [go_sem, Nat.reduceEqDiff, Nat.reduceBEq, Nat.reduceAdd, Nat.reduceMul, Nat.reduceSub, Nat.reduceLeDiff, Nat.reduceLT, reduceIte, reduceCtorEq, Int.reduceToNat, Int.reduceLE, Int.reduceLT, Int.reduceNeg, Bool.not_not, and_self, Bool.and_eq_false_iff, Int.cast_ofNat_Int, Int.reduceAdd, Int.reduceSub, Int.reduceMul, Int.reduceEq, Int.reduceNe]) (by simp only [go_sem, Nat.reduceEqDiff, Nat.reduceBEq, Nat.reduceAdd, Nat.reduceMul, Nat.reduceSub, Nat.reduceLeDiff, Nat.reduceLT, reduceIte, reduceCtorEq, Int.reduceToNat, Int.reduceLE, Int.reduceLT, Int.reduceNeg, Bool.not_not, and_self, Bool.and_eq_false_iff, Int.cast_ofNat_Int, Int.reduceAdd, Int.reduceSub, Int.reduceMul, Int.reduceEq, Int.reduceNe] <;> rfl) (fn23t (toI (meetN gl q gl.length)) (by have := meetN_len gl q gl.length; simp [toI]; omega)) ⟨rfl, trivial⟩ trivial ?_
    simp only [go_sem, Nat.reduceEqDiff, Nat.reduceBEq, Nat.reduceAdd, Nat.reduceMul, Nat.reduceSub, Nat.reduceLeDiff, Nat.reduceLT, reduceIte, reduceCtorEq, Int.reduceToNat, Int.reduceLE, Int.reduceLT, Int.reduceNeg, Bool.not_not, and_self, Bool.and_eq_false_iff, Int.cast_ofNat_Int, Int.reduceAdd, Int.reduceSub, Int.reduceMul, Int.reduceEq, Int.reduceNe]
    refine runR_callgf (by simp only [go_sem, Nat.reduceEqDiff, Nat.reduceBEq, Nat.reduceAdd, Nat.reduceMul, Nat.reduceSub, Nat.reduceLeDiff, Nat.reduceLT, reduceIte, reduceCtorEq, Int.reduceToNat, Int.reduceLE, Int.reduceLT, Int.reduceNeg, Bool.not_not, and_self, Bool.and_eq_false_iff, Int.cast_ofNat_Int, Int.reduceAdd, Int.reduceSub, Int.reduceMul, Int.reduceEq, Int.reduceNe]) (by simp only [go_sem, Nat.reduceEqDiff, Nat.reduceBEq, Nat.reduceAdd, Nat.reduceMul, Nat.reduceSub, Nat.reduceLeDiff, Nat.reduceLT, reduceIte, reduceCtorEq, Int.reduceToNat, Int.reduceLE, Int.reduceLT, Int.reduceNeg, Bool.not_not, and_self, Bool.and_eq_false_iff, Int.cast_ofNat_Int, Int.reduceAdd, Int.reduceSub, Int.reduceMul, Int.reduceEq, Int.reduceNe]) (by simp only [go_sem, Nat.reduceEqDiff, Nat.reduceBEq, Nat.reduceAdd, Nat.reduceMul, Nat.reduceSub, Nat.reduceLeDiff, Nat.reduceLT, reduceIte, reduceCtorEq, Int.reduceToNat, Int.reduceLE, Int.reduceLT, Int.reduceNeg, Bool.not_not, and_self, Bool.and_eq_false_iff, Int.cast_ofNat_Int, Int.reduceAdd, Int.reduceSub, Int.reduceMul, Int.reduceEq, Int.reduceNe] <;> rfl) (fun _ => fn22) rfl ?_
    simp only [go_sem, Nat.reduceEqDiff, Nat.reduceBEq, Nat.reduceAdd, Nat.reduceMul, Nat.reduceSub, Nat.reduceLeDiff, Nat.reduceLT, reduceIte, reduceCtorEq, Int.reduceToNat, Int.reduceLE, Int.reduceLT, Int.reduceNeg, Bool.not_not, and_self, Bool.and_eq_false_iff, Int.cast_ofNat_Int, Int.reduceAdd, Int.reduceSub, Int.reduceMul, Int.reduceEq, Int.reduceNe]
  · rw [h2, resO_z, ite_self] at r21
    rw [h2]
    generalize zDf = d at r21
    generalize ofE gl 200 = e at h1
    simp only [go_sem, Nat.reduceEqDiff, Nat.reduceBEq, Nat.reduceAdd, Nat.reduceMul, Nat.reduceSub, Nat.reduceLeDiff, Nat.reduceLT, reduceIte, reduceCtorEq, Int.reduceToNat, Int.reduceLE, Int.reduceLT, Int.reduceNeg, Bool.not_not, and_self, Bool.and_eq_false_iff, Int.cast_ofNat_Int, Int.reduceAdd, Int.reduceSub, Int.reduceMul, Int.reduceEq, Int.reduceNe, h1]
    refine runR_call (by simp only [go_sem, Nat.reduceEqDiff, Nat.reduceBEq, Nat.reduceAdd, Nat.reduceMul, Nat.reduceSub, Nat.reduceLeDiff, Nat.reduceLT, reduceIte, reduceCtorEq, Int.reduceToNat, Int.reduceLE, Int.reduceLT, Int.reduceNeg, Bool.not_not, and_self, Bool.and_eq_false_iff, Int.cast_ofNat_Int, Int.reduceAdd, Int.reduceSub, Int.reduceMul, Int.reduceEq, Int.reduceNe]) rfl (r21) (.inl rfl) trivial ?_
    simp only [go_sem, Nat.reduceEqDiff, Nat.reduceBEq, Nat.reduceAdd, Nat.reduceMul, Nat.reduceSub, Nat.reduceLeDiff, Nat.reduceLT, reduceIte, reduceCtorEq, Int.reduceToNat, Int.reduceLE, Int.reduceLT, Int.reduceNeg, Bool.not_not, and_self, Bool.and_eq_false_iff, Int.cast_ofNat_Int, Int.reduceAdd, Int.reduceSub, Int.reduceMul, Int.reduceEq, Int.reduceNe, show (toI ([] : List Nat)).length = 0 by rfl]
    refine runR_callgf (by simp only [go_sem, Nat.reduceEqDiff, Nat.reduceBEq, Nat.reduceAdd, Nat.reduceMul, Nat.reduceSub, Nat.reduceLeDiff, Nat.reduceLT, reduceIte, reduceCtorEq, Int.reduceToNat, Int.reduceLE, Int.reduceLT, Int.reduceNeg, Bool.not_not, and_self, Bool.and_eq_false_iff, Int.cast_ofNat_Int, Int.reduceAdd, Int.reduceSub, Int.reduceMul, Int.reduceEq, Int.reduceNe]) (by simp only [go_sem, Nat.reduceEqDiff, Nat.reduceBEq, Nat.reduceAdd, Nat.reduceMul, Nat.reduceSub, Nat.reduceLeDiff, Nat.reduceLT, reduceIte, reduceCtorEq, Int.reduceToNat, Int.reduceLE, Int.reduceLT, Int.reduceNeg, Bool.not_not, and_self, Bool.and_eq_false_iff, Int.cast_ofNat_Int, Int.reduceAdd, Int.reduceSub, Int.reduceMul, Int.reduceEq, Int.reduceNe]) (by simp only [go_sem, Nat.reduceEqDiff, Nat.reduceBEq, Nat.reduceAdd, Nat.reduceMul, Nat.reduceSub, Nat.reduceLeDiff, Nat.reduceLT, reduceIte, reduceCtorEq, Int.reduceToNat, Int.reduceLE, Int.reduceLT, Int.reduceNeg, Bool.not_not, and_self, Bool.and_eq_false_iff, Int.cast_ofNat_Int, Int.reduceAdd, Int.reduceSub, Int.reduceMul, Int.reduceEq, Int.reduceNe] <;> rfl) (fun _ => fn22) rfl ?_
    simp only [go_sem, Nat.reduceEqDiff, Nat.reduceBEq, Nat.reduceAdd, Nat.reduceMul, Nat.reduceSub, Nat.reduceLeDiff, Nat.reduceLT, reduceIte, reduceCtorEq, Int.reduceToNat, Int.reduceLE, Int.reduceLT, Int.reduceNeg, Bool.not_not, and_self, Bool.and_eq_false_iff, Int.cast_ofNat_Int, Int.reduceAdd, Int.reduceSub, Int.reduceMul, Int.reduceEq, Int.reduceNe]
end Go.Vc

namespace Go.Vc
open Go.Proofs Go.Proofs.YtmgbbmhljopepaaDoor
set_option maxRecDepth 100000
theorem strs_of {p : PV} (h : ArgOk (false, [.lst false [.str]]) p) : ∃ l : List ByteArray, p = ss l ∧ l.length ≤ 9223372036854775807 := by
  have h1 := OkShs_one h
  simp only [OkSh] at h1
  obtain ⟨xs, rfl, hl, hx⟩ := h1
  obtain ⟨l, rfl⟩ := map_of (f := fun b : ByteArray => pS b) (fun x hx' => by
    have := (hx x hx').2 trivial
    simp only [OkShs, OkSh] at this
    obtain ⟨_, _, e, ⟨n, rfl, _⟩, rfl⟩ := this
    injection e with e1 _
    exact ⟨n, e1⟩)
  exact ⟨l, rfl, by simpa [maxLen] using hl⟩
theorem i64s_of {p : PV} (h : ArgOk (false, [.lst false [.int .i64]]) p) : ∃ l : List Int, p = ints l ∧ l.length ≤ 9223372036854775807 := by
  obtain ⟨l, rfl, hl, _⟩ := ints_of (OkShs_one h)
  exact ⟨l, rfl, hl⟩
theorem i64_of {p : PV} (h : ArgOk (false, [.int .i64]) p) : ∃ n : Int, p = pI n := by
  obtain ⟨n, rfl, _⟩ := int_of h
  exact ⟨n, rfl⟩
theorem u8_of {p : PV} (h : ArgOk (false, [.int .u8]) p) : ∃ n : Nat, p = p8 n ∧ n ≤ 255 := by
  obtain ⟨n, rfl, hn⟩ := int_of h
  have := Go.bounds_u8 hn
  obtain ⟨m, rfl⟩ := Int.eq_ofNat_of_zero_le this.1
  exact ⟨m, rfl, by omega⟩
abbrev laidL : List (String × DataW Unit) := [("math/bits.deBruijn64tab", Rows.laid_math_bits_deBruijn64tab), ("unicode/utf8.acceptRanges", Rows.laid_unicode_utf8_acceptRanges), ("unicode/utf8.first", Rows.laid_unicode_utf8_first)]
theorem tab_lt {P : Program} {w : World} {name : String} {k : IntKind} {zs : List Int} {g : Nat} (h : Lib.TabIs P w name k zs) (hg : P.globalNamed name = some g) : g < w.heap.size := by
  unfold Lib.TabIs World.var? at h
  rw [hg] at h
  simp only [Option.bind_some] at h
  rcases Nat.lt_or_ge g w.heap.size with h1 | h1
  · exact h1
  · rw [Array.getElem?_eq_none h1] at h; cases h
theorem laidL_tab : (Rows.laid_math_bits_deBruijn64tab : DataW Unit) = Lib.tabData .u8 (Lib.deBruijn64tab.map fun n : Nat => (n : Int)) := by kernel_rfl
theorem tabsTryd (w : World) (h : laidMetH Tryd.prog laidL w) : Tabs Tryd.prog w (fun _ => False) := fun t ht g hg => by
  simp only [tabList, List.mem_cons, List.not_mem_nil, or_false] at ht
  subst ht
  rw [Go.MakeChecks.laidMetH_plain _ _ _ (by kernel_rfl)] at h
  have hgn : Tryd.prog.globalNamed "math/bits.deBruijn64tab" = some 0 := by kernel_rfl
  have hT : Lib.TabIs Tryd.prog w "math/bits.deBruijn64tab" .u8 (Lib.deBruijn64tab.map fun n : Nat => (n : Int)) := by
    unfold laidL at h
    rw [laidL_tab] at h
    exact Lib.tabIs_of_head (t := 111) (e := 5) (n := 64) hgn (by kernel_rfl) (by kernel_rfl) (by kernel_rfl) (by kernel_rfl) (by kernel_rfl) h
  exact ⟨fun h => h, tab_lt hT hg, hT⟩
theorem ownTryd : ownKnob Tryd.prog.godebug = none := by kernel_rfl
theorem laidOutTryd : laidOutB Tryd.prog = true := by kernel_rfl
/-- a world in which the listed tables lie -/
noncomputable def laidWorld (os : Os) : World := layAt (layAt (layAt (World.holding Tryd.prog os ⟨#[], #[], []⟩) 0 (litsOf (Rows.laid_math_bits_deBruijn64tab : DataW Unit))) 3 (litsOf Rows.laid_unicode_utf8_first)) 4 (litsOf (Rows.laid_unicode_utf8_acceptRanges : DataW Unit))
theorem laid_met (os : Os) (args : Array Value) : laidMetH Tryd.prog laidL ((laidWorld os).forCall (fun _ _ => 0) ⟨#[], args, []⟩).memory := by
  have h : laidMet Tryd.prog laidL ((laidWorld os).forCall (fun _ _ => 0) ⟨#[], args, []⟩).memory := laidMet_of_run3 8 (by kernel_rfl) (by kernel_rfl) (by kernel_rfl)
  exact laidMetH_of_parts h (by kernel_rfl)
end Go.Vc
