/- A part of the proofs of the seat YtmgbbmhljopepaaGreatDoor: the contracts of functions, each proved out of its code. -/
import Derived.Test.YtmgbbmhljopepaaGreatDoorVh
import Derived.Test.YtmgbbmhljopepaaGreatDoorProg
import Derived.Test.YtmgbbmhljopepaaGreatDoorDa
namespace Go.Vc
open Go.Proofs
set_option maxRecDepth 100000



/-- 'trystref02.Same' -/
def B50_0 : MC := (.seq (.seq (.reg [⟨(some 11), none, (.q (.mv (.t 5)))⟩, ⟨(some 12), none, (.q (.mv (.t 0)))⟩, ⟨(some 13), none, (.q (.len (.t 12) false))⟩, ⟨(some 14), none, (.q (.bin .lss (.t 11)
  (.t 13)))⟩] [] [0, 1, 5, 14] []) (.cond (.t 14) .skip (.exit 0))) (.seq (.block 1 (.seq (.reg [⟨(some 17), none, (.q (.mv (.t 0)))⟩, ⟨(some 18), none, (.q (.mv (.t 5)))⟩, ⟨(some 19), none,
  (.q (.ia (.t 17) (.t 18) 1))⟩, ⟨(some 20), none, (.q (.ld (.t 19) 1 false))⟩, ⟨(some 21), none, (.q (.mv (.t 1)))⟩, ⟨(some 22), none, (.q (.mv (.t 5)))⟩, ⟨(some 23), none, (.q (.ia (.t 21) (.t 22)
  1))⟩, ⟨(some 24), none, (.q (.ld (.t 23) 1 false))⟩, ⟨(some 25), none, (.q (.bin .neq (.t 20) (.t 24)))⟩] [] [0, 1, 5, 25] []) (.cond (.t 25) (.seq (.reg [⟨(some 4), none,
  (.q (.mv (.c (.bool false))))⟩] [] [4] []) .ret) .skip))) (.reg [⟨(some 15), none, (.q (.mv (.t 5)))⟩, ⟨(some 16), none, (.q (.bin .add (.t 15) (.c (.int .i64 1))))⟩, ⟨(some 5), none,
  (.q (.mv (.t 16)))⟩] [] [0, 1, 5] [])))
def R50_0 : MC := (.seq (.reg [⟨(some 4), none, (.q (.mv (.c (.bool true))))⟩] [] [4] []) .ret)
def M50 : MC := (.seq (.reg [⟨(some 4), none, (.q (.mv (.c (.bool false))))⟩] [] [0, 1] []) (.seq (.seq (.reg [⟨(some 6), none, (.q (.mv (.t 0)))⟩, ⟨(some 7), none, (.q (.len (.t 6) false))⟩,
  ⟨(some 8), none, (.q (.mv (.t 1)))⟩, ⟨(some 9), none, (.q (.len (.t 8) false))⟩, ⟨(some 10), none, (.q (.bin .neq (.t 7) (.t 9)))⟩] [] [0, 1, 10] []) (.cond (.t 10) (.seq (.reg [⟨(some 4), none,
  (.q (.mv (.c (.bool false))))⟩] [] [4] []) .ret) .skip)) (.seq (.seq (.reg [⟨(some 5), none, (.q (.mv (.c (.int .i64 0))))⟩] [] [0, 1, 5] []) (.block 0 (.loop B50_0))) R50_0)))
theorem mc50 : ofCode Tryz.prog [] Tryz.f50.ntmps [(0, ⟨[0, 1], [], [], 0, [], none⟩),
    (1, ⟨[0, 1, 10], [], [], 0, [], none⟩),
    (2, ⟨[4], [], [], 0, [], none⟩),
    (3, ⟨[0, 1, 5], [], [], 0, [], none⟩),
    (4, ⟨[0, 1, 5, 14], [], [], 0, [], none⟩),
    (5, ⟨[0, 1, 5], [], [], 0, [], none⟩),
    (6, ⟨[0, 1, 5, 25], [], [(0, 269), (1, 270), (2, 268), (3, 264), (4, 464), (5, 480), (6, 448), (7, 384), (8, 256)], 511, [], none⟩),
    (7, ⟨[4], [], [], 0, [], none⟩),
    (8, ⟨[4], [], [], 0, [], none⟩)] (Tryz.f50.body.getD .skip) = some M50 := by kernel_rfl
theorem Run50 {args : List PV} {v : AV} {rs : List (Nat × List PV)} (ids : List Bool) (h : args.length ≤ 26) (hv : run Tryz.prog (retK [RV.tmp 4] ids v rs) M50 [] ⟨entry 0 args, []⟩) : Fn Tryz.prog 50 args v rs :=
  Fn_run ids (by kernel_rfl) Tryz.func50 (by decide) rfl mc50 (by kernel_rfl) (by rw [Tryz.ntmps50]; exact h) (by rw [Tryz.ntmps50]; decide) hv







end Go.Vc

namespace Go.Vc
open Go.Proofs
set_option linter.unusedSimpArgs false
set_option linter.unusedVariables false

/-! ## Names and globs -/
theorem fn63 (s : ByteArray) (hs : s.size ≤ 1000) : Fn Tryz.prog 63 [pS s, pS sDot] (.pv (ss (cutS s))) [] := by
  refine Run63 [] (by simp) ?_
  simp only [go_sem, Nat.reduceEqDiff, reduceCtorEq, Int.reduceNeg, and_self, M63]
  refine runR_call (by simp only [go_sem, Nat.reduceEqDiff, reduceCtorEq, Int.reduceNeg, and_self]) rfl (fn91 s hs) (.inl rfl) trivial ?_
  simp only [go_sem, Nat.reduceEqDiff, reduceCtorEq, and_self]
theorem fn103 (r : Int) : Fn Tryz.prog 103 [.sc (.int .i32 r)] (.pv (pB (okR r))) [] := by
  refine Run103 [] (by simp) ?_
  simp only [go_sem, Nat.reduceEqDiff, reduceCtorEq, and_self, Bool.and_eq_false_iff, M103]
  unfold okR
  by_cases h1 : 97 ≤ r <;> by_cases h2 : r ≤ 122 <;> by_cases h3 : 48 ≤ r <;> by_cases h4 : r ≤ 57 <;> by_cases h5 : r = 95 <;> simp [h1, h2, h3, h4, h5]
theorem decode_small {s : ByteArray} {i : Nat} (h : (s.get! i).toNat < 128) : Utf8.decode s i = ((s.get! i).toNat, 1) := by
  simp [Utf8.decode, h]
theorem decode_big {s : ByteArray} {i : Nat} (h : 128 ≤ (s.get! i).toNat) : 128 ≤ (Utf8.decode s i).1 := by
  unfold Utf8.decode
  simp only [Nat.add_zero]
  rw [if_neg (by omega)]
  repeat' split
  all_goals simp only [Utf8.runeError, Bool.and_eq_true, decide_eq_true_eq, ge_iff_le] at * <;> omega
theorem get_list {s : ByteArray} {i : Nat} (h : i < s.size) : s.get! i = s.data.toList[i]'(by simpa using h) := by
  obtain ⟨a⟩ := s
  have h' : i < a.size := h
  simp [ByteArray.get!, h']
theorem fn74 (s : ByteArray) : Fn Tryz.prog 74 [pS s] (.pv (pB (partB s))) [] := by
  refine Run74 [] (by simp) ?_
  simp only [go_sem, Nat.reduceEqDiff, reduceCtorEq, and_self, M74]
  refine run_loop (T := Nat × List (Nat × AV)) (fun t => ⟨[(0, .pv (pS s)), (3, .fn 103 []), (7, .it 7)] ++ t.2, [(7, .sit s t.1)]⟩) (fun t => t.1 ≤ s.size ∧ ∀ j (h : j < s.data.toList.length), j < t.1 → okR s.data.toList[j].toNat = true) (fun t => s.size - t.1) ⟨0, []⟩ rfl ⟨Nat.zero_le _, fun j _ h => absurd h (by omega)⟩ ?_
  rintro ⟨i, ex⟩ ⟨hi, hq⟩
  simp only at hi hq
  have hsz : s.data.toList.length = s.size := by simp
  by_cases hlt : i < s.size
  · have hg := get_list hlt
    have hmem : s.data.toList[i]'(by omega) ∈ s.data.toList := List.getElem_mem _
    have no : okR (s.get! i).toNat = false → partB s = false := fun h => by
      unfold partB
      rw [Bool.and_eq_false_iff, List.all_eq_false]
      right
      exact ⟨_, hmem, by rw [← hg, h]; simp⟩
    by_cases hb : (s.get! i).toNat < 128
    · simp only [go_sem, Nat.reduceEqDiff, Nat.reduceAdd, Nat.reduceLT, reduceCtorEq, and_self, B74_0, hlt, decode_small hb]
      refine runR_callf (by simp only [go_sem, Nat.reduceEqDiff, reduceCtorEq, and_self]) (by simp only [go_sem, Nat.reduceEqDiff, reduceCtorEq] <;> rfl) (fn103 (((s.get! i).toNat : Nat) : Int)) ⟨rfl, trivial⟩ trivial ?_
      simp only [go_sem, Nat.reduceEqDiff, reduceCtorEq, and_self]
      refine ⟨fun h => ?_, fun h => ⟨⟨i + 1, [(14, .pv (pB false))]⟩, by rw [h]; rfl, ⟨hlt, fun j hj hji => ?_⟩, by simp only; omega⟩⟩
      · rw [no h]
      · by_cases hji2 : j = i
        · subst hji2; rw [← hg]; exact h
        · exact hq j hj (by simp only at hji; omega)
    · have hbig := decode_big (s := s) (i := i) (by omega)
      have h1 : okR (s.get! i).toNat = false := by simp [okR]; omega
      have h2 : okR (((Utf8.decode s i).1 : Nat) : Int) = false := by simp [okR]; omega
      simp only [go_sem, Nat.reduceEqDiff, Nat.reduceAdd, Nat.reduceLT, reduceCtorEq, and_self, B74_0, hlt]
      refine runR_callf (by simp only [go_sem, Nat.reduceEqDiff, reduceCtorEq, and_self]) (by simp only [go_sem, Nat.reduceEqDiff, reduceCtorEq] <;> rfl) (fn103 (((Utf8.decode s i).1 : Nat) : Int)) ⟨rfl, trivial⟩ trivial ?_
      simp only [go_sem, Nat.reduceEqDiff, reduceCtorEq, and_self, h2]
      rw [no h1]
  · simp only [go_sem, Nat.reduceEqDiff, Nat.reduceAdd, Nat.reduceLT, reduceCtorEq, and_self, B74_0, R74_0, hlt]
    have : s.data.toList.all (fun b => okR b.toNat) = true := List.all_eq_true.2 fun b hb => by
      obtain ⟨j, hj, rfl⟩ := List.mem_iff_getElem.1 hb
      exact hq j hj (by omega)
    unfold partB
    rw [this]
    simp
theorem fn73 (s : ByteArray) : Fn Tryz.prog 73 [pS s] (.pv (pB (globP s))) [] := by
  refine Run73 [] (by simp) ?_
  simp only [go_sem, Nat.reduceEqDiff, reduceCtorEq, and_self, M73]
  refine runR_callgf (by simp only [go_sem, Nat.reduceEqDiff, reduceCtorEq]) (by simp only [go_sem, Nat.reduceEqDiff, reduceCtorEq]) (by simp only [go_sem, Nat.reduceEqDiff, reduceCtorEq] <;> rfl) (fun _ => fn74 s) rfl ?_
  simp only [go_sem, Nat.reduceEqDiff, reduceCtorEq, and_self]
  unfold globP
  by_cases h1 : s = sAny <;> by_cases h2 : s = sAll <;> simp [h1, h2]
theorem fn72 (g : Nat) (may : ByteArray → Bool) (hg : ∀ u, Fn Tryz.prog g [pS u] (.pv (pB (may u))) []) (s : ByteArray) : Fn Tryz.prog 72 [pS s, .fn g []] (.pv (pB (nameB may s))) [] := by
  have e : nameB may s = (decide (s.size ≤ 40) && allN may 8 s) := by unfold nameB; rw [allN_cut]
  rw [e]
  refine Run72 [] (by simp) ?_
  simp only [go_sem, Nat.reduceEqDiff, reduceCtorEq, and_self, M72]
  refine ⟨fun h => ?_, fun h => ?_⟩
  · simp [show ¬ s.size ≤ 40 by omega]
  · have h40 : s.size ≤ 40 := by omega
    simp only [h40, decide_true, Bool.true_and]
    obtain ⟨R, hR⟩ : ∃ R, allN may 8 s = R := ⟨_, rfl⟩
    rw [hR]
    refine run_loop (T := Nat × ByteArray × List (Nat × AV)) (fun t => ⟨[(0, .pv (pS t.2.1)), (1, .pv (.fn g [])), (11, .pv (pI t.1))] ++ t.2.2, []⟩) (fun t => t.1 ≤ 8 ∧ t.2.1.size ≤ 40 ∧ allN may (8 - t.1) t.2.1 = R) (fun t => 8 - t.1) ⟨0, s, []⟩ rfl ⟨Nat.zero_le _, h40, hR⟩ ?_
    rintro ⟨i, u, ex⟩ ⟨hi, hu, hq⟩
    simp only at hi hu hq
    by_cases hlt : i < 8
    · obtain ⟨n, hn⟩ : ∃ n, 8 - i = n + 1 := ⟨7 - i, by omega⟩
      have hn2 : 8 - (i + 1) = n := by omega
      rw [hn] at hq
      simp only [allN] at hq
      have hca := cutA_size u
      simp only [go_sem, Nat.reduceEqDiff, reduceCtorEq, and_self, B72_0, show (i : Int) < 8 by omega]
      refine runR_callf (by simp only [go_sem, Nat.reduceEqDiff, reduceCtorEq, and_self]) (by simp only [go_sem, Nat.reduceEqDiff, reduceCtorEq] <;> rfl) (fn102 u (by omega)) ⟨rfl, trivial⟩ trivial ?_
      simp only [go_sem, Nat.reduceEqDiff, Nat.reduceAdd, Nat.reduceLT, reduceCtorEq, and_self]
      refine runR_callf (by simp only [go_sem, Nat.reduceEqDiff, and_self]) (by simp only [go_sem, Nat.reduceEqDiff] <;> rfl) (hg (cutB u)) ⟨rfl, trivial⟩ trivial ?_
      simp only [go_sem, Nat.reduceEqDiff, reduceCtorEq, Int.reduceNeg, and_self]
      refine ⟨fun h => ?_, fun h => ⟨fun hd => ?_, fun hd => ⟨⟨by omega, by omega⟩, ⟨i + 1, cutA u, []⟩, rfl, ⟨by simp only; omega, by simp only; omega, ?_⟩, by simp only; omega⟩⟩⟩
      · rw [← hq, h]; rfl
      · rw [← hq, h]; simp [hd]
      · simp only [hn2]
        rw [← hq, h]; simp [hd]
    · simp only [go_sem, Nat.reduceEqDiff, reduceCtorEq, and_self, B72_0, R72_0, show ¬ (i : Int) < 8 by omega]
      rw [show 8 - i = 0 by omega] at hq
      simpa [allN] using hq
theorem fn39 (s : ByteArray) : Fn Tryz.prog 39 [pS s] (.pv (pB (globB s))) [] := by
  refine Run39 [] (by simp) ?_
  simp only [go_sem, reduceCtorEq, and_self, M39]
  refine runR_callf (by simp only [go_sem, reduceCtorEq, and_self]) (by simp only [go_sem, reduceCtorEq] <;> rfl) (fn72 73 globP fn73 s) ⟨rfl, trivial⟩ trivial ?_
  simp only [go_sem, Nat.reduceEqDiff, reduceCtorEq, and_self]
  rfl
theorem fn41 (s : ByteArray) (hs : s.size ≤ 1000) : Fn Tryz.prog 41 [pS s] (.pv (ss (partsB s))) [] := by
  refine Run41 [] (by simp) ?_
  simp only [go_sem, reduceCtorEq, and_self, M41]
  refine runR_callf (by simp only [go_sem, reduceCtorEq, and_self]) (by simp only [go_sem, reduceCtorEq] <;> rfl) (fn39 s) ⟨rfl, trivial⟩ trivial ?_
  simp only [go_sem, Nat.reduceEqDiff, reduceCtorEq, and_self]
  unfold partsB
  refine ⟨fun h => by rw [if_neg (by rw [h]; simp)]; rfl, fun h => ?_⟩
  rw [if_pos h]
  refine runR_call (by simp only [go_sem, Nat.reduceEqDiff, reduceCtorEq, and_self]) rfl (fn63 s hs) (.inl rfl) trivial ?_
  simp only [go_sem, Nat.reduceEqDiff, reduceCtorEq, and_self]
/-! ## the document's -/


theorem fn50 (a b : List ByteArray) (ha : a.length < 100000) (hb : b.length < 100000) : Fn Tryz.prog 50 [ss a, ss b] (.pv (pB (decide (a = b)))) [] := by
  refine Run50 [] (by simp) ?_
  simp only [go_sem, Nat.reduceEqDiff, reduceCtorEq, and_self, M50]
  refine ⟨fun h => ?_, fun h => ?_⟩
  · have : a ≠ b := fun e => h (by rw [e])
    simp [this]
  · have hlm : b.length = a.length := by omega
    refine run_loop (T := Nat) (fun i => ⟨[(0, .pv (ss a)), (1, .pv (ss b)), (5, .pv (pI i))], []⟩) (fun i => i ≤ a.length ∧ a.take i = b.take i) (fun i => a.length - i) 0 rfl ⟨Nat.zero_le _, rfl⟩ ?_
    intro i ⟨hi, hq⟩
    by_cases hlt : i < a.length
    · have hlt2 : i < b.length := by omega
      simp only [go_sem, Nat.reduceEqDiff, reduceCtorEq, Int.reduceNeg, and_self, B50_0, wf_ss, getD_map hlt, getD_map hlt2, show (i : Int) < (a.length : Int) by omega, show (i : Int) < (b.length : Int) by omega]
      refine ⟨fun hd => ?_, fun hd => ⟨⟨by omega, by omega⟩, i + 1, rfl, ⟨hlt, ?_⟩, by omega⟩⟩
      · have : a ≠ b := fun e => by subst e; simp at hd
        simp [this]
      · rw [take_snoc hlt, take_snoc hlt2, hq, hd]
    · simp only [go_sem, Nat.reduceEqDiff, reduceCtorEq, Int.reduceNeg, and_self, B50_0, R50_0, show ¬ (i : Int) < (a.length : Int) by omega]
      have hie : i = a.length := by omega
      subst hie
      rw [List.take_length, ← hlm, List.take_length] at hq
      simp [hq]
def fewS (s : ByteArray) : ByteArray := if 60 < s.size then s.extract 0 60 else s
theorem fewS_size (s : ByteArray) : (fewS s).size ≤ 60 := by
  unfold fewS; split
  · rw [ByteArray.size_extract]; omega
  · omega
theorem fn17 (s : ByteArray) : Fn Tryz.prog 17 [pS s] (.pv (pS (fewS s))) [] := by
  refine Run17 [] (by simp) ?_
  simp only [go_sem, Nat.reduceEqDiff, reduceCtorEq, Int.reduceToNat, Int.reduceLE, and_self, M17]
  unfold fewS
  refine ⟨fun h => ⟨by omega, ?_⟩, fun h => ?_⟩
  · rw [if_pos (by omega)]
  · rw [if_neg (by omega)]
end Go.Vc
