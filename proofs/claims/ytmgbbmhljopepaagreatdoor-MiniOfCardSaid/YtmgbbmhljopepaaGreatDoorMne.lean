/- A part of the proofs of the seat YtmgbbmhljopepaaGreatDoor: the contracts of functions, each proved out of its code. -/
import Derived.Test.YtmgbbmhljopepaaGreatDoorVh
import Derived.Test.YtmgbbmhljopepaaGreatDoorProg
import Derived.Test.YtmgbbmhljopepaaGreatDoorMnd
import Derived.Test.YtmgbbmhljopepaaGreatDoorVf
import Derived.Test.YtmgbbmhljopepaaGreatDoorRows
import Derived.LaidHandle
import Derived.MakeChecks
namespace Go.Vc
open Go.Proofs
set_option maxRecDepth 100000

/-- 'trystlaw08.MiniOf' -/
def M5 : MC := (.seq (.reg [⟨(some 4), none, (.q (.mv (.c (.bool false))))⟩] [] [0, 1] []) (.seq (.reg [⟨(some 12), none, (.q (.mv (.t 0)))⟩, ⟨(some 13), none, (.call (.f 21) [(.t 12)])⟩, ⟨(some 5),
  none, (.q (.mv (.t 13)))⟩] [] [1, 5] [1013]) (.seq (.seq (.reg [⟨(some 14), none, (.q (.mv (.t 5)))⟩, ⟨(some 15), none, (.q (.len (.t 14) false))⟩, ⟨(some 16), none, (.q (.bin .gtr (.t 15)
  (.c (.int .i64 6))))⟩, ⟨(some 17), none, (.q (.mv (.t 16)))⟩, ⟨(some 18), (some (17, true)), (.q (.mv (.t 5)))⟩, ⟨(some 19), (some (17, true)), (.q (.len (.t 18) false))⟩, ⟨(some 20), (some (17,
  true)), (.q (.bin .lss (.t 19) (.c (.int .i64 21))))⟩, ⟨(some 21), none, (.q (.pick (.t 17) (.t 20) (.c (.bool false))))⟩] [] [1, 5, 21] [1013]) (.cond (.t 21) (.reg [⟨(some 22), none,
  (.q (.mv (.t 5)))⟩, ⟨(some 23), none, (.q (.slc (.t 22) none (some (.c (.int .i64 6))) 1 false))⟩, ⟨(some 5), none, (.q (.mv (.t 23)))⟩] [] [1, 5] [1013]) .skip)) (.seq (.seq (.reg [⟨(some 24),
  none, (.q (.mv (.t 1)))⟩, ⟨(some 25), none, (.q (.bin .gtr (.t 24) (.c (.int .i64 200))))⟩] [] [1, 5, 25] [1013]) (.cond (.t 25) (.reg [⟨(some 1), none, (.q (.mv (.c (.int .i64 200))))⟩] [] [1,
  5] [1013]) .skip)) (.seq (.reg [⟨(some 27), none, (.q (.mv (.t 5)))⟩, ⟨(some 28), none, (.q (.mv (.t 1)))⟩, ⟨(some 29), none, (.call (.f 19) [(.t 27), (.t 28)])⟩, ⟨(some 26), none,
  (.q (.mv (.t 29)))⟩, ⟨(some 30), none, (.q (.ext (.t 26) 0))⟩, ⟨(some 31), none, (.q (.ext (.t 26) 1))⟩, ⟨(some 6), none, (.alloc [.e0, .e0, .e0])⟩, ⟨none, none, (.st (.t 6) (.t 30) 3)⟩, ⟨(some 7),
  none, (.q (.mv (.t 31)))⟩] [] [1, 5, 6, 7] [6, 1013, 1029]) (.seq (.reg [⟨(some 33), none, (.q (.mv (.t 5)))⟩, ⟨(some 34), none, (.q (.mv (.t 1)))⟩, ⟨(some 35), none, (.call (.f 9) [(.t 33),
  (.t 34)])⟩, ⟨(some 32), none, (.q (.mv (.t 35)))⟩, ⟨(some 36), none, (.q (.ext (.t 32) 0))⟩, ⟨(some 37), none, (.q (.ext (.t 32) 1))⟩, ⟨(some 8), none, (.alloc [.e0, .e0, .e0])⟩, ⟨none, none,
  (.st (.t 8) (.t 36) 3)⟩, ⟨(some 9), none, (.q (.mv (.t 37)))⟩] [] [6, 7, 8, 9] [6, 8, 1029, 1035]) (.seq (.seq (.reg [⟨(some 38), none, (.q (.mv (.t 9)))⟩, ⟨(some 39), none, (.q (.bin .neq (.t 38)
  (.c (.int .i64 0))))⟩] [] [6, 7, 8, 9, 39] [6, 8, 1029, 1035]) (.cond (.t 39) (.seq (.reg [⟨(some 40), none, (.q (.mv (.t 7)))⟩, ⟨(some 41), none, (.q (.mv (.t 9)))⟩, ⟨(some 42), none,
  (.q (.bin .eql (.t 40) (.t 41)))⟩, ⟨(some 43), none, (.q (.mv (.t 42)))⟩, ⟨(some 44), (some (43, true)), (.q (.fa (.t 6) 1))⟩, ⟨(some 45), (some (43, true)), (.q (.ld (.t 44) 1 false))⟩, ⟨(some 46),
  (some (43, true)), (.q (.len (.t 45) false))⟩, ⟨(some 47), (some (43, true)), (.q (.bin .eql (.t 46) (.c (.int .i64 0))))⟩, ⟨(some 48), none, (.q (.pick (.t 43) (.t 47) (.c (.bool false))))⟩,
  ⟨(some 49), none, (.q (.mv (.t 48)))⟩, ⟨(some 50), (some (49, true)), (.call (.f 20) [])⟩, ⟨(some 51), none, (.q (.pick (.t 49) (.t 50) (.c (.bool false))))⟩, ⟨(some 4), none,
  (.q (.mv (.t 51)))⟩] [] [4] [1029, 1035, 1050, 1054, 1066, 1070, 1073]) .ret) .skip)) (.seq (.reg [⟨(some 53), none, (.q (.ld (.t 8) 3 true))⟩, ⟨(some 54), none, (.call (.f 22) [(.t 53)])⟩,
  ⟨(some 52), none, (.q (.mv (.t 54)))⟩, ⟨(some 55), none, (.q (.ext (.t 52) 0))⟩, ⟨(some 56), none, (.q (.ext (.t 52) 1))⟩, ⟨(some 10), none, (.alloc [.e0, .e0, .e0])⟩, ⟨none, none, (.st (.t 10)
  (.t 55) 3)⟩, ⟨(some 11), none, (.q (.mv (.t 56)))⟩] [] [6, 7, 8, 10, 11] [6, 8, 10, 1029, 1035, 1054]) (.seq (.reg [⟨(some 57), none, (.q (.mv (.t 7)))⟩, ⟨(some 58), none, (.q (.bin .eql (.t 57)
  (.c (.int .i64 0))))⟩, ⟨(some 59), none, (.q (.mv (.t 58)))⟩, ⟨(some 60), (some (59, true)), (.q (.mv (.t 11)))⟩, ⟨(some 61), (some (59, true)), (.q (.bin .eql (.t 60) (.c (.int .i64 0))))⟩,
  ⟨(some 62), none, (.q (.pick (.t 59) (.t 61) (.c (.bool false))))⟩, ⟨(some 63), none, (.q (.mv (.t 62)))⟩, ⟨(some 64), (some (63, true)), (.q (.ld (.t 6) 3 true))⟩, ⟨(some 65), (some (63, true)),
  (.q (.ld (.t 10) 3 true))⟩, ⟨(some 66), (some (63, true)), (.call (.f 15) [(.t 64), (.t 65)])⟩, ⟨(some 67), none, (.q (.pick (.t 63) (.t 66) (.c (.bool false))))⟩, ⟨(some 68), none,
  (.q (.mv (.t 67)))⟩, ⟨(some 69), (some (68, true)), (.q (.ld (.t 8) 3 true))⟩, ⟨(some 70), (some (68, true)), (.call (.f 23) [(.t 69)])⟩, ⟨(some 71), none, (.q (.pick (.t 68) (.t 70)
  (.c (.bool false))))⟩, ⟨(some 72), none, (.q (.mv (.t 71)))⟩, ⟨(some 73), (some (72, true)), (.call (.f 20) [])⟩, ⟨(some 74), none, (.q (.pick (.t 72) (.t 73) (.c (.bool false))))⟩, ⟨(some 4), none,
  (.q (.mv (.t 74)))⟩] [] [4] [1029, 1035, 1050, 1054, 1066, 1070, 1073]) .ret)))))))))
theorem mc5 : ofCode Tryz.prog [] Tryz.f5.ntmps [(0, ⟨[0, 1], [], [], 0, [], none⟩),
    (1, ⟨[1, 5], [1013], [], 0, [], none⟩),
    (2, ⟨[1, 5, 21], [1013], [], 0, [], none⟩),
    (3, ⟨[1, 5], [1013], [], 0, [], none⟩),
    (4, ⟨[1, 5, 25], [1013], [], 0, [], none⟩),
    (5, ⟨[1, 5], [1013], [], 0, [], none⟩),
    (6, ⟨[1, 5, 6, 7], [6, 1013, 1029], [], 0, [], none⟩),
    (7, ⟨[6, 7, 8, 9], [6, 8, 1029, 1035], [], 0, [], none⟩),
    (8, ⟨[6, 7, 8, 9, 39], [6, 8, 1029, 1035], [], 0, [], none⟩),
    (9, ⟨[4], [1029, 1035, 1050, 1054, 1066, 1070, 1073], [], 0, [], none⟩),
    (10, ⟨[6, 7, 8, 10, 11], [6, 8, 10, 1029, 1035, 1054], [], 0, [], none⟩),
    (11, ⟨[4], [1029, 1035, 1050, 1054, 1066, 1070, 1073], [], 0, [], none⟩)] (Tryz.f5.body.getD .skip) = some M5 := by kernel_rfl
theorem Run5 {args : List PV} {v : AV} {rs : List (Nat × List PV)} (ids : List Bool) (h : args.length ≤ 75) (hv : run Tryz.prog (retK [RV.tmp 4] ids v rs) M5 [] ⟨entry 0 args, []⟩) : Fn Tryz.prog 5 args v rs :=
  Fn_run ids (by kernel_rfl) Tryz.func5 (by decide) rfl mc5 (by kernel_rfl) (by rw [Tryz.ntmps5]; exact h) (by rw [Tryz.ntmps5]; decide) hv

end Go.Vc

namespace Go.Vc
open Go.Proofs
set_option linter.unusedSimpArgs false
set_option linter.unusedVariables false

/-! ## MiniOf -/
theorem endF_le {d : DI} {lv : List Bool} {cl : List Nat} {n : Nat} (h : ∀ j, (firstL d lv cl j).length ≤ n) : ∀ {f i : Nat}, i ≤ n → endF d lv cl f i ≤ n
  | 0, i, hi => hi
  | f + 1, i, hi => by
    simp only [endF]
    split
    · exact hi
    · have := h i
      exact endF_le h (by omega)
theorem leastK_le {d : DI} (hd : d.Ok) (lv : List Bool) (cl : List Nat) : leastK d lv cl ≤ d.next.length :=
  endF_le (fun j => (firstOk hd.rows hd.n0 j).len) (Nat.zero_le _)
theorem sm_least {d : DI} (hd : d.Ok) : (leastR d).Sm := by
  have hk := leastK_le hd (liveL d) (classR d (liveL d))
  have hn := hd.n
  refine small_of hd.signs ?_ ?_ ?_ ?_
  · show ((List.range _).map _).length ≤ 1000
    rw [List.length_map, List.length_range]; omega
  · show ((List.range _).map _).length ≤ 1000
    rw [List.length_map, List.length_range]; omega
  · intro l hl
    obtain ⟨j, hj, rfl⟩ := List.mem_map.1 hl
    unfold waysF
    rw [rowW_len]
    exact hd.width _
  · intro l hl
    obtain ⟨j, hj, rfl⟩ := List.mem_map.1 hl
    exact hd.ints.len _
theorem ex_dec (p : Prop) : ∃ b : Bool, p = (b = true) := by
  by_cases h : p
  · exact ⟨true, by simp [h]⟩
  · exact ⟨false, by simp [h]⟩
set_option maxHeartbeats 4000000 in
theorem law5 (bs : List ByteArray) (most : Int) (hb : bs.length ≤ 9223372036854775807) : Fn Tryz.prog 5 [ss bs, pI most] (.pv (pB true)) [] := by
  refine Run5 [] (by simp) ?_
  have r21 := fn21 bs hb
  have hl := globsS_len bs
  have hsz : ∀ b ∈ globsS bs, b.size ≤ 1000 := fun b hb => by have := globsS_size hb; omega
  generalize globsS bs = g at hl hsz r21
  obtain ⟨b1, e1⟩ := ex_dec ((6 : Int) < (g.length : Int))
  obtain ⟨b2, e2⟩ := ex_dec ((g.length : Int) < 21)
  obtain ⟨b3, e3⟩ := ex_dec ((200 : Int) < most)
  obtain ⟨gl, hgl⟩ : ∃ gl, gl = bif b1 && b2 then g.take 6 else g := ⟨_, rfl⟩
  obtain ⟨w, hw⟩ : ∃ w : Int, w = bif b3 then 200 else most := ⟨_, rfl⟩
  have hw2 : w ≤ 200 := by
    rw [hw]
    cases b3 with
    | true => simp
    | false => simp at e3 ⊢; omega
  have hgll : gl.length ≤ 21 := by
    rw [hgl]
    cases b1 && b2 with
    | true => simp; omega
    | false => exact hl
  have hgs : ∀ b ∈ gl, b.size ≤ 1000 := by
    rw [hgl]
    cases b1 && b2 with
    | true => exact fun b hb => hsz b (List.mem_of_mem_take hb)
    | false => exact hsz
  have h6 : b1 = true → 6 ≤ g.length := fun h => by rw [h] at e1; simp at e1; omega
  have r19 := fn19 gl w (by omega) hgs (by omega)
  have r9 := fn9 gl w (by omega) hgs (by omega)
  rw [pDf_toDI] at r9
  have hsm := sm_toDI (sm_of gl w (by omega))
  have r22 := fn22 _ hsm (I64_ofR gl w)
  have r23 := fn23 _ hsm
  rcases of_cases gl w with ⟨k, h⟩ | ⟨h0, h, hv⟩
  · have hmay := may_of h
    have hok := may_ok hsm (I64_ofR gl w) hmay
    have r15 := fn15t _ (sm_least hok)
    rw [hmay, if_pos rfl, if_pos rfl] at r22
    rw [hmay] at r23
    rw [h.e, if_pos rfl] at r19
    rw [h.e] at r9
    clear hok hsm hmay h hgs hgll hw2
    generalize leastR (ofR gl w).toDI = L at r22 r19 r15
    generalize (ofR gl w).toDI = d at r22 r23 r9
    subst hgl; subst hw
    simp only [go_sem, Nat.reduceEqDiff, reduceCtorEq, and_self, M5]
    refine runR_call (by simp only [go_sem, Nat.reduceEqDiff, reduceCtorEq, and_self]) rfl (r21) (.inl rfl) trivial ?_
    cases b1 <;> cases b2 <;> cases b3
    all_goals
      simp only [Bool.and_true, Bool.and_false, cond_true, cond_false, Bool.false_eq_true, eq_iff_iff, iff_false, iff_true, forall_const, false_implies] at e1 e2 e3 h6 r19 r9
      simp only [go_sem, Nat.reduceEqDiff, reduceCtorEq, Int.reduceToNat, Int.reduceLE, and_self, e1, e2, e3, wf_ss, ← List.map_take]
      try refine ⟨by omega, ?_⟩
      refine runR_call (by simp only [go_sem, Nat.reduceEqDiff, and_self]) rfl (r19) (.inl rfl) trivial ?_
      simp only [go_sem, Nat.reduceEqDiff, Nat.reduceAdd, Nat.reduceLT, and_self]
      refine runR_call (by simp only [go_sem, Nat.reduceEqDiff, and_self]) rfl (r9) (.inl rfl) trivial ?_
      simp only [go_sem, Nat.reduceEqDiff, Nat.reduceBEq, Nat.reduceAdd, Nat.reduceLeDiff, Nat.reduceLT, and_self]
      refine runR_call (by simp only [go_sem, Nat.reduceEqDiff, and_self]) rfl (r22) (.inl rfl) trivial ?_
      simp only [go_sem, Nat.reduceEqDiff, Nat.reduceBEq, Nat.reduceAdd, Nat.reduceLT, and_self]
      refine runR_callgf (by simp only [go_sem, Nat.reduceEqDiff]) (by simp only [go_sem, Nat.reduceEqDiff, and_self]) (by simp only [go_sem, Nat.reduceEqDiff] <;> rfl) (fun _ => r15) rfl ?_
      simp only [go_sem, Nat.reduceEqDiff, Nat.reduceAdd, and_self]
      refine runR_callgf (by simp only [go_sem, Nat.reduceEqDiff]) (by simp only [go_sem, Nat.reduceEqDiff, and_self]) (by simp only [go_sem, Nat.reduceEqDiff] <;> rfl) (fun _ => r23) rfl ?_
      simp only [go_sem, Nat.reduceEqDiff, and_self]
      refine runR_callgf (by simp only [go_sem, Nat.reduceEqDiff]) (by simp only [go_sem, Nat.reduceEqDiff, and_self]) (by simp only [go_sem] <;> rfl) (fun _ => fn20) rfl ?_
      simp only [go_sem, Nat.reduceEqDiff, and_self]
  · rw [if_neg h0] at r19
    clear hsm hgs hgll hw2 r22 r23 h
    have he : ¬ ofE gl w = 0 := h0
    generalize (ofR gl w).toDI = d at r9
    generalize ofE gl w = x at r19 r9 he h0 hv
    have hz : zDi.next.length = 0 := rfl
    subst hgl; subst hw
    simp only [go_sem, Nat.reduceEqDiff, reduceCtorEq, and_self, M5]
    refine runR_call (by simp only [go_sem, Nat.reduceEqDiff, reduceCtorEq, and_self]) rfl (r21) (.inl rfl) trivial ?_
    cases b1 <;> cases b2 <;> cases b3
    all_goals
      simp only [Bool.and_true, Bool.and_false, cond_true, cond_false, Bool.false_eq_true, eq_iff_iff, iff_false, iff_true, forall_const, false_implies] at e1 e2 e3 h6 r19 r9
      simp only [go_sem, Nat.reduceEqDiff, reduceCtorEq, Int.reduceToNat, Int.reduceLE, and_self, e1, e2, e3, wf_ss, ← List.map_take]
      try refine ⟨by omega, ?_⟩
      refine runR_call (by simp only [go_sem, Nat.reduceEqDiff, and_self]) rfl (r19) (.inl rfl) trivial ?_
      simp only [go_sem, Nat.reduceEqDiff, Nat.reduceAdd, Nat.reduceLT, and_self]
      refine runR_call (by simp only [go_sem, Nat.reduceEqDiff, and_self]) rfl (r9) (.inl rfl) trivial ?_
      simp only [go_sem, Nat.reduceEqDiff, Nat.reduceBEq, Nat.reduceAdd, Nat.reduceLeDiff, Nat.reduceLT, and_self, Int.cast_ofNat_Int, he, hz]
      refine runR_callgf (by simp only [go_sem, Nat.reduceEqDiff]) (by simp only [go_sem, Nat.reduceEqDiff, and_self]) (by simp only [go_sem] <;> rfl) (fun _ => fn20) rfl ?_
      simp only [go_sem, Nat.reduceEqDiff, and_self]
end Go.Vc

namespace Go.Vc
open Go.Proofs Go.Proofs.YtmgbbmhljopepaaGreatDoor
set_option maxRecDepth 100000
theorem strs_of {p : PV} (h : ArgOk (false, [.lst false [.str]]) p) : ∃ l : List ByteArray, p = ss l ∧ l.length ≤ 9223372036854775807 := by
  have h1 := OkShs_one h
  simp only [OkSh] at h1
  obtain ⟨xs, rfl, hl, hx⟩ := h1
  obtain ⟨l, rfl⟩ := map_of (f := fun b : ByteArray => pS b) (fun x hx' => by
    have := (hx x hx').2 trivial
    simp only [OkShs, OkSh] at this
    obtain ⟨_, _, e, ⟨n, rfl, _⟩, rfl⟩ := this
    injection e with e1 _
    exact ⟨n, e1⟩)
  exact ⟨l, rfl, by simpa [maxLen] using hl⟩
theorem i64_of {p : PV} (h : ArgOk (false, [.int .i64]) p) : ∃ n : Int, p = pI n := by
  obtain ⟨n, rfl, _⟩ := int_of h
  exact ⟨n, rfl⟩
abbrev laidL : List (String × DataW Unit) := [("math/bits.deBruijn32tab", Rows.laid_math_bits_deBruijn32tab), ("math/bits.deBruijn64tab", Rows.laid_math_bits_deBruijn64tab), ("internal/strconv.uint64pow10", Rows.laid_internal_strconv_uint64pow10), ("unicode/utf8.acceptRanges", Rows.laid_unicode_utf8_acceptRanges), ("unicode/utf8.first", Rows.laid_unicode_utf8_first)]
theorem tab_lt {P : Program} {w : World} {name : String} {k : IntKind} {zs : List Int} {g : Nat} (h : Lib.TabIs P w name k zs) (hg : P.globalNamed name = some g) : g < w.heap.size := by
  unfold Lib.TabIs World.var? at h
  rw [hg] at h
  simp only [Option.bind_some] at h
  rcases Nat.lt_or_ge g w.heap.size with h1 | h1
  · exact h1
  · rw [Array.getElem?_eq_none h1] at h; cases h
theorem laidL_tab : (Rows.laid_math_bits_deBruijn64tab : DataW Unit) = Lib.tabData .u8 (Lib.deBruijn64tab.map fun n : Nat => (n : Int)) := by kernel_rfl
theorem laidL_pow : (Rows.laid_internal_strconv_uint64pow10 : DataW Unit) = Lib.tabData .u64 Lib.pow10Tab := by kernel_rfl
theorem laid_sub {P : Program} {w : World} {a : String × DataW Unit} {l : List (String × DataW Unit)} (h : laidMet P (a :: l) w) : laidMet P l w := by
  obtain ⟨ps, ⟨g, t, cs, fuel, p, q, _, _, _, _, hq, rfl⟩, hn, ha⟩ := h
  exact ⟨q, hq, (List.nodup_append.1 hn).2.1, fun b off hm => ha b off (List.mem_append.2 (.inr hm))⟩
theorem tabsTryz (w : World) (h : laidMetH Tryz.prog laidL w) : Tabs Tryz.prog w (fun _ => False) := fun t ht g hg => by
  rw [Go.MakeChecks.laidMetH_plain _ _ _ (by kernel_rfl)] at h
  simp only [tabList, List.mem_cons, List.not_mem_nil, or_false] at ht
  rcases ht with rfl | rfl
  · have hgn : Tryz.prog.globalNamed "math/bits.deBruijn64tab" = some 0 := by kernel_rfl
    have hT : Lib.TabIs Tryz.prog w "math/bits.deBruijn64tab" .u8 (Lib.deBruijn64tab.map fun n : Nat => (n : Int)) := by
      unfold laidL at h
      rw [laidL_tab] at h
      exact Lib.tabIs_of_head (t := 143) (e := 5) (n := 64) hgn (by kernel_rfl) (by kernel_rfl) (by kernel_rfl) (by kernel_rfl) (by kernel_rfl) (laid_sub h)
    exact ⟨fun h => h, tab_lt hT hg, hT⟩
  · have hgn : Tryz.prog.globalNamed "internal/strconv.uint64pow10" = some 1 := by kernel_rfl
    have hT : Lib.TabIs Tryz.prog w "internal/strconv.uint64pow10" .u64 Lib.pow10Tab := by
      unfold laidL at h
      rw [laidL_pow] at h
      exact Lib.tabIs_of_head (t := 190) (e := 56) (n := 20) hgn (by kernel_rfl) (by kernel_rfl) (by kernel_rfl) (by kernel_rfl) (by kernel_rfl) (laid_sub (laid_sub h))
    exact ⟨fun h => h, tab_lt hT hg, hT⟩
theorem ownTryz : ownKnob Tryz.prog.godebug = none := by kernel_rfl
theorem laidOutTryz : laidOutB Tryz.prog = true := by kernel_rfl
/-- a world in which the listed tables lie -/
noncomputable def laidWorld (os : Os) : World := layAt (layAt (layAt (layAt (layAt (World.holding Tryz.prog os ⟨#[], #[], []⟩) 0 (litsOf (Rows.laid_math_bits_deBruijn64tab : DataW Unit))) 1 (litsOf (Rows.laid_internal_strconv_uint64pow10 : DataW Unit))) 3 (litsOf Rows.laid_unicode_utf8_first)) 4 (litsOf (Rows.laid_unicode_utf8_acceptRanges : DataW Unit))) 5 (litsOf (Rows.laid_math_bits_deBruijn32tab : DataW Unit))
theorem laid_met (os : Os) (args : Array Value) : laidMetH Tryz.prog laidL ((laidWorld os).forCall (fun _ _ => 0) ⟨#[], args, []⟩).memory := by
  have h : laidMet Tryz.prog laidL ((laidWorld os).forCall (fun _ _ => 0) ⟨#[], args, []⟩).memory := laidMet_of_run3 8 (by kernel_rfl) (by kernel_rfl) (by kernel_rfl)
  exact laidMetH_of_parts h (by kernel_rfl)
end Go.Vc
