/- A part of the proofs of the seat Ytjlmnegbgmpekaa: the contracts of functions, each proved out of its code. -/
import Derived.Test.YtjlmnegbgmpekaaVh
import Derived.Test.YtjlmnegbgmpekaaProg
import Derived.Test.YtjlmnegbgmpekaaWn
import Derived.Test.YtjlmnegbgmpekaaWe
namespace Go.Vc
open Go.Proofs
set_option maxRecDepth 100000

/-- 'trystlaw13.DedupOnce' -/
def B8_0 : MC := (.seq (.seq (.reg [⟨(some 15), none, (.q (.mv (.t 7)))⟩, ⟨(some 16), none, (.q (.mv (.t 0)))⟩, ⟨(some 17), none, (.q (.len (.t 16) false))⟩, ⟨(some 18), none, (.q (.bin .lss (.t 15)
  (.t 17)))⟩, ⟨(some 19), none, (.q (.mv (.t 18)))⟩, ⟨(some 20), (some (19, true)), (.q (.mv (.t 7)))⟩, ⟨(some 21), (some (19, true)), (.q (.mv (.t 1)))⟩, ⟨(some 22), (some (19, true)),
  (.q (.len (.t 21) false))⟩, ⟨(some 23), (some (19, true)), (.q (.bin .lss (.t 20) (.t 22)))⟩, ⟨(some 24), none, (.q (.pick (.t 19) (.t 23) (.c (.bool false))))⟩, ⟨(some 25), none,
  (.q (.mv (.t 24)))⟩, ⟨(some 26), (some (25, true)), (.q (.mv (.t 7)))⟩, ⟨(some 27), (some (25, true)), (.q (.bin .lss (.t 26) (.c (.int .i64 80))))⟩, ⟨(some 28), none, (.q (.pick (.t 25) (.t 27)
  (.c (.bool false))))⟩] [] [0, 1, 5, 6, 7, 28] [14, 1067]) (.cond (.t 28) .skip (.exit 0))) (.seq (.block 1 (.seq (.reg [⟨(some 31), none, (.q (.mv (.t 0)))⟩, ⟨(some 32), none, (.q (.mv (.t 7)))⟩,
  ⟨(some 33), none, (.q (.ia (.t 31) (.t 32) 1))⟩, ⟨(some 34), none, (.q (.ld (.t 33) 1 false))⟩, ⟨(some 35), none, (.q (.bin .rem (.t 34) (.c (.int .u8 4))))⟩, ⟨(some 36), none,
  (.q (.bin .add (.c (.int .u8 97)) (.t 35)))⟩, ⟨(some 37), none, (.lits [(.t 36)] 1)⟩, ⟨(some 38), none, (.q (.sob (.t 37)))⟩, ⟨(some 8), none, (.q (.mv (.t 38)))⟩] [] [0, 1, 5, 6, 7, 8] [14, 1067])
  (.seq (.reg [⟨(some 39), none, (.q (.mv (.t 1)))⟩, ⟨(some 40), none, (.q (.mv (.t 7)))⟩, ⟨(some 41), none, (.q (.ia (.t 39) (.t 40) 1))⟩, ⟨(some 42), none, (.q (.ld (.t 41) 1 false))⟩, ⟨(some 43),
  none, (.q (.bin .rem (.t 42) (.c (.int .u8 12))))⟩, ⟨(some 44), none, (.q (.conv .u64 (.t 43)))⟩, ⟨(some 9), none, (.q (.mv (.t 44)))⟩] [] [0, 1, 5, 6, 7, 8, 9] [14, 1067]) (.seq (.reg [⟨(some 46),
  none, (.q (.mv (.t 5)))⟩, ⟨(some 47), none, (.q (.mv (.t 8)))⟩, ⟨(some 48), none, (.q (.mv (.t 9)))⟩, ⟨(some 49), none, (.call (.f 36) [(.t 46), (.t 47), (.t 48)])⟩, ⟨(some 45), none,
  (.q (.mv (.t 49)))⟩, ⟨(some 50), none, (.q (.ext (.t 45) 0))⟩, ⟨(some 51), none, (.q (.ext (.t 45) 1))⟩, ⟨(some 10), none, (.q (.mv (.t 50)))⟩, ⟨(some 11), none, (.q (.mv (.t 51)))⟩] [] [0, 1, 5, 6,
  7, 8, 9, 10, 11] [14, 1049, 1067]) (.seq (.reg [⟨(some 53), none, (.q (.mv (.t 5)))⟩, ⟨(some 54), none, (.q (.mv (.t 8)))⟩, ⟨(some 55), none, (.q (.mv (.t 9)))⟩, ⟨(some 56), none,
  (.q (.mv (.t 0)))⟩, ⟨(some 57), none, (.q (.mv (.t 7)))⟩, ⟨(some 58), none, (.q (.ia (.t 56) (.t 57) 1))⟩, ⟨(some 59), none, (.q (.ld (.t 58) 1 false))⟩, ⟨(some 60), none, (.q (.bin .rem (.t 59)
  (.c (.int .u8 4))))⟩, ⟨(some 61), none, (.q (.conv .i64 (.t 60)))⟩, ⟨(some 62), none, (.q (.bin .mul (.c (.int .i64 100)) (.t 61)))⟩, ⟨(some 63), none, (.q (.mv (.t 9)))⟩, ⟨(some 64), none,
  (.q (.conv .i64 (.t 63)))⟩, ⟨(some 65), none, (.q (.bin .add (.t 62) (.t 64)))⟩, ⟨(some 66), none, (.q (.mk [(.pv (.sc (.string ⟨#[]⟩))), (.pv (.sc (.int .u64 0))), (.pv (.sc (.int .i64 0)))] [(0,
  1, (.t 54)), (1, 1, (.t 55)), (2, 1, (.t 65))]))⟩, ⟨(some 67), none, (.call (.f 38) [(.t 53), (.t 66)])⟩, ⟨(some 52), none, (.q (.mv (.t 67)))⟩, ⟨(some 68), none, (.q (.ext (.t 52) 0))⟩, ⟨(some 69),
  none, (.q (.ext (.t 52) 1))⟩, ⟨(some 12), none, (.q (.mv (.t 68)))⟩, ⟨(some 13), none, (.q (.mv (.t 69)))⟩] [] [0, 1, 5, 6, 7, 8, 9, 10, 11, 12, 13] [14, 1049, 1067])
  (.block 2 (.seq (.reg [⟨(some 77), none, (.q (.mv (.t 9)))⟩, ⟨(some 78), none, (.q (.bin .eql (.t 77) (.c (.int .u64 0))))⟩, ⟨(some 76), none, (.q (.mv (.t 78)))⟩] [] [0, 1, 5, 6, 7, 8, 9, 10, 11,
  12, 13, 76] [14, 1049, 1067]) (.cond (.t 76) (.seq (.reg [⟨(some 79), none, (.q (.mv (.t 11)))⟩, ⟨(some 80), none, (.q (.bin .neq (.t 79) (.c (.int .i64 1))))⟩, ⟨(some 81), none,
  (.q (.mv (.t 80)))⟩, ⟨(some 82), (some (81, false)), (.q (.mv (.t 13)))⟩, ⟨(some 83), (some (81, false)), (.q (.bin .neq (.t 82) (.c (.int .i64 1))))⟩, ⟨(some 84), none, (.q (.pick (.t 81)
  (.c (.bool true)) (.t 83)))⟩] [] [0, 1, 5, 6, 7, 84] [14, 1049, 1067]) (.cond (.t 84) (.seq (.reg [⟨(some 4), none, (.q (.mv (.c (.bool false))))⟩] [] [4] [1151]) .ret) .skip))
  (.seq (.reg [⟨(some 86), none, (.q (.mv (.t 9)))⟩, ⟨(some 87), none, (.q (.mv (.t 6)))⟩, ⟨(some 88), none, (.q (.mv (.t 8)))⟩, ⟨(some 89), none, (.q (.mget (.t 87) (.t 88)
  false Kk.str (.pv (.sc (.int .u64 0)))))⟩, ⟨(some 90), none, (.q (.bin .add (.t 89) (.c (.int .u64 1))))⟩, ⟨(some 91), none, (.q (.bin .eql (.t 86) (.t 90)))⟩, ⟨(some 85), none,
  (.q (.mv (.t 91)))⟩] [] [0, 1, 5, 6, 7, 8, 9, 10, 11, 12, 13, 85] [14, 1049, 1067]) (.cond (.t 85) (.seq (.seq (.reg [⟨(some 92), none, (.q (.mv (.t 11)))⟩, ⟨(some 93), none, (.q (.bin .neq (.t 92)
  (.c (.int .i64 0))))⟩, ⟨(some 94), none, (.q (.mv (.t 93)))⟩, ⟨(some 95), (some (94, false)), (.q (.mv (.t 13)))⟩, ⟨(some 96), (some (94, false)), (.q (.bin .neq (.t 95) (.c (.int .i64 0))))⟩,
  ⟨(some 97), none, (.q (.pick (.t 94) (.c (.bool true)) (.t 96)))⟩, ⟨(some 98), none, (.q (.mv (.t 97)))⟩, ⟨(some 99), (some (98, false)), (.q (.mv (.t 12)))⟩, ⟨(some 100), (some (98, false)),
  (.call (.f 43) [(.t 99)])⟩, ⟨(some 101), (some (98, false)), (.q (.bin .neq (.t 100) (.c (.int .i64 0))))⟩, ⟨(some 102), none, (.q (.pick (.t 98) (.c (.bool true)) (.t 101)))⟩] [] [0, 1, 6, 7, 8, 9,
  12, 102] [14, 1049, 1067, 1100]) (.cond (.t 102) (.seq (.reg [⟨(some 4), none, (.q (.mv (.c (.bool false))))⟩] [] [4] [1151]) .ret) .skip)) (.seq (.reg [⟨(some 103), none, (.q (.mv (.t 6)))⟩,
  ⟨(some 104), none, (.q (.mv (.t 8)))⟩, ⟨(some 105), none, (.q (.mv (.t 9)))⟩, ⟨none, none, (.mset (.t 103) (.t 104) (.t 105) Kk.str)⟩] [] [0, 1, 6, 7, 12] [14, 1067]) (.reg [⟨(some 106), none,
  (.q (.mv (.t 12)))⟩, ⟨(some 5), none, (.q (.mv (.t 106)))⟩] [] [0, 1, 5, 6, 7] [14, 1067]))) (.seq (.reg [⟨(some 108), none, (.q (.mv (.t 9)))⟩, ⟨(some 109), none, (.q (.mv (.t 6)))⟩, ⟨(some 110),
  none, (.q (.mv (.t 8)))⟩, ⟨(some 111), none, (.q (.mget (.t 109) (.t 110) false Kk.str (.pv (.sc (.int .u64 0)))))⟩, ⟨(some 112), none, (.q (.bin .eql (.t 108) (.t 111)))⟩, ⟨(some 107), none,
  (.q (.mv (.t 112)))⟩] [] [0, 1, 5, 6, 7, 8, 9, 10, 11, 13, 107] [14, 1049, 1067]) (.cond (.t 107) (.seq (.reg [⟨(some 113), none, (.q (.mv (.t 11)))⟩, ⟨(some 114), none, (.q (.bin .neq (.t 113)
  (.c (.int .i64 5))))⟩, ⟨(some 115), none, (.q (.mv (.t 114)))⟩, ⟨(some 116), (some (115, false)), (.q (.mv (.t 13)))⟩, ⟨(some 117), (some (115, false)), (.q (.bin .neq (.t 116)
  (.c (.int .i64 5))))⟩, ⟨(some 118), none, (.q (.pick (.t 115) (.c (.bool true)) (.t 117)))⟩, ⟨(some 119), none, (.q (.mv (.t 118)))⟩, ⟨(some 120), (some (119, false)), (.q (.mv (.t 10)))⟩,
  ⟨(some 121), (some (119, false)), (.q (.mv (.t 0)))⟩, ⟨(some 122), (some (119, false)), (.q (.mv (.t 7)))⟩, ⟨(some 123), (some (119, false)), (.q (.ia (.t 121) (.t 122) 1))⟩, ⟨(some 124),
  (some (119, false)), (.q (.ld (.t 123) 1 false))⟩, ⟨(some 125), (some (119, false)), (.q (.bin .rem (.t 124) (.c (.int .u8 4))))⟩, ⟨(some 126), (some (119, false)), (.q (.conv .i64 (.t 125)))⟩,
  ⟨(some 127), (some (119, false)), (.q (.bin .mul (.c (.int .i64 100)) (.t 126)))⟩, ⟨(some 128), (some (119, false)), (.q (.mv (.t 9)))⟩, ⟨(some 129), (some (119, false)),
  (.q (.conv .i64 (.t 128)))⟩, ⟨(some 130), (some (119, false)), (.q (.bin .add (.t 127) (.t 129)))⟩, ⟨(some 131), (some (119, false)), (.q (.bin .neq (.t 120) (.t 130)))⟩, ⟨(some 132), none,
  (.q (.pick (.t 119) (.c (.bool true)) (.t 131)))⟩] [] [0, 1, 5, 6, 7, 132] [14, 1049, 1067]) (.cond (.t 132) (.seq (.reg [⟨(some 4), none, (.q (.mv (.c (.bool false))))⟩] [] [4] [1151]) .ret)
  .skip)) (.seq (.reg [⟨(some 134), none, (.q (.mv (.t 9)))⟩, ⟨(some 135), none, (.q (.mv (.t 6)))⟩, ⟨(some 136), none, (.q (.mv (.t 8)))⟩, ⟨(some 137), none, (.q (.mget (.t 135) (.t 136)
  false Kk.str (.pv (.sc (.int .u64 0)))))⟩, ⟨(some 138), none, (.q (.bin .lss (.t 134) (.t 137)))⟩, ⟨(some 133), none, (.q (.mv (.t 138)))⟩] [] [0, 1, 5, 6, 7, 11, 13, 133] [14, 1049, 1067])
  (.cond (.t 133) (.seq (.reg [⟨(some 139), none, (.q (.mv (.t 11)))⟩, ⟨(some 140), none, (.q (.bin .neq (.t 139) (.c (.int .i64 8))))⟩, ⟨(some 141), none, (.q (.mv (.t 140)))⟩, ⟨(some 142),
  (some (141, false)), (.q (.mv (.t 13)))⟩, ⟨(some 143), (some (141, false)), (.q (.bin .neq (.t 142) (.c (.int .i64 8))))⟩, ⟨(some 144), none, (.q (.pick (.t 141) (.c (.bool true))
  (.t 143)))⟩] [] [0, 1, 5, 6, 7, 144] [14, 1049, 1067]) (.cond (.t 144) (.seq (.reg [⟨(some 4), none, (.q (.mv (.c (.bool false))))⟩] [] [4] [1151]) .ret) .skip)) (.seq (.reg [⟨(some 70), none,
  (.q (.mv (.t 11)))⟩, ⟨(some 71), none, (.q (.bin .neq (.t 70) (.c (.int .i64 9))))⟩, ⟨(some 72), none, (.q (.mv (.t 71)))⟩, ⟨(some 73), (some (72, false)), (.q (.mv (.t 13)))⟩, ⟨(some 74),
  (some (72, false)), (.q (.bin .neq (.t 73) (.c (.int .i64 9))))⟩, ⟨(some 75), none, (.q (.pick (.t 72) (.c (.bool true)) (.t 74)))⟩] [] [0, 1, 5, 6, 7, 75] [14, 1049, 1067]) (.cond (.t 75)
  (.seq (.reg [⟨(some 4), none, (.q (.mv (.c (.bool false))))⟩] [] [4] [1151]) .ret) .skip)))))))))))))))) (.reg [⟨(some 29), none, (.q (.mv (.t 7)))⟩, ⟨(some 30), none, (.q (.bin .add (.t 29)
  (.c (.int .i64 1))))⟩, ⟨(some 7), none, (.q (.mv (.t 30)))⟩] [] [0, 1, 5, 6, 7] [14, 1067])))
def R8_0 : MC := (.seq (.reg [⟨(some 145), none, (.q (.mv (.t 5)))⟩, ⟨(some 146), none, (.q (.len (.t 145) false))⟩, ⟨(some 147), none, (.q (.mv (.t 6)))⟩, ⟨(some 148), none, (.q (.mlen (.t 147)))⟩,
  ⟨(some 149), none, (.q (.bin .eql (.t 146) (.t 148)))⟩, ⟨(some 150), none, (.q (.mv (.t 149)))⟩, ⟨(some 151), (some (150, true)), (.call (.f 45) [])⟩, ⟨(some 152), none, (.q (.pick (.t 150) (.t 151)
  (.c (.bool false))))⟩, ⟨(some 4), none, (.q (.mv (.t 152)))⟩] [] [4] [1151]) .ret)
def M8 : MC := (.seq (.reg [⟨(some 4), none, (.q (.mv (.c (.bool false))))⟩] [] [0, 1] []) (.seq (.reg [⟨(some 5), none, (.q (.mv .nil))⟩] [(5, 6, 0)] [0, 1, 5] [1067]) (.seq (.reg [⟨(some 14), none,
  .mkm⟩, ⟨(some 6), none, (.q (.mv (.t 14)))⟩] [] [0, 1, 5, 6] [14, 1067]) (.seq (.seq (.reg [⟨(some 7), none, (.q (.mv (.c (.int .i64 0))))⟩] [] [0, 1, 5, 6, 7] [14, 1067]) (.block 0 (.loop B8_0)))
  R8_0))))
theorem mc8 : ofCode Try.prog [] Try.f8.ntmps [(0, ⟨[0, 1], [], [], 0, [], none⟩),
    (1, ⟨[0, 1, 5], [1067], [], 0, [(5, 6, 0)], none⟩),
    (2, ⟨[0, 1, 5, 6], [14, 1067], [], 0, [], none⟩),
    (3, ⟨[0, 1, 5, 6, 7], [14, 1067], [], 0, [], none⟩),
    (4, ⟨[0, 1, 5, 6, 7, 28], [14, 1067], [], 0, [], none⟩),
    (5, ⟨[0, 1, 5, 6, 7], [14, 1067], [], 0, [], none⟩),
    (6, ⟨[0, 1, 5, 6, 7, 8], [14, 1067], [], 0, [], none⟩),
    (7, ⟨[0, 1, 5, 6, 7, 8, 9], [14, 1067], [], 0, [], none⟩),
    (8, ⟨[0, 1, 5, 6, 7, 8, 9, 10, 11], [14, 1049, 1067], [], 0, [], none⟩),
    (9, ⟨[0, 1, 5, 6, 7, 8, 9, 10, 11, 12, 13], [14, 1049, 1067], [], 0, [], none⟩),
    (10, ⟨[0, 1, 5, 6, 7, 75], [14, 1049, 1067], [], 0, [], none⟩),
    (11, ⟨[4], [1151], [], 0, [], none⟩),
    (12, ⟨[0, 1, 5, 6, 7, 8, 9, 10, 11, 12, 13, 76], [14, 1049, 1067], [], 0, [], none⟩),
    (13, ⟨[0, 1, 5, 6, 7, 84], [14, 1049, 1067], [], 0, [], none⟩),
    (14, ⟨[4], [1151], [], 0, [], none⟩),
    (15, ⟨[0, 1, 5, 6, 7, 8, 9, 10, 11, 12, 13, 85], [14, 1049, 1067], [], 0, [], none⟩),
    (16, ⟨[0, 1, 6, 7, 8, 9, 12, 102], [14, 1049, 1067, 1100], [], 0, [], none⟩),
    (17, ⟨[4], [1151], [], 0, [], none⟩),
    (18, ⟨[0, 1, 6, 7, 12], [14, 1067], [], 0, [], none⟩),
    (19, ⟨[0, 1, 5, 6, 7], [14, 1067], [], 0, [], none⟩),
    (20, ⟨[0, 1, 5, 6, 7, 8, 9, 10, 11, 13, 107], [14, 1049, 1067], [], 0, [], none⟩),
    (21, ⟨[0, 1, 5, 6, 7, 132], [14, 1049, 1067], [], 0, [], none⟩),
    (22, ⟨[4], [1151], [], 0, [], none⟩),
    (23, ⟨[0, 1, 5, 6, 7, 11, 13, 133], [14, 1049, 1067], [], 0, [], none⟩),
    (24, ⟨[0, 1, 5, 6, 7, 144], [14, 1049, 1067], [], 0, [], none⟩),
    (25, ⟨[4], [1151], [], 0, [], none⟩),
    (26, ⟨[4], [1151], [], 0, [], none⟩)] (Try.f8.body.getD .skip) = some M8 := by kernel_rfl
theorem Run8 {args : List PV} {v : AV} {rs : List (Nat × List PV)} (ids : List Bool) (h : args.length ≤ 153) (hv : run Try.prog (retK [RV.tmp 4] ids v rs) M8 [] ⟨entry 0 args, []⟩) : Fn Try.prog 8 args v rs :=
  Fn_run ids (by kernel_rfl) Try.func8 (by decide) rfl mc8 (by kernel_rfl) (by rw [Try.ntmps8]; exact h) (by rw [Try.ntmps8]; decide) hv

end Go.Vc

namespace Go.Vc
open Go.Proofs
set_option linter.unusedSimpArgs false
set_option linter.unusedVariables false

/-! ## Maps from strings to numbers, as lists -/
abbrev enS (t : ByteArray × Int) : PV × PV := (pS t.1, pU t.2)
def lkS : List (ByteArray × Int) → ByteArray → Option Int
  | [], _ => none
  | t :: ts, p => if p = t.1 then some t.2 else lkS ts p
def upS : List (ByteArray × Int) → ByteArray → Int → List (ByteArray × Int)
  | [], p, v => [(p, v)]
  | t :: ts, p, v => if p = t.1 then (p, v) :: ts else t :: upS ts p v
theorem lkp_S (p : ByteArray) : ∀ ts : List (ByteArray × Int), lkp (pS p) (ts.map enS) = (lkS ts p).map pU
  | [] => rfl
  | t :: ts => by
    simp only [List.map_cons, lkp, keyEq, lkS, lkp_S p ts]
    by_cases h : p = t.1 <;> simp [h]
theorem mput_S (p : ByteArray) (v : Int) : ∀ ts : List (ByteArray × Int), mput (pS p) (pU v) (ts.map enS) = (upS ts p v).map enS
  | [] => rfl
  | t :: ts => by
    simp only [List.map_cons, mput, keyEq, upS, mput_S p v ts]
    by_cases h : p = t.1 <;> simp [h]
theorem like_S (p : ByteArray) : ∀ ts : List (ByteArray × Int), keysLike .str (pS p) (ts.map enS)
  | [] => trivial
  | t :: ts => by simp only [List.map_cons, keysLike, keyLike]; exact ⟨trivial, like_S p ts⟩
theorem lkS_up (p : ByteArray) (v : Int) (q : ByteArray) : ∀ ts : List (ByteArray × Int), lkS (upS ts p v) q = if p = q then some v else lkS ts q
  | [] => by simp only [upS, lkS]; by_cases h : p = q <;> simp [h, eq_comm]
  | t :: ts => by
    simp only [upS]
    by_cases h : p = t.1
    · rw [if_pos h]
      simp only [lkS]
      by_cases h2 : q = p
      · simp [h2]
      · rw [if_neg h2, if_neg (Ne.symm h2), if_neg (by rw [← h]; exact h2)]
    · rw [if_neg h]
      simp only [lkS]
      by_cases h2 : q = t.1
      · rw [if_pos h2, if_pos h2, if_neg (by rw [h2]; exact h)]
      · rw [if_neg h2, if_neg h2, lkS_up p v q ts]
theorem upS_len (p : ByteArray) (v : Int) : ∀ ts : List (ByteArray × Int), (upS ts p v).length = if (lkS ts p).isSome = true then ts.length else ts.length + 1
  | [] => rfl
  | t :: ts => by
    simp only [upS, lkS]
    by_cases h : p = t.1
    · simp [h]
    · simp only [if_neg h, List.length_cons, upS_len p v ts]
      split <;> rfl
/-- the four producers -/
def pr (k : Nat) : ByteArray := strOf [97 + (k : Int)]
theorem pr_field {k : Nat} (h : k < 4) : fieldB (pr k) = true := by
  have : k = 0 ∨ k = 1 ∨ k = 2 ∨ k = 3 := by omega
  rcases this with rfl | rfl | rfl | rfl <;> decide +kernel
theorem pr_less {j k : Nat} (hj : j < 4) (hk : k < 4) (h : blL (pr j) (pr k) = true) : j < k := by
  have h1 : j = 0 ∨ j = 1 ∨ j = 2 ∨ j = 3 := by omega
  have h2 : k = 0 ∨ k = 1 ∨ k = 2 ∨ k = 3 := by omega
  rcases h1 with rfl | rfl | rfl | rfl <;> rcases h2 with rfl | rfl | rfl | rfl <;> first | omega | (exfalso; revert h; decide +kernel)
/-- of the four producers alone -/
def Four (l : List La) : Prop := ∀ x ∈ l, ∃ k : Nat, k < 4 ∧ x.p = pr k ∧ x.o = 100 * (k : Int) + x.n ∧ 1 ≤ x.n ∧ x.n < 12
theorem four_len {l : List La} (h : Four l) (hr : Ris l) : l.length ≤ 4 := by
  match l, h, hr with
  | [], _, _ => simp
  | [_], _, _ => simp
  | [_, _], _, _ => simp
  | [_, _, _], _, _ => simp
  | [_, _, _, _], _, _ => simp
  | a :: b :: c :: d :: e :: l, h, hr =>
    exfalso
    obtain ⟨ka, a1, a2, _⟩ := h a (by simp)
    obtain ⟨kb, b1, b2, _⟩ := h b (by simp)
    obtain ⟨kc, c1, c2, _⟩ := h c (by simp)
    obtain ⟨kd, d1, d2, _⟩ := h d (by simp)
    obtain ⟨ke, e1, e2, _⟩ := h e (by simp)
    have h1 := List.pairwise_cons.1 hr
    have h2 := List.pairwise_cons.1 h1.2
    have h3 := List.pairwise_cons.1 h2.2
    have h4 := List.pairwise_cons.1 h3.2
    have g1 := h1.1 b (by simp)
    have g2 := h2.1 c (by simp)
    have g3 := h3.1 d (by simp)
    have g4 := h4.1 e (by simp)
    rw [a2, b2] at g1
    rw [b2, c2] at g2
    rw [c2, d2] at g3
    rw [d2, e2] at g4
    have := pr_less a1 b1 g1
    have := pr_less b1 c1 g2
    have := pr_less c1 d1 g3
    have := pr_less d1 e1 g4
    omega
/-- the map tells the list's numbers -/
def Tells (ts : List (ByteArray × Int)) (l : List La) : Prop := ts.length = l.length ∧ ∀ p, lkS ts p = if (lastL l p).2 = true then some (lastL l p).1.n else none
def J8 (t : List La × List (ByteArray × Int)) : Prop := Ris t.1 ∧ Four t.1 ∧ Tells t.2 t.1
theorem J8_nil : J8 ([], []) := ⟨List.Pairwise.nil, fun x hx => by simp at hx, rfl, fun p => rfl⟩
theorem J8_check {t : List La × List (ByteArray × Int)} (h : J8 t) : checkL t.1 = true := by
  refine checkL_split.2 ⟨by have := four_len h.2.1 h.1; omega, fun x hx => ?_, h.1⟩
  obtain ⟨k, h1, h2, h3, h4, h5⟩ := h.2.1 x hx
  simp only [mayL, h2, pr_field h1, Bool.true_and, Bool.and_eq_true, decide_eq_true_eq]
  omega
theorem pr_inj {j k : Nat} (hj : j < 4) (hk : k < 4) (h : pr j = pr k) : j = k := by
  have h1 : j = 0 ∨ j = 1 ∨ j = 2 ∨ j = 3 := by omega
  have h2 : k = 0 ∨ k = 1 ∨ k = 2 ∨ k = 3 := by omega
  rcases h1 with rfl | rfl | rfl | rfl <;> rcases h2 with rfl | rfl | rfl | rfl <;> first | rfl | (exfalso; revert h; decide +kernel)
theorem ask_eq {l : List La} {p : ByteArray} {n : Int} (hc : checkL l = true) (hf : fieldB p = true) : askL l p n = if n < 1 then (0, 1) else if (lastL l p).2 = true ∧ n = (lastL l p).1.n then ((lastL l p).1.o, 5)
      else if (lastL l p).2 = true ∧ n < (lastL l p).1.n then (0, 8) else if n - 1 = (lastL l p).1.n then (0, 0) else (0, 9) := by
  unfold askL; simp [hc, hf]
theorem J8_next {l : List La} {ts : List (ByteArray × Int)} (h : J8 (l, ts)) {k : Nat} (hk : k < 4) {n : Int} (h1 : 1 ≤ n) (h2 : n < 12) : J8 (insL l ⟨pr k, n, 100 * (k : Int) + n⟩, upS ts (pr k) n) := by
  obtain ⟨a, b, c, d⟩ := h
  simp only at a b c d
  refine ⟨insL_ris a, fun x hx => ?_, ?_, fun p => ?_⟩
  · rcases insL_mem hx with rfl | hx
    · exact ⟨k, hk, rfl, rfl, h1, h2⟩
    · exact b x hx
  · simp only
    rw [upS_len, insL_len a, d (pr k), c]
    cases (lastL l (pr k)).2 <;> simp
  · simp only
    rw [lkS_up, lastL_ins a, d p]
    simp only
    split <;> rfl
set_option maxHeartbeats 2000000 in
theorem law8 (who seqs : List Int) (hl : who.length ≤ 9223372036854775807) (hl2 : seqs.length ≤ 9223372036854775807) (hw : ∀ x ∈ who, 0 ≤ x ∧ x ≤ 255) (hs : ∀ x ∈ seqs, 0 ≤ x ∧ x ≤ 255) :
    Fn Try.prog 8 [.lst (who.map p8), .lst (seqs.map p8)] (.pv (pB true)) [] := by
  refine Run8 [] (by simp) ?_
  simp only [go_sem, Nat.reduceEqDiff, Nat.reduceBEq, Nat.reduceAdd, Nat.reduceMul, Nat.reduceSub, Nat.reduceLeDiff, Nat.reduceLT, reduceIte, reduceCtorEq, Int.reduceToNat, Int.reduceLE, Int.reduceLT, Int.reduceNeg, Bool.not_not, and_self, Bool.and_eq_false_iff, Int.cast_ofNat_Int, Int.reduceAdd, Int.reduceSub, Int.reduceMul, Int.reduceEq, Int.reduceNe, M8]
  refine run_loop (T := Nat × List La × List (ByteArray × Int)) (fun t => ⟨[(0, .pv (.lst (who.map p8))), (1, .pv (.lst (seqs.map p8))), (5, .pv (ls t.2.1)), (6, .mp 14), (7, .pv (pI t.1))], [(14, .mp (t.2.2.map enS))]⟩) (fun t => t.1 ≤ who.length ∧ t.1 ≤ 80 ∧ J8 t.2) (fun t => who.length - t.1) (0, [], []) rfl ⟨Nat.zero_le _, by omega, J8_nil⟩ ?_
  intro ⟨i, l, ts⟩ ⟨hi, h80, hJ⟩
  simp only at hi h80 hJ ⊢
  have hck := J8_check hJ
  simp only at hck
  have hl4 : l.length ≤ 4 := four_len hJ.2.1 hJ.1
  have w8a := wf_map (f := p8) (s := 1) (fun a => ⟨rfl, fun c hc => by simp only [PV.cells, List.mem_cons, List.not_mem_nil, or_false] at hc; subst hc; rfl⟩) who
  have w8b := wf_map (f := p8) (s := 1) (fun a => ⟨rfl, fun c hc => by simp only [PV.cells, List.mem_cons, List.not_mem_nil, or_false] at hc; subst hc; rfl⟩) seqs
  by_cases h1 : i < who.length
  · by_cases h2 : i < seqs.length
    · by_cases h3 : i < 80
      · have hwi := hw _ (List.getElem_mem h1)
        have hsi := hs _ (List.getElem_mem h2)
        simp only [go_sem, Nat.reduceEqDiff, Nat.reduceBEq, Nat.reduceAdd, Nat.reduceMul, Nat.reduceSub, Nat.reduceLeDiff, Nat.reduceLT, reduceIte, reduceCtorEq, Int.reduceToNat, Int.reduceLE, Int.reduceLT, Int.reduceNeg, Bool.not_not, and_self, Bool.and_eq_false_iff, Int.cast_ofNat_Int, Int.reduceAdd, Int.reduceSub, Int.reduceMul, Int.reduceEq, Int.reduceNe, B8_0, w8a, w8b, getD_map h1, getD_map h2, show (i : Int) < (who.length : Int) by omega, show (i : Int) < (seqs.length : Int) by omega, show (i : Int) < 80 by omega]
        have em1 := Int.tmod_eq_emod_of_nonneg (b := 4) hwi.1
        have em2 := Int.tmod_eq_emod_of_nonneg (b := 12) hsi.1
        obtain ⟨k, hk, ek⟩ : ∃ k : Nat, k < 4 ∧ (who[i]).tmod 4 = (k : Int) := ⟨((who[i]).tmod 4).toNat, by omega, by omega⟩
        obtain ⟨n, hn, en⟩ : ∃ n : Nat, n < 12 ∧ (seqs[i]).tmod 12 = (n : Int) := ⟨((seqs[i]).tmod 12).toNat, by omega, by omega⟩
        rw [ek, en, show strOf [97 + (k : Int)] = pr k from rfl]
        refine ⟨⟨by omega, by omega⟩, ⟨_, rfl⟩, ⟨by omega, by omega⟩, ?_⟩
        refine runR_callf (by simp only [go_sem, Nat.reduceEqDiff, Nat.reduceBEq, Nat.reduceAdd, Nat.reduceMul, Nat.reduceSub, Nat.reduceLeDiff, Nat.reduceLT, reduceIte, reduceCtorEq, Int.reduceToNat, Int.reduceLE, Int.reduceLT, Int.reduceNeg, Bool.not_not, and_self, Bool.and_eq_false_iff, Int.cast_ofNat_Int, Int.reduceAdd, Int.reduceSub, Int.reduceMul, Int.reduceEq, Int.reduceNe]) (by simp only [go_sem, Nat.reduceEqDiff, Nat.reduceBEq, Nat.reduceAdd, Nat.reduceMul, Nat.reduceSub, Nat.reduceLeDiff, Nat.reduceLT, reduceIte, reduceCtorEq, Int.reduceToNat, Int.reduceLE, Int.reduceLT, Int.reduceNeg, Bool.not_not, and_self, Bool.and_eq_false_iff, Int.cast_ofNat_Int, Int.reduceAdd, Int.reduceSub, Int.reduceMul, Int.reduceEq, Int.reduceNe] <;> rfl) (fn36 l (pr k) n (by omega) (by omega) (by omega)) ⟨rfl, trivial⟩ trivial ?_
        simp only [go_sem, Nat.reduceEqDiff, Nat.reduceBEq, Nat.reduceAdd, Nat.reduceMul, Nat.reduceSub, Nat.reduceLeDiff, Nat.reduceLT, reduceIte, reduceCtorEq, Int.reduceToNat, Int.reduceLE, Int.reduceLT, Int.reduceNeg, Bool.not_not, and_self, Bool.and_eq_false_iff, Int.cast_ofNat_Int, Int.reduceAdd, Int.reduceSub, Int.reduceMul, Int.reduceEq, Int.reduceNe, w8a, w8b, getD_map h1, getD_map h2]
        rw [ek]
        refine ⟨by omega, ⟨by omega, by omega⟩, ⟨by omega, by omega⟩, ⟨by omega, by omega⟩, ⟨by omega, by omega⟩, ?_⟩
        refine runR_call (by simp only [go_sem, Nat.reduceEqDiff, Nat.reduceBEq, Nat.reduceAdd, Nat.reduceMul, Nat.reduceSub, Nat.reduceLeDiff, Nat.reduceLT, reduceIte, reduceCtorEq, Int.reduceToNat, Int.reduceLE, Int.reduceLT, Int.reduceNeg, Bool.not_not, and_self, Bool.and_eq_false_iff, Int.cast_ofNat_Int, Int.reduceAdd, Int.reduceSub, Int.reduceMul, Int.reduceEq, Int.reduceNe]) rfl (fn38 l ⟨pr k, n, 100 * (k : Int) + n⟩ (by omega) (by show (0 : Int) ≤ n; omega) (by show (n : Int) ≤ _; omega)) (.inl rfl) trivial ?_
        have hA := ask_eq (n := (n : Int)) hck (pr_field hk)
        have hT := takeL_eq l ⟨pr k, n, 100 * (k : Int) + n⟩
        have hno := lastL_no (l := l) (p := pr k)
        have hmem := lastL_mem (l := l) (p := pr k)
        have hlk := hJ.2.2.2 (pr k)
        simp only at hT hlk
        have hnx := fun h1 h2 => J8_next hJ hk (n := (n : Int)) h1 h2
        generalize lastL l (pr k) = y at hA hT hno hmem hlk
        obtain ⟨z, b⟩ := y
        simp only at hA hT hno hmem hlk
        rw [if_neg (show ¬ 100 * (k : Int) + n < 0 by omega), if_neg (fun h : b = false ∧ 50 ≤ l.length => by omega)] at hT
        cases b
        · obtain rfl : z = default := hno rfl
          have e0 : (default : La).n = 0 := rfl
          simp only [Bool.false_eq_true, false_and, if_false, e0] at hA hlk
          by_cases n0 : n = 0
          · subst n0
            rw [if_pos (by omega)] at hA
            rw [hA] at hT ⊢
            rw [if_pos (by simp)] at hT
            rw [hT]
            simp only [go_sem, Nat.reduceEqDiff, Nat.reduceBEq, Nat.reduceAdd, Nat.reduceMul, Nat.reduceSub, Nat.reduceLeDiff, Nat.reduceLT, reduceIte, reduceCtorEq, Int.reduceToNat, Int.reduceLE, Int.reduceLT, Int.reduceNeg, Bool.not_not, and_self, Bool.and_eq_false_iff, Int.cast_ofNat_Int, Int.reduceAdd, Int.reduceSub, Int.reduceMul, Int.reduceEq, Int.reduceNe]
            exact ⟨⟨by omega, by omega⟩, (i + 1, l, ts), rfl, ⟨by show i + 1 ≤ _; omega, by show i + 1 ≤ _; omega, hJ⟩, by show who.length - (i + 1) < _; omega⟩
          · rw [if_neg (by omega)] at hA
            by_cases n1 : n = 1
            · subst n1
              rw [if_pos (by omega)] at hA
              rw [hA] at hT ⊢
              rw [if_neg (by simp)] at hT
              rw [hT]
              have hJ2 := hnx (by omega) (by omega)
              have hc2 := J8_check hJ2
              simp only at hc2
              have hlen := four_len hJ2.2.1 hJ2.1
              simp only at hlen
              generalize insL l ⟨pr k, ((1 : Nat) : Int), 100 * (k : Int) + ((1 : Nat) : Int)⟩ = l2 at hJ2 hc2 hlen ⊢
              simp only [go_sem, Nat.reduceEqDiff, Nat.reduceBEq, Nat.reduceAdd, Nat.reduceMul, Nat.reduceSub, Nat.reduceLeDiff, Nat.reduceLT, reduceIte, reduceCtorEq, Int.reduceToNat, Int.reduceLE, Int.reduceLT, Int.reduceNeg, Bool.not_not, and_self, Bool.and_eq_false_iff, Int.cast_ofNat_Int, Int.reduceAdd, Int.reduceSub, Int.reduceMul, Int.reduceEq, Int.reduceNe, lkp_S, hlk, like_S]
              refine runR_callgf (by simp only [go_sem, Nat.reduceEqDiff, Nat.reduceBEq, Nat.reduceAdd, Nat.reduceMul, Nat.reduceSub, Nat.reduceLeDiff, Nat.reduceLT, reduceIte, reduceCtorEq, Int.reduceToNat, Int.reduceLE, Int.reduceLT, Int.reduceNeg, Bool.not_not, and_self, Bool.and_eq_false_iff, Int.cast_ofNat_Int, Int.reduceAdd, Int.reduceSub, Int.reduceMul, Int.reduceEq, Int.reduceNe]) (by simp only [go_sem, Nat.reduceEqDiff, Nat.reduceBEq, Nat.reduceAdd, Nat.reduceMul, Nat.reduceSub, Nat.reduceLeDiff, Nat.reduceLT, reduceIte, reduceCtorEq, Int.reduceToNat, Int.reduceLE, Int.reduceLT, Int.reduceNeg, Bool.not_not, and_self, Bool.and_eq_false_iff, Int.cast_ofNat_Int, Int.reduceAdd, Int.reduceSub, Int.reduceMul, Int.reduceEq, Int.reduceNe]) (by simp only [go_sem, Nat.reduceEqDiff, Nat.reduceBEq, Nat.reduceAdd, Nat.reduceMul, Nat.reduceSub, Nat.reduceLeDiff, Nat.reduceLT, reduceIte, reduceCtorEq, Int.reduceToNat, Int.reduceLE, Int.reduceLT, Int.reduceNeg, Bool.not_not, and_self, Bool.and_eq_false_iff, Int.cast_ofNat_Int, Int.reduceAdd, Int.reduceSub, Int.reduceMul, Int.reduceEq, Int.reduceNe] <;> rfl) (fun _ => fn43 l2 (by omega)) rfl ?_
              rw [hc2]
              simp only [go_sem, Nat.reduceEqDiff, Nat.reduceBEq, Nat.reduceAdd, Nat.reduceMul, Nat.reduceSub, Nat.reduceLeDiff, Nat.reduceLT, reduceIte, reduceCtorEq, Int.reduceToNat, Int.reduceLE, Int.reduceLT, Int.reduceNeg, Bool.not_not, and_self, Bool.and_eq_false_iff, Int.cast_ofNat_Int, Int.reduceAdd, Int.reduceSub, Int.reduceMul, Int.reduceEq, Int.reduceNe, errN_dec, errN_iff, mput_S, like_S]
              exact ⟨⟨by omega, by omega⟩, (i + 1, l2, upS ts (pr k) 1), rfl, ⟨by show i + 1 ≤ _; omega, by show i + 1 ≤ _; omega, hJ2⟩, by show who.length - (i + 1) < _; omega⟩
            · rw [if_neg (by omega)] at hA
              rw [hA] at hT ⊢
              rw [if_pos (by simp)] at hT
              rw [hT]
              simp only [go_sem, Nat.reduceEqDiff, Nat.reduceBEq, Nat.reduceAdd, Nat.reduceMul, Nat.reduceSub, Nat.reduceLeDiff, Nat.reduceLT, reduceIte, reduceCtorEq, Int.reduceToNat, Int.reduceLE, Int.reduceLT, Int.reduceNeg, Bool.not_not, and_self, Bool.and_eq_false_iff, Int.cast_ofNat_Int, Int.reduceAdd, Int.reduceSub, Int.reduceMul, Int.reduceEq, Int.reduceNe, lkp_S, hlk, like_S, show ¬ (n : Int) = 0 by omega, show ¬ (n : Int) = 1 by omega, show ¬ (n : Int) < 0 by omega]
              exact ⟨⟨by omega, by omega⟩, (i + 1, l, ts), rfl, ⟨by show i + 1 ≤ _; omega, by show i + 1 ≤ _; omega, hJ⟩, by show who.length - (i + 1) < _; omega⟩
        · obtain ⟨hz, hzp⟩ := hmem rfl
          obtain ⟨k', q1, q2, q3, q4, q5⟩ := hJ.2.1 z hz
          obtain rfl : k = k' := pr_inj hk q1 (hzp.symm.trans q2)
          simp only [true_and, if_true] at hA hlk
          by_cases n0 : (n : Int) = 0
          · rw [if_pos (by omega)] at hA
            rw [hA] at hT ⊢
            rw [if_pos (by simp)] at hT
            rw [hT]
            simp only [go_sem, Nat.reduceEqDiff, Nat.reduceBEq, Nat.reduceAdd, Nat.reduceMul, Nat.reduceSub, Nat.reduceLeDiff, Nat.reduceLT, reduceIte, reduceCtorEq, Int.reduceToNat, Int.reduceLE, Int.reduceLT, Int.reduceNeg, Bool.not_not, and_self, Bool.and_eq_false_iff, Int.cast_ofNat_Int, Int.reduceAdd, Int.reduceSub, Int.reduceMul, Int.reduceEq, Int.reduceNe, n0]
            exact ⟨⟨by omega, by omega⟩, (i + 1, l, ts), rfl, ⟨by show i + 1 ≤ _; omega, by show i + 1 ≤ _; omega, hJ⟩, by show who.length - (i + 1) < _; omega⟩
          rw [if_neg (by omega)] at hA
          by_cases n2 : (n : Int) = z.n
          · rw [if_pos n2] at hA
            rw [hA] at hT ⊢
            rw [if_pos (by simp)] at hT
            rw [hT]
            simp only [go_sem, Nat.reduceEqDiff, Nat.reduceBEq, Nat.reduceAdd, Nat.reduceMul, Nat.reduceSub, Nat.reduceLeDiff, Nat.reduceLT, reduceIte, reduceCtorEq, Int.reduceToNat, Int.reduceLE, Int.reduceLT, Int.reduceNeg, Bool.not_not, and_self, Bool.and_eq_false_iff, Int.cast_ofNat_Int, Int.reduceAdd, Int.reduceSub, Int.reduceMul, Int.reduceEq, Int.reduceNe, lkp_S, hlk, like_S, w8a, getD_map h1, ek, n0, n2, q3, show ¬ z.n = 0 by omega, show ¬ z.n = z.n + 1 by omega]
            exact ⟨⟨by omega, by omega⟩, by omega, ⟨by omega, by omega⟩, ⟨by omega, by omega⟩, ⟨by omega, by omega⟩, ⟨by omega, by omega⟩, ⟨by omega, by omega⟩, (i + 1, l, ts), rfl, ⟨by show i + 1 ≤ _; omega, by show i + 1 ≤ _; omega, hJ⟩, by show who.length - (i + 1) < _; omega⟩
          rw [if_neg n2] at hA
          by_cases n3 : (n : Int) < z.n
          · rw [if_pos n3] at hA
            rw [hA] at hT ⊢
            rw [if_pos (by simp)] at hT
            rw [hT]
            simp only [go_sem, Nat.reduceEqDiff, Nat.reduceBEq, Nat.reduceAdd, Nat.reduceMul, Nat.reduceSub, Nat.reduceLeDiff, Nat.reduceLT, reduceIte, reduceCtorEq, Int.reduceToNat, Int.reduceLE, Int.reduceLT, Int.reduceNeg, Bool.not_not, and_self, Bool.and_eq_false_iff, Int.cast_ofNat_Int, Int.reduceAdd, Int.reduceSub, Int.reduceMul, Int.reduceEq, Int.reduceNe, lkp_S, hlk, like_S, n0, n2, n3, show ¬ (n : Int) = z.n + 1 by omega]
            exact ⟨⟨by omega, by omega⟩, ⟨by omega, by omega⟩, (i + 1, l, ts), rfl, ⟨by show i + 1 ≤ _; omega, by show i + 1 ≤ _; omega, hJ⟩, by show who.length - (i + 1) < _; omega⟩
          rw [if_neg n3] at hA
          by_cases n1 : (n : Int) = z.n + 1
          · rw [if_pos (by omega)] at hA
            rw [hA] at hT ⊢
            rw [if_neg (by simp)] at hT
            rw [hT]
            have hJ2 := hnx (by omega) (by omega)
            have hc2 := J8_check hJ2
            simp only at hc2
            have hlen := four_len hJ2.2.1 hJ2.1
            simp only at hlen
            generalize insL l ⟨pr k, (n : Int), 100 * (k : Int) + (n : Int)⟩ = l2 at hJ2 hc2 hlen ⊢
            simp only [go_sem, Nat.reduceEqDiff, Nat.reduceBEq, Nat.reduceAdd, Nat.reduceMul, Nat.reduceSub, Nat.reduceLeDiff, Nat.reduceLT, reduceIte, reduceCtorEq, Int.reduceToNat, Int.reduceLE, Int.reduceLT, Int.reduceNeg, Bool.not_not, and_self, Bool.and_eq_false_iff, Int.cast_ofNat_Int, Int.reduceAdd, Int.reduceSub, Int.reduceMul, Int.reduceEq, Int.reduceNe, lkp_S, hlk, like_S, n0, n1]
            refine ⟨fun h => by omega, fun _ => ⟨⟨by omega, by omega⟩, ?_⟩⟩
            refine runR_callgf (by simp only [go_sem, Nat.reduceEqDiff, Nat.reduceBEq, Nat.reduceAdd, Nat.reduceMul, Nat.reduceSub, Nat.reduceLeDiff, Nat.reduceLT, reduceIte, reduceCtorEq, Int.reduceToNat, Int.reduceLE, Int.reduceLT, Int.reduceNeg, Bool.not_not, and_self, Bool.and_eq_false_iff, Int.cast_ofNat_Int, Int.reduceAdd, Int.reduceSub, Int.reduceMul, Int.reduceEq, Int.reduceNe]) (by simp only [go_sem, Nat.reduceEqDiff, Nat.reduceBEq, Nat.reduceAdd, Nat.reduceMul, Nat.reduceSub, Nat.reduceLeDiff, Nat.reduceLT, reduceIte, reduceCtorEq, Int.reduceToNat, Int.reduceLE, Int.reduceLT, Int.reduceNeg, Bool.not_not, and_self, Bool.and_eq_false_iff, Int.cast_ofNat_Int, Int.reduceAdd, Int.reduceSub, Int.reduceMul, Int.reduceEq, Int.reduceNe]) (by simp only [go_sem, Nat.reduceEqDiff, Nat.reduceBEq, Nat.reduceAdd, Nat.reduceMul, Nat.reduceSub, Nat.reduceLeDiff, Nat.reduceLT, reduceIte, reduceCtorEq, Int.reduceToNat, Int.reduceLE, Int.reduceLT, Int.reduceNeg, Bool.not_not, and_self, Bool.and_eq_false_iff, Int.cast_ofNat_Int, Int.reduceAdd, Int.reduceSub, Int.reduceMul, Int.reduceEq, Int.reduceNe] <;> rfl) (fun _ => fn43 l2 (by omega)) rfl ?_
            rw [hc2]
            simp only [go_sem, Nat.reduceEqDiff, Nat.reduceBEq, Nat.reduceAdd, Nat.reduceMul, Nat.reduceSub, Nat.reduceLeDiff, Nat.reduceLT, reduceIte, reduceCtorEq, Int.reduceToNat, Int.reduceLE, Int.reduceLT, Int.reduceNeg, Bool.not_not, and_self, Bool.and_eq_false_iff, Int.cast_ofNat_Int, Int.reduceAdd, Int.reduceSub, Int.reduceMul, Int.reduceEq, Int.reduceNe, errN_dec, errN_iff, mput_S, like_S]
            rw [n1] at hJ2
            exact ⟨⟨by omega, by omega⟩, (i + 1, l2, upS ts (pr k) (z.n + 1)), rfl, ⟨by show i + 1 ≤ _; omega, by show i + 1 ≤ _; omega, hJ2⟩, by show who.length - (i + 1) < _; omega⟩
          · rw [if_neg (by omega)] at hA
            rw [hA] at hT ⊢
            rw [if_pos (by simp)] at hT
            rw [hT]
            simp only [go_sem, Nat.reduceEqDiff, Nat.reduceBEq, Nat.reduceAdd, Nat.reduceMul, Nat.reduceSub, Nat.reduceLeDiff, Nat.reduceLT, reduceIte, reduceCtorEq, Int.reduceToNat, Int.reduceLE, Int.reduceLT, Int.reduceNeg, Bool.not_not, and_self, Bool.and_eq_false_iff, Int.cast_ofNat_Int, Int.reduceAdd, Int.reduceSub, Int.reduceMul, Int.reduceEq, Int.reduceNe, lkp_S, hlk, like_S, n0, n1, n2, n3]
            exact ⟨⟨by omega, by omega⟩, ⟨by omega, by omega⟩, (i + 1, l, ts), rfl, ⟨by show i + 1 ≤ _; omega, by show i + 1 ≤ _; omega, hJ⟩, by show who.length - (i + 1) < _; omega⟩
      · simp only [go_sem, Nat.reduceEqDiff, Nat.reduceBEq, Nat.reduceAdd, Nat.reduceMul, Nat.reduceSub, Nat.reduceLeDiff, Nat.reduceLT, reduceIte, reduceCtorEq, Int.reduceToNat, Int.reduceLE, Int.reduceLT, Int.reduceNeg, Bool.not_not, and_self, Bool.and_eq_false_iff, Int.cast_ofNat_Int, Int.reduceAdd, Int.reduceSub, Int.reduceMul, Int.reduceEq, Int.reduceNe, B8_0, R8_0, show (i : Int) < (who.length : Int) by omega, show (i : Int) < (seqs.length : Int) by omega, show ¬ (i : Int) < 80 by omega]
        rw [hJ.2.2.1]
        refine runR_callgf (by simp only [go_sem, Nat.reduceEqDiff, Nat.reduceBEq, Nat.reduceAdd, Nat.reduceMul, Nat.reduceSub, Nat.reduceLeDiff, Nat.reduceLT, reduceIte, reduceCtorEq, Int.reduceToNat, Int.reduceLE, Int.reduceLT, Int.reduceNeg, Bool.not_not, and_self, Bool.and_eq_false_iff, Int.cast_ofNat_Int, Int.reduceAdd, Int.reduceSub, Int.reduceMul, Int.reduceEq, Int.reduceNe]) (by simp only [go_sem, Nat.reduceEqDiff, Nat.reduceBEq, Nat.reduceAdd, Nat.reduceMul, Nat.reduceSub, Nat.reduceLeDiff, Nat.reduceLT, reduceIte, reduceCtorEq, Int.reduceToNat, Int.reduceLE, Int.reduceLT, Int.reduceNeg, Bool.not_not, and_self, Bool.and_eq_false_iff, Int.cast_ofNat_Int, Int.reduceAdd, Int.reduceSub, Int.reduceMul, Int.reduceEq, Int.reduceNe]) (by simp only [go_sem, Nat.reduceEqDiff, Nat.reduceBEq, Nat.reduceAdd, Nat.reduceMul, Nat.reduceSub, Nat.reduceLeDiff, Nat.reduceLT, reduceIte, reduceCtorEq, Int.reduceToNat, Int.reduceLE, Int.reduceLT, Int.reduceNeg, Bool.not_not, and_self, Bool.and_eq_false_iff, Int.cast_ofNat_Int, Int.reduceAdd, Int.reduceSub, Int.reduceMul, Int.reduceEq, Int.reduceNe] <;> rfl) (fun _ => fn45) rfl ?_
        simp only [go_sem, Nat.reduceEqDiff, Nat.reduceBEq, Nat.reduceAdd, Nat.reduceMul, Nat.reduceSub, Nat.reduceLeDiff, Nat.reduceLT, reduceIte, reduceCtorEq, Int.reduceToNat, Int.reduceLE, Int.reduceLT, Int.reduceNeg, Bool.not_not, and_self, Bool.and_eq_false_iff, Int.cast_ofNat_Int, Int.reduceAdd, Int.reduceSub, Int.reduceMul, Int.reduceEq, Int.reduceNe]
    · simp only [go_sem, Nat.reduceEqDiff, Nat.reduceBEq, Nat.reduceAdd, Nat.reduceMul, Nat.reduceSub, Nat.reduceLeDiff, Nat.reduceLT, reduceIte, reduceCtorEq, Int.reduceToNat, Int.reduceLE, Int.reduceLT, Int.reduceNeg, Bool.not_not, and_self, Bool.and_eq_false_iff, Int.cast_ofNat_Int, Int.reduceAdd, Int.reduceSub, Int.reduceMul, Int.reduceEq, Int.reduceNe, B8_0, R8_0, show (i : Int) < (who.length : Int) by omega, show ¬ (i : Int) < (seqs.length : Int) by omega]
      rw [hJ.2.2.1]
      refine runR_callgf (by simp only [go_sem, Nat.reduceEqDiff, Nat.reduceBEq, Nat.reduceAdd, Nat.reduceMul, Nat.reduceSub, Nat.reduceLeDiff, Nat.reduceLT, reduceIte, reduceCtorEq, Int.reduceToNat, Int.reduceLE, Int.reduceLT, Int.reduceNeg, Bool.not_not, and_self, Bool.and_eq_false_iff, Int.cast_ofNat_Int, Int.reduceAdd, Int.reduceSub, Int.reduceMul, Int.reduceEq, Int.reduceNe]) (by simp only [go_sem, Nat.reduceEqDiff, Nat.reduceBEq, Nat.reduceAdd, Nat.reduceMul, Nat.reduceSub, Nat.reduceLeDiff, Nat.reduceLT, reduceIte, reduceCtorEq, Int.reduceToNat, Int.reduceLE, Int.reduceLT, Int.reduceNeg, Bool.not_not, and_self, Bool.and_eq_false_iff, Int.cast_ofNat_Int, Int.reduceAdd, Int.reduceSub, Int.reduceMul, Int.reduceEq, Int.reduceNe]) (by simp only [go_sem, Nat.reduceEqDiff, Nat.reduceBEq, Nat.reduceAdd, Nat.reduceMul, Nat.reduceSub, Nat.reduceLeDiff, Nat.reduceLT, reduceIte, reduceCtorEq, Int.reduceToNat, Int.reduceLE, Int.reduceLT, Int.reduceNeg, Bool.not_not, and_self, Bool.and_eq_false_iff, Int.cast_ofNat_Int, Int.reduceAdd, Int.reduceSub, Int.reduceMul, Int.reduceEq, Int.reduceNe] <;> rfl) (fun _ => fn45) rfl ?_
      simp only [go_sem, Nat.reduceEqDiff, Nat.reduceBEq, Nat.reduceAdd, Nat.reduceMul, Nat.reduceSub, Nat.reduceLeDiff, Nat.reduceLT, reduceIte, reduceCtorEq, Int.reduceToNat, Int.reduceLE, Int.reduceLT, Int.reduceNeg, Bool.not_not, and_self, Bool.and_eq_false_iff, Int.cast_ofNat_Int, Int.reduceAdd, Int.reduceSub, Int.reduceMul, Int.reduceEq, Int.reduceNe]
  · simp only [go_sem, Nat.reduceEqDiff, Nat.reduceBEq, Nat.reduceAdd, Nat.reduceMul, Nat.reduceSub, Nat.reduceLeDiff, Nat.reduceLT, reduceIte, reduceCtorEq, Int.reduceToNat, Int.reduceLE, Int.reduceLT, Int.reduceNeg, Bool.not_not, and_self, Bool.and_eq_false_iff, Int.cast_ofNat_Int, Int.reduceAdd, Int.reduceSub, Int.reduceMul, Int.reduceEq, Int.reduceNe, B8_0, R8_0, show ¬ (i : Int) < (who.length : Int) by omega]
    rw [hJ.2.2.1]
    refine runR_callgf (by simp only [go_sem, Nat.reduceEqDiff, Nat.reduceBEq, Nat.reduceAdd, Nat.reduceMul, Nat.reduceSub, Nat.reduceLeDiff, Nat.reduceLT, reduceIte, reduceCtorEq, Int.reduceToNat, Int.reduceLE, Int.reduceLT, Int.reduceNeg, Bool.not_not, and_self, Bool.and_eq_false_iff, Int.cast_ofNat_Int, Int.reduceAdd, Int.reduceSub, Int.reduceMul, Int.reduceEq, Int.reduceNe]) (by simp only [go_sem, Nat.reduceEqDiff, Nat.reduceBEq, Nat.reduceAdd, Nat.reduceMul, Nat.reduceSub, Nat.reduceLeDiff, Nat.reduceLT, reduceIte, reduceCtorEq, Int.reduceToNat, Int.reduceLE, Int.reduceLT, Int.reduceNeg, Bool.not_not, and_self, Bool.and_eq_false_iff, Int.cast_ofNat_Int, Int.reduceAdd, Int.reduceSub, Int.reduceMul, Int.reduceEq, Int.reduceNe]) (by simp only [go_sem, Nat.reduceEqDiff, Nat.reduceBEq, Nat.reduceAdd, Nat.reduceMul, Nat.reduceSub, Nat.reduceLeDiff, Nat.reduceLT, reduceIte, reduceCtorEq, Int.reduceToNat, Int.reduceLE, Int.reduceLT, Int.reduceNeg, Bool.not_not, and_self, Bool.and_eq_false_iff, Int.cast_ofNat_Int, Int.reduceAdd, Int.reduceSub, Int.reduceMul, Int.reduceEq, Int.reduceNe] <;> rfl) (fun _ => fn45) rfl ?_
    simp only [go_sem, Nat.reduceEqDiff, Nat.reduceBEq, Nat.reduceAdd, Nat.reduceMul, Nat.reduceSub, Nat.reduceLeDiff, Nat.reduceLT, reduceIte, reduceCtorEq, Int.reduceToNat, Int.reduceLE, Int.reduceLT, Int.reduceNeg, Bool.not_not, and_self, Bool.and_eq_false_iff, Int.cast_ofNat_Int, Int.reduceAdd, Int.reduceSub, Int.reduceMul, Int.reduceEq, Int.reduceNe]
end Go.Vc
