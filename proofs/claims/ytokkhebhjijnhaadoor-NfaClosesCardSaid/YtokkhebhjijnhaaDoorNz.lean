/- A part of the proofs of the seat YtokkhebhjijnhaaDoor: the contracts of functions, each proved out of its code. -/
import Derived.Test.YtokkhebhjijnhaaDoorVh
import Derived.Test.YtokkhebhjijnhaaDoorProg
import Derived.Test.YtokkhebhjijnhaaDoorNi
namespace Go.Vc
open Go.Proofs
set_option maxRecDepth 100000

/-- 'trystlaw06.NfaCloses' -/
def B6_0 : MC := (.seq (.seq (.reg [⟨(some 68), none, (.q (.mv (.t 13)))⟩, ⟨(some 69), none, (.q (.mv (.t 11)))⟩, ⟨(some 70), none, (.q (.len (.t 69) false))⟩, ⟨(some 71), none, (.q (.bin .lss (.t 68)
  (.t 70)))⟩] [] [1, 7, 9, 11, 12, 13, 71] [7, 67, 1030, 1038, 1048]) (.cond (.t 71) .skip (.exit 0))) (.seq (.block 1 (.reg [⟨(some 74), none, (.q (.mv (.t 12)))⟩, ⟨(some 75), none,
  (.q (.mv (.t 11)))⟩, ⟨(some 76), none, (.q (.mv (.t 13)))⟩, ⟨(some 77), none, (.q (.ia (.t 75) (.t 76) 1))⟩, ⟨(some 78), none, (.q (.ld (.t 77) 1 false))⟩, ⟨none, none, (.mset (.t 74) (.t 78)
  (.c (.bool true)) Kk.int)⟩] [] [1, 7, 9, 11, 12, 13] [7, 67, 1030, 1038, 1048])) (.reg [⟨(some 72), none, (.q (.mv (.t 13)))⟩, ⟨(some 73), none, (.q (.bin .add (.t 72) (.c (.int .i64 1))))⟩,
  ⟨(some 13), none, (.q (.mv (.t 73)))⟩] [] [1, 7, 9, 11, 12, 13] [7, 67, 1030, 1038, 1048])))
def B6_1 : MC := (.seq (.seq (.reg [⟨(some 79), none, (.q (.mv (.t 14)))⟩, ⟨(some 80), none, (.q (.mv (.t 9)))⟩, ⟨(some 81), none, (.q (.len (.t 80) false))⟩, ⟨(some 82), none, (.q (.bin .lss (.t 79)
  (.t 81)))⟩] [] [1, 7, 9, 12, 14, 82] [7, 67, 1030, 1038]) (.cond (.t 82) .skip (.exit 2))) (.seq (.block 3 (.seq (.reg [⟨(some 85), none, (.q (.mv (.t 12)))⟩, ⟨(some 86), none, (.q (.mv (.t 9)))⟩,
  ⟨(some 87), none, (.q (.mv (.t 14)))⟩, ⟨(some 88), none, (.q (.ia (.t 86) (.t 87) 1))⟩, ⟨(some 89), none, (.q (.ld (.t 88) 1 false))⟩, ⟨(some 90), none, (.q (.mget (.t 85) (.t 89)
  false Kk.int (.pv (.sc (.bool false)))))⟩, ⟨(some 91), none, (.q (.not (.t 90)))⟩, ⟨(some 92), none, (.q (.mv (.t 91)))⟩, ⟨(some 93), (some (92, false)), (.q (.mv (.t 14)))⟩, ⟨(some 94), (some (92,
  false)), (.q (.bin .gtr (.t 93) (.c (.int .i64 0))))⟩, ⟨(some 95), (some (92, false)), (.q (.mv (.t 94)))⟩, ⟨(some 96), (some (95, true)), (.q (.mv (.t 9)))⟩, ⟨(some 97), (some (95, true)),
  (.q (.mv (.t 14)))⟩, ⟨(some 98), (some (95, true)), (.q (.bin .sub (.t 97) (.c (.int .i64 1))))⟩, ⟨(some 99), (some (95, true)), (.q (.ia (.t 96) (.t 98) 1))⟩, ⟨(some 100), (some (95, true)),
  (.q (.ld (.t 99) 1 false))⟩, ⟨(some 101), (some (95, true)), (.q (.mv (.t 9)))⟩, ⟨(some 102), (some (95, true)), (.q (.mv (.t 14)))⟩, ⟨(some 103), (some (95, true)), (.q (.ia (.t 101) (.t 102) 1))⟩,
  ⟨(some 104), (some (95, true)), (.q (.ld (.t 103) 1 false))⟩, ⟨(some 105), (some (95, true)), (.q (.bin .geq (.t 100) (.t 104)))⟩, ⟨(some 106), (some (92, false)), (.q (.pick (.t 95) (.t 105)
  (.c (.bool false))))⟩, ⟨(some 107), none, (.q (.pick (.t 92) (.c (.bool true)) (.t 106)))⟩] [] [1, 7, 9, 12, 14, 107] [7, 67, 1030, 1038]) (.cond (.t 107) (.seq (.reg [⟨(some 6), none,
  (.q (.mv (.c (.bool false))))⟩] [] [6] [1035, 1138]) .ret) .skip))) (.reg [⟨(some 83), none, (.q (.mv (.t 14)))⟩, ⟨(some 84), none, (.q (.bin .add (.t 83) (.c (.int .i64 1))))⟩, ⟨(some 14), none,
  (.q (.mv (.t 84)))⟩] [] [1, 7, 9, 12, 14] [7, 67, 1030, 1038])))
def B6_2 : MC := (.seq (.seq (.reg [⟨(some 108), none, (.q (.mv (.t 15)))⟩, ⟨(some 109), none, (.q (.mv (.t 1)))⟩, ⟨(some 110), none, (.q (.len (.t 109) false))⟩, ⟨(some 111), none,
  (.q (.bin .lss (.t 108) (.t 110)))⟩] [] [1, 7, 12, 15, 111] [7, 67, 1030]) (.cond (.t 111) .skip (.exit 4))) (.seq (.block 5 (.seq (.reg [⟨(some 114), none, (.q (.mv (.t 1)))⟩, ⟨(some 115), none,
  (.q (.mv (.t 15)))⟩, ⟨(some 116), none, (.q (.ia (.t 114) (.t 115) 1))⟩, ⟨(some 117), none, (.q (.ld (.t 116) 1 false))⟩, ⟨(some 118), none, (.q (.bin .geq (.t 117) (.c (.int .i64 0))))⟩,
  ⟨(some 119), none, (.q (.mv (.t 118)))⟩, ⟨(some 120), (some (119, true)), (.q (.mv (.t 1)))⟩, ⟨(some 121), (some (119, true)), (.q (.mv (.t 15)))⟩, ⟨(some 122), (some (119, true)), (.q (.ia (.t 120)
  (.t 121) 1))⟩, ⟨(some 123), (some (119, true)), (.q (.ld (.t 122) 1 false))⟩, ⟨(some 124), (some (119, true)), (.q (.fa (.t 7) 1))⟩, ⟨(some 125), (some (119, true)), (.q (.ld (.t 124) 1 false))⟩,
  ⟨(some 126), (some (119, true)), (.q (.len (.t 125) false))⟩, ⟨(some 127), (some (119, true)), (.q (.bin .lss (.t 123) (.t 126)))⟩, ⟨(some 128), none, (.q (.pick (.t 119) (.t 127)
  (.c (.bool false))))⟩, ⟨(some 129), none, (.q (.mv (.t 128)))⟩, ⟨(some 130), (some (129, true)), (.q (.mv (.t 12)))⟩, ⟨(some 131), (some (129, true)), (.q (.mv (.t 1)))⟩, ⟨(some 132), (some (129,
  true)), (.q (.mv (.t 15)))⟩, ⟨(some 133), (some (129, true)), (.q (.ia (.t 131) (.t 132) 1))⟩, ⟨(some 134), (some (129, true)), (.q (.ld (.t 133) 1 false))⟩, ⟨(some 135), (some (129, true)),
  (.q (.mget (.t 130) (.t 134) false Kk.int (.pv (.sc (.bool false)))))⟩, ⟨(some 136), (some (129, true)), (.q (.not (.t 135)))⟩, ⟨(some 137), none, (.q (.pick (.t 129) (.t 136)
  (.c (.bool false))))⟩] [] [1, 7, 12, 15, 137] [7, 67, 1030]) (.cond (.t 137) (.seq (.reg [⟨(some 6), none, (.q (.mv (.c (.bool false))))⟩] [] [6] [1035, 1138]) .ret) .skip))) (.reg [⟨(some 112),
  none, (.q (.mv (.t 15)))⟩, ⟨(some 113), none, (.q (.bin .add (.t 112) (.c (.int .i64 1))))⟩, ⟨(some 15), none, (.q (.mv (.t 113)))⟩] [] [1, 7, 12, 15] [7, 67, 1030])))
def R6_2 : MC := (.seq (.reg [⟨(some 138), none, (.call (.f 15) [])⟩, ⟨(some 6), none, (.q (.mv (.t 138)))⟩] [] [6] [1035, 1138]) .ret)
def R6_1 : MC := (.seq (.seq (.reg [⟨(some 15), none, (.q (.mv (.c (.int .i64 0))))⟩] [] [1, 7, 12, 15] [7, 67, 1030]) (.block 4 (.loop B6_2))) R6_2)
def R6_0 : MC := (.seq (.seq (.reg [⟨(some 14), none, (.q (.mv (.c (.int .i64 0))))⟩] [] [1, 7, 9, 12, 14] [7, 67, 1030, 1038]) (.block 2 (.loop B6_1))) R6_1)
def M6 : MC := (.seq (.reg [⟨(some 6), none, (.q (.mv (.c (.bool false))))⟩] [] [0, 1, 2] [1017]) (.seq (.reg [⟨(some 16), none, (.q (.mv (.t 0)))⟩, ⟨(some 17), none, (.call (.f 9) [(.t 16)])⟩,
  ⟨(some 0), none, (.q (.mv (.t 17)))⟩] [] [0, 1, 2] [1017]) (.seq (.seq (.reg [⟨(some 18), none, (.q (.mv (.t 1)))⟩, ⟨(some 19), none, (.q (.len (.t 18) false))⟩, ⟨(some 20), none,
  (.q (.bin .gtr (.t 19) (.c (.int .i64 40))))⟩] [] [0, 1, 2, 20] [1017]) (.cond (.t 20) (.reg [⟨(some 21), none, (.q (.mv (.t 1)))⟩, ⟨(some 22), none, (.q (.slc (.t 21)
  none (some (.c (.int .i64 40))) 1 false))⟩, ⟨(some 1), none, (.q (.mv (.t 22)))⟩] [] [0, 1, 2] [1017]) .skip)) (.seq (.seq (.reg [⟨(some 23), none, (.q (.mv (.t 2)))⟩, ⟨(some 24), none,
  (.q (.len (.t 23) false))⟩, ⟨(some 25), none, (.q (.bin .gtr (.t 24) (.c (.int .i64 40))))⟩] [] [0, 1, 2, 25] [1017]) (.cond (.t 25) (.reg [⟨(some 26), none, (.q (.mv (.t 2)))⟩, ⟨(some 27), none,
  (.q (.slc (.t 26) none (some (.c (.int .i64 40))) 1 false))⟩, ⟨(some 2), none, (.q (.mv (.t 27)))⟩] [] [0, 1, 2] [1017]) .skip)) (.seq (.reg [⟨(some 29), none, (.q (.mv (.t 0)))⟩, ⟨(some 30), none,
  (.call (.f 11) [(.t 29)])⟩, ⟨(some 28), none, (.q (.mv (.t 30)))⟩, ⟨(some 31), none, (.q (.ext (.t 28) 0))⟩, ⟨(some 32), none, (.q (.ext (.t 28) 1))⟩, ⟨(some 7), none, (.alloc [.e0, .e0, .e0,
  .e0])⟩, ⟨none, none, (.st (.t 7) (.t 31) 4)⟩, ⟨(some 8), none, (.q (.mv (.t 32)))⟩] [(7, 7, 0)] [1, 2, 7, 8] [7, 1030]) (.seq (.seq (.reg [⟨(some 33), none, (.q (.mv (.t 8)))⟩, ⟨(some 34), none,
  (.q (.bin .neq (.t 33) (.c (.int .i64 0))))⟩] [] [1, 2, 7, 34] [7, 1030]) (.cond (.t 34) (.seq (.reg [⟨(some 35), none, (.call (.f 15) [])⟩, ⟨(some 6), none, (.q (.mv (.t 35)))⟩] [] [6] [1035,
  1138]) .ret) .skip)) (.seq (.reg [⟨(some 36), none, (.q (.ld (.t 7) 4 true))⟩, ⟨(some 37), none, (.q (.mv (.t 1)))⟩, ⟨(some 39), none, (.q (.ld (.t 7) 4 true))⟩, ⟨(some 40), none,
  (.q (.mv (.t 2)))⟩, ⟨(some 38), none, (.call (.f 17) [(.t 36), (.t 37)])⟩, ⟨(some 41), none, (.call (.f 17) [(.t 39), (.t 40)])⟩, ⟨(some 9), none, (.q (.mv (.t 38)))⟩, ⟨(some 10), none,
  (.q (.mv (.t 41)))⟩] [] [1, 2, 7, 9, 10] [7, 1030, 1038, 1041]) (.seq (.reg [⟨(some 42), none, (.q (.ldc (.t 7) 4 true))⟩, ⟨(some 44), none, (.q (.mv (.t 1)))⟩, ⟨(some 46), none, (.q (.mv (.t 2)))⟩,
  ⟨(some 43), none, (.lits [] 1)⟩, ⟨(some 45), none, (.app (.t 43) (.t 44) 1 8)⟩, ⟨(some 47), none, (.appi (.t 45) (.t 46) 1 8)⟩, ⟨(some 48), none, (.call (.f 17) [(.t 42), (.t 47)])⟩, ⟨(some 11),
  none, (.q (.mv (.t 48)))⟩] [] [1, 7, 9, 10, 11] [7, 1030, 1038, 1041, 1048]) (.seq (.seq (.reg [⟨(some 49), none, (.q (.ld (.t 7) 4 true))⟩, ⟨(some 50), none, (.q (.mv (.t 9)))⟩, ⟨(some 52), none,
  (.q (.mv (.t 9)))⟩, ⟨(some 51), none, (.call (.f 17) [(.t 49), (.t 50)])⟩, ⟨(some 53), none, (.call (.f 16) [(.t 51), (.t 52)])⟩, ⟨(some 54), none, (.q (.not (.t 53)))⟩, ⟨(some 55), none,
  (.q (.mv (.t 54)))⟩, ⟨(some 56), (some (55, false)), (.q (.ldc (.t 7) 4 true))⟩, ⟨(some 58), (some (55, false)), (.q (.mv (.t 9)))⟩, ⟨(some 60), (some (55, false)), (.q (.mv (.t 10)))⟩, ⟨(some 63),
  (some (55, false)), (.q (.mv (.t 11)))⟩, ⟨(some 57), (some (55, false)), (.lits [] 1)⟩, ⟨(some 59), (some (55, false)), (.app (.t 57) (.t 58) 1 8)⟩, ⟨(some 61), (some (55, false)), (.appi (.t 59)
  (.t 60) 1 8)⟩, ⟨(some 62), (some (55, false)), (.call (.f 17) [(.t 56), (.t 61)])⟩, ⟨(some 64), (some (55, false)), (.call (.f 16) [(.t 62), (.t 63)])⟩, ⟨(some 65), (some (55, false)),
  (.q (.not (.t 64)))⟩, ⟨(some 66), none, (.q (.pick (.t 55) (.c (.bool true)) (.t 65)))⟩] [] [1, 7, 9, 11, 66] [7, 1030, 1038, 1048, 1053, 1064]) (.cond (.t 66) (.seq (.reg [⟨(some 6), none,
  (.q (.mv (.c (.bool false))))⟩] [] [6] [1035, 1138]) .ret) .skip)) (.seq (.reg [⟨(some 67), none, .mkm⟩, ⟨(some 12), none, (.q (.mv (.t 67)))⟩] [] [1, 7, 9, 11, 12] [7, 67, 1030, 1038, 1048])
  (.seq (.seq (.reg [⟨(some 13), none, (.q (.mv (.c (.int .i64 0))))⟩] [] [1, 7, 9, 11, 12, 13] [7, 67, 1030, 1038, 1048]) (.block 0 (.loop B6_0))) R6_0)))))))))))
theorem mc6 : ofCode Tryd.prog [47, 61] Tryd.f6.ntmps [(0, ⟨[0, 1, 2], [1017], [], 0, [], none⟩),
    (1, ⟨[0, 1, 2], [1017], [], 0, [], none⟩),
    (2, ⟨[0, 1, 2, 20], [1017], [], 0, [], none⟩),
    (3, ⟨[0, 1, 2], [1017], [], 0, [], none⟩),
    (4, ⟨[0, 1, 2, 25], [1017], [], 0, [], none⟩),
    (5, ⟨[0, 1, 2], [1017], [], 0, [], none⟩),
    (6, ⟨[1, 2, 7, 8], [7, 1030], [], 0, [(7, 7, 0)], none⟩),
    (7, ⟨[1, 2, 7, 34], [7, 1030], [], 0, [], none⟩),
    (8, ⟨[6], [1035, 1138], [], 0, [], none⟩),
    (9, ⟨[1, 2, 7, 9, 10], [7, 1030, 1038, 1041], [(0, 229), (1, 230), (3, 232), (4, 240), (2, 0), (5, 0), (6, 192), (7, 128)], 255, [], none⟩),
    (10, ⟨[1, 7, 9, 10, 11], [7, 1030, 1038, 1041, 1048], [(0, 193), (2, 236), (4, 240), (1, 0), (3, 0), (5, 0), (6, 0), (7, 128)], 215, [], none⟩),
    (11, ⟨[1, 7, 9, 11, 66], [7, 1030, 1038, 1048, 1053, 1064], [(0, 262133), (1, 262134), (3, 262136), (2, 0), (4, 0), (5, 262112), (6, 262080), (7, 237696), (9, 243200), (11, 243712), (14, 245760), (8, 0), (10, 0), (12, 0), (13, 0), (15, 0), (16, 196608), (17, 131072)], 257023, [], none⟩),
    (12, ⟨[6], [1035, 1138], [], 0, [], none⟩),
    (13, ⟨[1, 7, 9, 11, 12], [7, 67, 1030, 1038, 1048], [], 0, [], none⟩),
    (14, ⟨[1, 7, 9, 11, 12, 13], [7, 67, 1030, 1038, 1048], [], 0, [], none⟩),
    (15, ⟨[1, 7, 9, 11, 12, 13, 71], [7, 67, 1030, 1038, 1048], [], 0, [], none⟩),
    (16, ⟨[1, 7, 9, 11, 12, 13], [7, 67, 1030, 1038, 1048], [], 0, [], none⟩),
    (17, ⟨[1, 7, 9, 11, 12, 13], [7, 67, 1030, 1038, 1048], [], 0, [], none⟩),
    (18, ⟨[1, 7, 9, 12, 14], [7, 67, 1030, 1038], [], 0, [], none⟩),
    (19, ⟨[1, 7, 9, 12, 14, 82], [7, 67, 1030, 1038], [], 0, [], none⟩),
    (20, ⟨[1, 7, 9, 12, 14], [7, 67, 1030, 1038], [], 0, [], none⟩),
    (21, ⟨[1, 7, 9, 12, 14, 107], [7, 67, 1030, 1038], [(0, 8388577), (1, 8388602), (2, 8388604), (3, 8388600), (4, 8388592), (5, 8388576), (6, 8388544), (7, 8388480), (8, 8388352), (9, 8388096), (10, 8387584), (11, 7391232), (12, 7401472), (13, 7397376), (14, 7389184), (15, 7372800), (16, 8192000), (17, 8257536), (18, 8126464), (19, 7864320), (20, 7340032), (21, 6291456), (22, 4194304)], 8388607, [], none⟩),
    (22, ⟨[6], [1035, 1138], [], 0, [], none⟩),
    (23, ⟨[1, 7, 12, 15], [7, 67, 1030], [], 0, [], none⟩),
    (24, ⟨[1, 7, 12, 15, 111], [7, 67, 1030], [], 0, [], none⟩),
    (25, ⟨[1, 7, 12, 15], [7, 67, 1030], [], 0, [], none⟩),
    (26, ⟨[1, 7, 12, 15, 137], [7, 67, 1030], [(0, 16777213), (1, 16777214), (2, 16777212), (3, 16777208), (4, 16777200), (5, 16777184), (6, 16769856), (7, 16769920), (8, 16769792), (9, 16769536), (10, 16776192), (11, 16775168), (12, 16773120), (13, 16769024), (14, 16760832), (15, 16744448), (16, 14745600), (17, 16384000), (18, 16515072), (19, 16252928), (20, 15728640), (21, 14680064), (22, 12582912), (23, 8388608)], 16777215, [], none⟩),
    (27, ⟨[6], [1035, 1138], [], 0, [], none⟩),
    (28, ⟨[6], [1035, 1138], [], 0, [], none⟩)] (Tryd.f6.body.getD .skip) = some M6 := by kernel_rfl
theorem Run6 {args : List PV} {v : AV} {rs : List (Nat × List PV)} (ids : List Bool) (h : args.length ≤ 139) (hv : run Tryd.prog (retK [RV.tmp 6] ids v rs) M6 [] ⟨entry 0 args, []⟩) : Fn Tryd.prog 6 args v rs :=
  Fn_run ids (by kernel_rfl) Tryd.func6 (by decide) rfl mc6 (by kernel_rfl) (by rw [Tryd.ntmps6]; exact h) (by rw [Tryd.ntmps6]; decide) hv

end Go.Vc

namespace Go.Vc
open Go.Proofs
set_option linter.unusedSimpArgs false
set_option linter.unusedVariables false

/-! ## NfaCloses -/
abbrev enZ (x : Int) : PV × PV := (pI x, pB true)
theorem lkp_Z (x : Int) : ∀ ks : List Int, lkp (pI x) (ks.map enZ) = if x ∈ ks then some (pB true) else none
  | [] => rfl
  | m :: ks => by
    simp only [List.map_cons, lkp, keyEq, lkp_Z x ks]
    by_cases h : x = m
    · subst h; simp
    · simp [h]
def addZ (ks : List Int) (x : Int) : List Int := if x ∈ ks then ks else ks ++ [x]
theorem mput_Z (x : Int) : ∀ ks : List Int, mput (pI x) (pB true) (ks.map enZ) = (addZ ks x).map enZ
  | [] => rfl
  | m :: ks => by
    have ih := mput_Z x ks
    by_cases h : x = m
    · subst h; simp [mput, keyEq, addZ]
    · have h0 : mput (pI x) (pB true) ((m :: ks).map enZ) = enZ m :: mput (pI x) (pB true) (ks.map enZ) := by simp [mput, keyEq, h]
      rw [h0, ih]
      unfold addZ
      by_cases h2 : x ∈ ks
      · simp [h2]
      · simp [h, h2]
theorem like_Z (x : Int) : ∀ ks : List Int, keysLike .int (pI x) (ks.map enZ)
  | [] => trivial
  | m :: ks => by simp only [List.map_cons, keysLike, keyLike]; exact ⟨trivial, like_Z x ks⟩
theorem addZ_mem {ks : List Int} {x y : Int} : y ∈ addZ ks x ↔ y ∈ ks ∨ y = x := by
  unfold addZ
  split
  · rename_i h
    constructor
    · exact .inl
    · rintro (h1 | rfl); exact h1; exact h
  · simp
theorem addZ_len (ks : List Int) (x : Int) : (addZ ks x).length ≤ ks.length + 1 := by unfold addZ; split <;> simp
theorem inI_toI (l : List Nat) (s : Nat) : inI (toI l) s = decide (s ∈ l) := by
  rw [Bool.eq_iff_iff, inI_iff, toI_mem, decide_eq_true_iff]
theorem inI_app (a b : List Int) (s : Nat) : inI (a ++ b) s = (inI a s || inI b s) := by simp [inI]
theorem inI_close {n : NF} {l : List Int} {s : Nat} (hs : s < n.size) : inI (toI (closeN n l)) s = cl n.eps (inI l) s := by
  rw [inI_toI, Bool.eq_iff_iff, decide_eq_true_iff, closeN_mem]
  exact ⟨fun h => h.2, fun h => ⟨hs, h⟩⟩
theorem close_again (n : NF) (l : List Int) : closeN n (toI (closeN n l)) = closeN n l := by
  unfold closeN
  refine List.filter_congr fun s hs => ?_
  have hs := List.mem_range.1 hs
  have h := cl_ext (E := n.eps) (n := n.size) (fun s hs => inI_close (n := n) (l := l) hs) s hs
  unfold closeN at h
  rw [h, cl_idem]
theorem close_both (n : NF) (a b : List Int) : closeN n (toI (closeN n a) ++ toI (closeN n b)) = closeN n (a ++ b) := by
  refine List.filter_congr fun s hs => ?_
  have hs := List.mem_range.1 hs
  have h1 := cl_ext (E := n.eps) (n := n.size) (L := inI (toI (closeN n a) ++ toI (closeN n b))) (M := fun s => cl n.eps (inI a) s || cl n.eps (inI b) s) (fun s hs => by rw [inI_app, inI_close hs, inI_close hs]) s hs
  have h2 := cl_ext (E := n.eps) (n := n.size) (L := inI (a ++ b)) (M := fun s => inI a s || inI b s) (fun s hs => inI_app a b s) s hs
  rw [h1, h2, cl_or, cl_or, cl_idem, cl_idem]
theorem close_left {n : NF} {a b : List Int} {s : Nat} (h : s ∈ closeN n a) : s ∈ closeN n (a ++ b) := by
  obtain ⟨h1, h2⟩ := closeN_mem.1 h
  refine closeN_mem.2 ⟨h1, ?_⟩
  rw [cl_ext (E := n.eps) (n := n.size) (L := inI (a ++ b)) (M := fun s => inI a s || inI b s) (fun s hs => inI_app a b s) s h1, cl_or, h2]; rfl
theorem close_in {n : NF} {a b : List Int} {s : Nat} (h : (s : Int) ∈ a) (hs : s < n.size) : s ∈ closeN n (a ++ b) :=
  closeN_mem.2 ⟨hs, cl_of (inI_iff.2 (List.mem_append_left _ h))⟩
theorem runR_appig {P : Program} {R : Exit → St → Prop} {vs : List (Nat × Nat × Nat)} {keep rows : List Nat} {k : List KI} {σ : St} {is : List Inst} {d : Nat} {b s' : Opd} {s bytes t : Nat} {c : Bool} :
    runR P R (⟨some d, some (t, c), .appi b s' s bytes⟩ :: is) vs keep rows k σ = ((frGet σ.fr t).gok ∧ (frGet σ.fr t).gv c = true ∧ runR P R (⟨some d, none, .appi b s' s bytes⟩ :: is) vs keep rows k σ) := by
  simp only [runR, vcOps, vcGd]
abbrev ptN (n : NF) : PV := .pt [ss n.signs, .lst (n.ways.map pWs), .lst (n.done.map pNs), pNs n.beg]
set_option maxHeartbeats 4000000 in
theorem law6 (bs : List ByteArray) (a b : List Int) (hb : bs.length ≤ 9223372036854775807) (hla : a.length ≤ 9223372036854775807) (hlb : b.length ≤ 9223372036854775807) : Fn Tryd.prog 6 [ss bs, ints a, ints b] (.pv (pB true)) [] := by
  refine Run6 [] (by simp) ?_
  obtain ⟨a', ha', hca⟩ : ∃ a' : List Int, a'.length ≤ 40 ∧ ((40 < a.length ∧ (a.map fun x => pI x).take 40 = a'.map fun x => pI x) ∨ (¬ 40 < a.length ∧ a' = a)) := by
    by_cases h : 40 < a.length
    · exact ⟨a.take 40, by simp; omega, .inl ⟨h, by rw [List.map_take]⟩⟩
    · exact ⟨a, by omega, .inr ⟨h, rfl⟩⟩
  obtain ⟨b', hb', hcb⟩ : ∃ b' : List Int, b'.length ≤ 40 ∧ ((40 < b.length ∧ (b.map fun x => pI x).take 40 = b'.map fun x => pI x) ∨ (¬ 40 < b.length ∧ b' = b)) := by
    by_cases h : 40 < b.length
    · exact ⟨b.take 40, by simp; omega, .inl ⟨h, by rw [List.map_take]⟩⟩
    · exact ⟨b, by omega, .inr ⟨h, rfl⟩⟩
  have r9 := fn9 bs hb
  have hl := globsS_len bs
  have hsz : ∀ b ∈ globsS bs, b.size ≤ 1000 := fun b hb => by have := globsS_size hb; omega
  generalize globsS bs = gl at hl hsz r9
  have r11 := fn11 gl (by omega) hsz
  rcases hca with ⟨h1, hta⟩ | ⟨h1, rfl⟩
  case' inl =>
    simp only [go_sem, Nat.reduceEqDiff, Nat.reduceBEq, Nat.reduceAdd, Nat.reduceMul, Nat.reduceSub, Nat.reduceLeDiff, Nat.reduceLT, reduceIte, reduceCtorEq, Int.reduceToNat, Int.reduceLE, Int.reduceLT, Int.reduceNeg, Bool.not_not, and_self, Bool.and_eq_false_iff, Int.cast_ofNat_Int, Int.reduceAdd, Int.reduceSub, Int.reduceMul, Int.reduceEq, Int.reduceNe, M6]
    refine runR_call (by simp only [go_sem, Nat.reduceEqDiff, Nat.reduceBEq, Nat.reduceAdd, Nat.reduceMul, Nat.reduceSub, Nat.reduceLeDiff, Nat.reduceLT, reduceIte, reduceCtorEq, Int.reduceToNat, Int.reduceLE, Int.reduceLT, Int.reduceNeg, Bool.not_not, and_self, Bool.and_eq_false_iff, Int.cast_ofNat_Int, Int.reduceAdd, Int.reduceSub, Int.reduceMul, Int.reduceEq, Int.reduceNe]) rfl (r9) (.inl rfl) trivial ?_
    simp only [go_sem, Nat.reduceEqDiff, Nat.reduceBEq, Nat.reduceAdd, Nat.reduceMul, Nat.reduceSub, Nat.reduceLeDiff, Nat.reduceLT, reduceIte, reduceCtorEq, Int.reduceToNat, Int.reduceLE, Int.reduceLT, Int.reduceNeg, Bool.not_not, and_self, Bool.and_eq_false_iff, Int.cast_ofNat_Int, Int.reduceAdd, Int.reduceSub, Int.reduceMul, Int.reduceEq, Int.reduceNe, show (40 : Int) < (a.length : Int) by omega, hta]
    refine ⟨⟨by omega, wf_ints a⟩, ?_⟩
  case' inr =>
    simp only [go_sem, Nat.reduceEqDiff, Nat.reduceBEq, Nat.reduceAdd, Nat.reduceMul, Nat.reduceSub, Nat.reduceLeDiff, Nat.reduceLT, reduceIte, reduceCtorEq, Int.reduceToNat, Int.reduceLE, Int.reduceLT, Int.reduceNeg, Bool.not_not, and_self, Bool.and_eq_false_iff, Int.cast_ofNat_Int, Int.reduceAdd, Int.reduceSub, Int.reduceMul, Int.reduceEq, Int.reduceNe, M6]
    refine runR_call (by simp only [go_sem, Nat.reduceEqDiff, Nat.reduceBEq, Nat.reduceAdd, Nat.reduceMul, Nat.reduceSub, Nat.reduceLeDiff, Nat.reduceLT, reduceIte, reduceCtorEq, Int.reduceToNat, Int.reduceLE, Int.reduceLT, Int.reduceNeg, Bool.not_not, and_self, Bool.and_eq_false_iff, Int.cast_ofNat_Int, Int.reduceAdd, Int.reduceSub, Int.reduceMul, Int.reduceEq, Int.reduceNe]) rfl (r9) (.inl rfl) trivial ?_
    simp only [go_sem, Nat.reduceEqDiff, Nat.reduceBEq, Nat.reduceAdd, Nat.reduceMul, Nat.reduceSub, Nat.reduceLeDiff, Nat.reduceLT, reduceIte, reduceCtorEq, Int.reduceToNat, Int.reduceLE, Int.reduceLT, Int.reduceNeg, Bool.not_not, and_self, Bool.and_eq_false_iff, Int.cast_ofNat_Int, Int.reduceAdd, Int.reduceSub, Int.reduceMul, Int.reduceEq, Int.reduceNe, show ¬ (40 : Int) < (a'.length : Int) by omega]
  all_goals
    rcases hcb with ⟨h2, htb⟩ | ⟨h2, rfl⟩
  case' inl.inl =>
    simp only [go_sem, Nat.reduceEqDiff, Nat.reduceBEq, Nat.reduceAdd, Nat.reduceMul, Nat.reduceSub, Nat.reduceLeDiff, Nat.reduceLT, reduceIte, reduceCtorEq, Int.reduceToNat, Int.reduceLE, Int.reduceLT, Int.reduceNeg, Bool.not_not, and_self, Bool.and_eq_false_iff, Int.cast_ofNat_Int, Int.reduceAdd, Int.reduceSub, Int.reduceMul, Int.reduceEq, Int.reduceNe, show (40 : Int) < (b.length : Int) by omega, htb]
    refine ⟨⟨by omega, wf_ints b⟩, ?_⟩
  case' inr.inl =>
    simp only [go_sem, Nat.reduceEqDiff, Nat.reduceBEq, Nat.reduceAdd, Nat.reduceMul, Nat.reduceSub, Nat.reduceLeDiff, Nat.reduceLT, reduceIte, reduceCtorEq, Int.reduceToNat, Int.reduceLE, Int.reduceLT, Int.reduceNeg, Bool.not_not, and_self, Bool.and_eq_false_iff, Int.cast_ofNat_Int, Int.reduceAdd, Int.reduceSub, Int.reduceMul, Int.reduceEq, Int.reduceNe, show (40 : Int) < (b.length : Int) by omega, htb]
    refine ⟨⟨by omega, wf_ints b⟩, ?_⟩
  case' inl.inr => simp only [go_sem, Nat.reduceEqDiff, Nat.reduceBEq, Nat.reduceAdd, Nat.reduceMul, Nat.reduceSub, Nat.reduceLeDiff, Nat.reduceLT, reduceIte, reduceCtorEq, Int.reduceToNat, Int.reduceLE, Int.reduceLT, Int.reduceNeg, Bool.not_not, and_self, Bool.and_eq_false_iff, Int.cast_ofNat_Int, Int.reduceAdd, Int.reduceSub, Int.reduceMul, Int.reduceEq, Int.reduceNe, show ¬ (40 : Int) < (b'.length : Int) by omega]
  case' inr.inr => simp only [go_sem, Nat.reduceEqDiff, Nat.reduceBEq, Nat.reduceAdd, Nat.reduceMul, Nat.reduceSub, Nat.reduceLeDiff, Nat.reduceLT, reduceIte, reduceCtorEq, Int.reduceToNat, Int.reduceLE, Int.reduceLT, Int.reduceNeg, Bool.not_not, and_self, Bool.and_eq_false_iff, Int.cast_ofNat_Int, Int.reduceAdd, Int.reduceSub, Int.reduceMul, Int.reduceEq, Int.reduceNe, show ¬ (40 : Int) < (b'.length : Int) by omega]
  all_goals
    refine runR_call (by simp only [go_sem, Nat.reduceEqDiff, Nat.reduceBEq, Nat.reduceAdd, Nat.reduceMul, Nat.reduceSub, Nat.reduceLeDiff, Nat.reduceLT, reduceIte, reduceCtorEq, Int.reduceToNat, Int.reduceLE, Int.reduceLT, Int.reduceNeg, Bool.not_not, and_self, Bool.and_eq_false_iff, Int.cast_ofNat_Int, Int.reduceAdd, Int.reduceSub, Int.reduceMul, Int.reduceEq, Int.reduceNe]) rfl (r11) (.inl rfl) trivial ?_
    cases hg : goodB gl with
    | false =>
      simp only [go_sem, Nat.reduceEqDiff, Nat.reduceBEq, Nat.reduceAdd, Nat.reduceMul, Nat.reduceSub, Nat.reduceLeDiff, Nat.reduceLT, reduceIte, reduceCtorEq, Int.reduceToNat, Int.reduceLE, Int.reduceLT, Int.reduceNeg, Bool.not_not, and_self, Bool.and_eq_false_iff, Int.cast_ofNat_Int, Int.reduceAdd, Int.reduceSub, Int.reduceMul, Int.reduceEq, Int.reduceNe]
      refine runR_callf (by simp only [go_sem, Nat.reduceEqDiff, Nat.reduceBEq, Nat.reduceAdd, Nat.reduceMul, Nat.reduceSub, Nat.reduceLeDiff, Nat.reduceLT, reduceIte, reduceCtorEq, Int.reduceToNat, Int.reduceLE, Int.reduceLT, Int.reduceNeg, Bool.not_not, and_self, Bool.and_eq_false_iff, Int.cast_ofNat_Int, Int.reduceAdd, Int.reduceSub, Int.reduceMul, Int.reduceEq, Int.reduceNe]) (by simp only [go_sem, Nat.reduceEqDiff, Nat.reduceBEq, Nat.reduceAdd, Nat.reduceMul, Nat.reduceSub, Nat.reduceLeDiff, Nat.reduceLT, reduceIte, reduceCtorEq, Int.reduceToNat, Int.reduceLE, Int.reduceLT, Int.reduceNeg, Bool.not_not, and_self, Bool.and_eq_false_iff, Int.cast_ofNat_Int, Int.reduceAdd, Int.reduceSub, Int.reduceMul, Int.reduceEq, Int.reduceNe] <;> rfl) (fn15) ⟨rfl, trivial⟩ trivial ?_
      simp only [go_sem, Nat.reduceEqDiff, Nat.reduceBEq, Nat.reduceAdd, Nat.reduceMul, Nat.reduceSub, Nat.reduceLeDiff, Nat.reduceLT, reduceIte, reduceCtorEq, Int.reduceToNat, Int.reduceLE, Int.reduceLT, Int.reduceNeg, Bool.not_not, and_self, Bool.and_eq_false_iff, Int.cast_ofNat_Int, Int.reduceAdd, Int.reduceSub, Int.reduceMul, Int.reduceEq, Int.reduceNe]
    | true =>
      have hgo := gsOk hg
      have hsz := hgo.size
      have hbr : buildR gl = nfaOf (gl.map cutS) := by unfold buildR; rw [hg]; rfl
      rw [hbr]
      have hgood := good_nfa (gl.map cutS)
      have hwl := fun s => hgo.ways s
      generalize nfaOf (gl.map cutS) = n at *
      have hw2 : ∀ s, (n.ways.getD s []).length ≤ 1000 := fun s => by have := hwl s; omega
      have rA := fn17 n a' hgood (by omega) hw2 (by omega)
      have rB := fn17 n b' hgood (by omega) hw2 (by omega)
      have rAB := fn17 n (a' ++ b') hgood (by omega) hw2 (by rw [List.length_append]; omega)
      have hxl := closeN_len n a'
      have hyl := closeN_len n b'
      have hzl := closeN_len n (a' ++ b')
      have rX := fn17 n (toI (closeN n a')) hgood (by omega) hw2 (by rw [toI_len]; omega)
      have rXY := fn17 n (toI (closeN n a') ++ toI (closeN n b')) hgood (by omega) hw2 (by rw [List.length_append, toI_len, toI_len]; omega)
      rw [close_again] at rX
      rw [close_both] at rXY
      have hsub : ∀ s ∈ closeN n a', s ∈ closeN n (a' ++ b') := fun s hs => close_left hs
      have hin : ∀ s : Nat, (s : Int) ∈ a' → s < n.size → s ∈ closeN n (a' ++ b') := fun s h1 h2 => close_in h1 h2
      have hris := closeN_ris n a'
      generalize closeN n a' = x at *
      generalize closeN n b' = y at *
      generalize closeN n (a' ++ b') = z at *
      simp only [go_sem, Nat.reduceEqDiff, Nat.reduceBEq, Nat.reduceAdd, Nat.reduceMul, Nat.reduceSub, Nat.reduceLeDiff, Nat.reduceLT, reduceIte, reduceCtorEq, Int.reduceToNat, Int.reduceLE, Int.reduceLT, Int.reduceNeg, Bool.not_not, and_self, Bool.and_eq_false_iff, Int.cast_ofNat_Int, Int.reduceAdd, Int.reduceSub, Int.reduceMul, Int.reduceEq, Int.reduceNe]
      refine runR_call (by simp only [go_sem, Nat.reduceEqDiff, Nat.reduceBEq, Nat.reduceAdd, Nat.reduceMul, Nat.reduceSub, Nat.reduceLeDiff, Nat.reduceLT, reduceIte, reduceCtorEq, Int.reduceToNat, Int.reduceLE, Int.reduceLT, Int.reduceNeg, Bool.not_not, and_self, Bool.and_eq_false_iff, Int.cast_ofNat_Int, Int.reduceAdd, Int.reduceSub, Int.reduceMul, Int.reduceEq, Int.reduceNe]) rfl (rA) (.inl rfl) trivial ?_
      refine runR_call (by simp only [go_sem, Nat.reduceEqDiff, Nat.reduceBEq, Nat.reduceAdd, Nat.reduceMul, Nat.reduceSub, Nat.reduceLeDiff, Nat.reduceLT, reduceIte, reduceCtorEq, Int.reduceToNat, Int.reduceLE, Int.reduceLT, Int.reduceNeg, Bool.not_not, and_self, Bool.and_eq_false_iff, Int.cast_ofNat_Int, Int.reduceAdd, Int.reduceSub, Int.reduceMul, Int.reduceEq, Int.reduceNe]) rfl (rB) (.inl rfl) trivial ?_
      simp only [go_sem, Nat.reduceEqDiff, Nat.reduceBEq, Nat.reduceAdd, Nat.reduceMul, Nat.reduceSub, Nat.reduceLeDiff, Nat.reduceLT, reduceIte, reduceCtorEq, Int.reduceToNat, Int.reduceLE, Int.reduceLT, Int.reduceNeg, Bool.not_not, and_self, Bool.and_eq_false_iff, Int.cast_ofNat_Int, Int.reduceAdd, Int.reduceSub, Int.reduceMul, Int.reduceEq, Int.reduceNe]
      have tk : List.take (a'.length + b'.length) (List.take a'.length (a'.map fun n => pI n) ++ b'.map fun n => pI n) = (a' ++ b').map fun n => pI n := by
        rw [List.take_of_length_le (show (a'.map fun n => pI n).length ≤ a'.length by simp), List.take_of_length_le (by simp), List.map_append]
      rw [tk]
      refine ⟨⟨wf_ints a', by omega, by omega⟩, ⟨wf_ints b', by omega, by omega⟩, ?_⟩
      refine runR_call (by simp only [go_sem, Nat.reduceEqDiff, Nat.reduceBEq, Nat.reduceAdd, Nat.reduceMul, Nat.reduceSub, Nat.reduceLeDiff, Nat.reduceLT, reduceIte, reduceCtorEq, Int.reduceToNat, Int.reduceLE, Int.reduceLT, Int.reduceNeg, Bool.not_not, and_self, Bool.and_eq_false_iff, Int.cast_ofNat_Int, Int.reduceAdd, Int.reduceSub, Int.reduceMul, Int.reduceEq, Int.reduceNe]) rfl (rAB) (.inl rfl) trivial ?_
      simp only [go_sem, Nat.reduceEqDiff, Nat.reduceBEq, Nat.reduceAdd, Nat.reduceMul, Nat.reduceSub, Nat.reduceLeDiff, Nat.reduceLT, reduceIte, reduceCtorEq, Int.reduceToNat, Int.reduceLE, Int.reduceLT, Int.reduceNeg, Bool.not_not, and_self, Bool.and_eq_false_iff, Int.cast_ofNat_Int, Int.reduceAdd, Int.reduceSub, Int.reduceMul, Int.reduceEq, Int.reduceNe]
      refine runR_call (by simp only [go_sem, Nat.reduceEqDiff, Nat.reduceBEq, Nat.reduceAdd, Nat.reduceMul, Nat.reduceSub, Nat.reduceLeDiff, Nat.reduceLT, reduceIte, reduceCtorEq, Int.reduceToNat, Int.reduceLE, Int.reduceLT, Int.reduceNeg, Bool.not_not, and_self, Bool.and_eq_false_iff, Int.cast_ofNat_Int, Int.reduceAdd, Int.reduceSub, Int.reduceMul, Int.reduceEq, Int.reduceNe]) rfl (rX) (.inl rfl) trivial ?_
      simp only [go_sem, Nat.reduceEqDiff, Nat.reduceBEq, Nat.reduceAdd, Nat.reduceMul, Nat.reduceSub, Nat.reduceLeDiff, Nat.reduceLT, reduceIte, reduceCtorEq, Int.reduceToNat, Int.reduceLE, Int.reduceLT, Int.reduceNeg, Bool.not_not, and_self, Bool.and_eq_false_iff, Int.cast_ofNat_Int, Int.reduceAdd, Int.reduceSub, Int.reduceMul, Int.reduceEq, Int.reduceNe]
      refine runR_callf (by simp only [go_sem, Nat.reduceEqDiff, Nat.reduceBEq, Nat.reduceAdd, Nat.reduceMul, Nat.reduceSub, Nat.reduceLeDiff, Nat.reduceLT, reduceIte, reduceCtorEq, Int.reduceToNat, Int.reduceLE, Int.reduceLT, Int.reduceNeg, Bool.not_not, and_self, Bool.and_eq_false_iff, Int.cast_ofNat_Int, Int.reduceAdd, Int.reduceSub, Int.reduceMul, Int.reduceEq, Int.reduceNe]) (by simp only [go_sem, Nat.reduceEqDiff, Nat.reduceBEq, Nat.reduceAdd, Nat.reduceMul, Nat.reduceSub, Nat.reduceLeDiff, Nat.reduceLT, reduceIte, reduceCtorEq, Int.reduceToNat, Int.reduceLE, Int.reduceLT, Int.reduceNeg, Bool.not_not, and_self, Bool.and_eq_false_iff, Int.cast_ofNat_Int, Int.reduceAdd, Int.reduceSub, Int.reduceMul, Int.reduceEq, Int.reduceNe] <;> rfl) (fn16t (toI x) (by rw [toI_len]; omega)) ⟨rfl, trivial⟩ trivial ?_
      simp only [go_sem, Nat.reduceEqDiff, Nat.reduceBEq, Nat.reduceAdd, Nat.reduceMul, Nat.reduceSub, Nat.reduceLeDiff, Nat.reduceLT, reduceIte, reduceCtorEq, Int.reduceToNat, Int.reduceLE, Int.reduceLT, Int.reduceNeg, Bool.not_not, and_self, Bool.and_eq_false_iff, Int.cast_ofNat_Int, Int.reduceAdd, Int.reduceSub, Int.reduceMul, Int.reduceEq, Int.reduceNe, runR_appig]
      have tk2 : List.take ((toI x).length + (toI y).length) (List.take (toI x).length ((toI x).map fun n => pI n) ++ (toI y).map fun n => pI n) = (toI x ++ toI y).map fun n => pI n := by
        rw [List.take_of_length_le (show ((toI x).map fun n => pI n).length ≤ (toI x).length by simp), List.take_of_length_le (by simp), List.map_append]
      rw [tk2]
      have hxt := toI_len x
      have hyt := toI_len y
      have hzt := toI_len z
      refine ⟨⟨wf_ints (toI x), by omega, by omega⟩, ⟨wf_ints (toI y), by omega, by omega⟩, ?_⟩
      refine runR_callg (by simp only [go_sem, Nat.reduceEqDiff, Nat.reduceBEq, Nat.reduceAdd, Nat.reduceMul, Nat.reduceSub, Nat.reduceLeDiff, Nat.reduceLT, reduceIte, reduceCtorEq, Int.reduceToNat, Int.reduceLE, Int.reduceLT, Int.reduceNeg, Bool.not_not, and_self, Bool.and_eq_false_iff, Int.cast_ofNat_Int, Int.reduceAdd, Int.reduceSub, Int.reduceMul, Int.reduceEq, Int.reduceNe]) (by simp only [go_sem, Nat.reduceEqDiff, Nat.reduceBEq, Nat.reduceAdd, Nat.reduceMul, Nat.reduceSub, Nat.reduceLeDiff, Nat.reduceLT, reduceIte, reduceCtorEq, Int.reduceToNat, Int.reduceLE, Int.reduceLT, Int.reduceNeg, Bool.not_not, and_self, Bool.and_eq_false_iff, Int.cast_ofNat_Int, Int.reduceAdd, Int.reduceSub, Int.reduceMul, Int.reduceEq, Int.reduceNe]) rfl (fun _ => rXY) (.inl rfl) ?_
      simp only [go_sem, Nat.reduceEqDiff, Nat.reduceBEq, Nat.reduceAdd, Nat.reduceMul, Nat.reduceSub, Nat.reduceLeDiff, Nat.reduceLT, reduceIte, reduceCtorEq, Int.reduceToNat, Int.reduceLE, Int.reduceLT, Int.reduceNeg, Bool.not_not, and_self, Bool.and_eq_false_iff, Int.cast_ofNat_Int, Int.reduceAdd, Int.reduceSub, Int.reduceMul, Int.reduceEq, Int.reduceNe]
      refine runR_callgf (by simp only [go_sem, Nat.reduceEqDiff, Nat.reduceBEq, Nat.reduceAdd, Nat.reduceMul, Nat.reduceSub, Nat.reduceLeDiff, Nat.reduceLT, reduceIte, reduceCtorEq, Int.reduceToNat, Int.reduceLE, Int.reduceLT, Int.reduceNeg, Bool.not_not, and_self, Bool.and_eq_false_iff, Int.cast_ofNat_Int, Int.reduceAdd, Int.reduceSub, Int.reduceMul, Int.reduceEq, Int.reduceNe]) (by simp only [go_sem, Nat.reduceEqDiff, Nat.reduceBEq, Nat.reduceAdd, Nat.reduceMul, Nat.reduceSub, Nat.reduceLeDiff, Nat.reduceLT, reduceIte, reduceCtorEq, Int.reduceToNat, Int.reduceLE, Int.reduceLT, Int.reduceNeg, Bool.not_not, and_self, Bool.and_eq_false_iff, Int.cast_ofNat_Int, Int.reduceAdd, Int.reduceSub, Int.reduceMul, Int.reduceEq, Int.reduceNe]) (by simp only [go_sem, Nat.reduceEqDiff, Nat.reduceBEq, Nat.reduceAdd, Nat.reduceMul, Nat.reduceSub, Nat.reduceLeDiff, Nat.reduceLT, reduceIte, reduceCtorEq, Int.reduceToNat, Int.reduceLE, Int.reduceLT, Int.reduceNeg, Bool.not_not, and_self, Bool.and_eq_false_iff, Int.cast_ofNat_Int, Int.reduceAdd, Int.reduceSub, Int.reduceMul, Int.reduceEq, Int.reduceNe] <;> rfl) (fun _ => fn16t (toI z) (by omega)) rfl ?_
      simp only [go_sem, Nat.reduceEqDiff, Nat.reduceBEq, Nat.reduceAdd, Nat.reduceMul, Nat.reduceSub, Nat.reduceLeDiff, Nat.reduceLT, reduceIte, reduceCtorEq, Int.reduceToNat, Int.reduceLE, Int.reduceLT, Int.reduceNeg, Bool.not_not, and_self, Bool.and_eq_false_iff, Int.cast_ofNat_Int, Int.reduceAdd, Int.reduceSub, Int.reduceMul, Int.reduceEq, Int.reduceNe]
      refine run_loopN (T := Nat × List Int) [1, 7, 9, 11, 12, 13] [67]
        (fun t => ⟨[(1, .pv (ints a')), (7, .pv (ptN n)), (9, .pv (pNs x)), (11, .pv (pNs z)), (12, .mp 67), (13, .pv (pI t.1))], [(67, .mp (t.2.map enZ))]⟩)
        (fun t => t.1 ≤ z.length ∧ ∀ j, j < t.1 → ((z.getD j 0 : Nat) : Int) ∈ t.2) (fun t => z.length - t.1) (0, []) rfl ⟨Nat.zero_le _, fun j hj => by simp at hj⟩ ?_
      rintro ⟨i, ks⟩ ⟨hi, hks⟩
      simp only at hi hks
      by_cases hlt : i < z.length
      · have hzi : (toI z)[i]'(by omega) = (z[i] : Int) := by simp [toI]
        have hgz : z.getD i 0 = z[i] := by simp [List.getD_eq_getElem?_getD, hlt]
        have hzb : i < 9223372036854775807 := by omega
        simp only [go_sem, Nat.reduceEqDiff, Nat.reduceBEq, Nat.reduceAdd, Nat.reduceMul, Nat.reduceSub, Nat.reduceLeDiff, Nat.reduceLT, reduceIte, reduceCtorEq, Int.reduceToNat, Int.reduceLE, Int.reduceLT, Int.reduceNeg, Bool.not_not, and_self, Bool.and_eq_false_iff, Int.cast_ofNat_Int, Int.reduceAdd, Int.reduceSub, Int.reduceMul, Int.reduceEq, Int.reduceNe, B6_0, hzt, show (i : Int) < (z.length : Int) by omega, wf_ints, getD_map (show i < (toI z).length by omega), hzi, mput_Z, like_Z]
        refine ⟨⟨by omega, by omega⟩, (i + 1, addZ ks (z[i] : Nat)), rfl, ⟨hlt, fun j hj => ?_⟩, by simp only; omega⟩
        simp only at hj ⊢
        rcases Nat.lt_or_ge j i with h1 | h1
        · exact addZ_mem.2 (.inl (hks j h1))
        · obtain rfl : j = i := by omega
          rw [hgz]
          exact addZ_mem.2 (.inr rfl)
      · have hie : i = z.length := by omega
        subst hie
        have hall : ∀ s ∈ z, (s : Int) ∈ ks := fun s hs => by
          obtain ⟨j, hj, rfl⟩ := List.mem_iff_getElem.1 hs
          have := hks j hj
          simpa [List.getD_eq_getElem?_getD, hj] using this
        have hlk : ∀ s ∈ z, lkp (pI (s : Int)) (ks.map enZ) = some (pB true) := fun s hs => by rw [lkp_Z, if_pos (hall s hs)]
        simp only [go_sem, Nat.reduceEqDiff, Nat.reduceBEq, Nat.reduceAdd, Nat.reduceMul, Nat.reduceSub, Nat.reduceLeDiff, Nat.reduceLT, reduceIte, reduceCtorEq, Int.reduceToNat, Int.reduceLE, Int.reduceLT, Int.reduceNeg, Bool.not_not, and_self, Bool.and_eq_false_iff, Int.cast_ofNat_Int, Int.reduceAdd, Int.reduceSub, Int.reduceMul, Int.reduceEq, Int.reduceNe, B6_0, R6_0, hzt, show ¬ (z.length : Int) < (z.length : Int) by omega]
        refine run_loopN (T := Nat) [1, 7, 9, 12, 14] [67]
          (fun i => ⟨[(1, .pv (ints a')), (7, .pv (ptN n)), (9, .pv (pNs x)), (12, .mp 67), (14, .pv (pI i))], [(67, .mp (ks.map enZ))]⟩)
          (fun i => i ≤ x.length) (fun i => x.length - i) 0 rfl (Nat.zero_le _) ?_
        intro i hi2
        by_cases hix : i < x.length
        · have hxi : (toI x)[i]'(by omega) = (x[i] : Int) := by simp [toI]
          have hl1 := hlk x[i] (hsub _ (List.getElem_mem hix))
          cases i with
          | zero =>
            simp only [go_sem, Nat.reduceEqDiff, Nat.reduceBEq, Nat.reduceAdd, Nat.reduceMul, Nat.reduceSub, Nat.reduceLeDiff, Nat.reduceLT, reduceIte, reduceCtorEq, Int.reduceToNat, Int.reduceLE, Int.reduceLT, Int.reduceNeg, Bool.not_not, and_self, Bool.and_eq_false_iff, Int.cast_ofNat_Int, Int.reduceAdd, Int.reduceSub, Int.reduceMul, Int.reduceEq, Int.reduceNe, B6_1, hxt, show ((0 : Nat) : Int) < (x.length : Int) by omega, wf_ints, getD_map (show 0 < (toI x).length by omega), hxi, hl1, like_Z, show ¬ (0 : Int) < ((0 : Nat) : Int) by omega]
            exact ⟨fun _ => ⟨by omega, 1, rfl, hix, by omega⟩, fun h => absurd (show (0 : Int) < (x.length : Int) by omega) h⟩
          | succ j =>
            have hxj : (toI x)[j]'(by omega) = (x[j] : Int) := by simp [toI]
            have hjl := List.pairwise_iff_getElem.1 hris j (j + 1) (by omega) hix (by omega)
            simp only [go_sem, Nat.reduceEqDiff, Nat.reduceBEq, Nat.reduceAdd, Nat.reduceMul, Nat.reduceSub, Nat.reduceLeDiff, Nat.reduceLT, reduceIte, reduceCtorEq, Int.reduceToNat, Int.reduceLE, Int.reduceLT, Int.reduceNeg, Bool.not_not, and_self, Bool.and_eq_false_iff, Int.cast_ofNat_Int, Int.reduceAdd, Int.reduceSub, Int.reduceMul, Int.reduceEq, Int.reduceNe, B6_1, hxt, show ((j + 1 : Nat) : Int) < (x.length : Int) by omega, wf_ints, getD_map (show j + 1 < (toI x).length by omega), hxi, hl1, like_Z, show (0 : Int) < ((j + 1 : Nat) : Int) by omega, show ((j + 1 : Nat) : Int) - 1 = (j : Int) by omega, show (j : Int) < (x.length : Int) by omega, getD_map (show j < (toI x).length by omega), hxj, show ¬ ((x[j + 1] : Nat) : Int) ≤ ((x[j] : Nat) : Int) by omega]
            exact ⟨⟨by omega, by omega⟩, ⟨by omega, by omega⟩, j + 1 + 1, rfl, hix, by omega⟩
        · simp only [go_sem, Nat.reduceEqDiff, Nat.reduceBEq, Nat.reduceAdd, Nat.reduceMul, Nat.reduceSub, Nat.reduceLeDiff, Nat.reduceLT, reduceIte, reduceCtorEq, Int.reduceToNat, Int.reduceLE, Int.reduceLT, Int.reduceNeg, Bool.not_not, and_self, Bool.and_eq_false_iff, Int.cast_ofNat_Int, Int.reduceAdd, Int.reduceSub, Int.reduceMul, Int.reduceEq, Int.reduceNe, B6_1, R6_1, hxt, show ¬ (i : Int) < (x.length : Int) by omega]
          refine run_loopN (T := Nat) [1, 7, 12, 15] [67]
            (fun i => ⟨[(1, .pv (ints a')), (7, .pv (ptN n)), (12, .mp 67), (15, .pv (pI i))], [(67, .mp (ks.map enZ))]⟩)
            (fun i => i ≤ a'.length) (fun i => a'.length - i) 0 rfl (Nat.zero_le _) ?_
          intro i hi3
          by_cases hia : i < a'.length
          · obtain ⟨v, hv⟩ : ∃ v, v = a'[i] := ⟨_, rfl⟩
            have hvm : v ∈ a' := by rw [hv]; exact List.getElem_mem hia
            by_cases hv0 : 0 ≤ v
            · by_cases hvs : v < (n.ways.length : Int)
              · obtain ⟨s, rfl⟩ := Int.eq_ofNat_of_zero_le hv0
                have hl2 := hlk s (hin s hvm (by have : n.ways.length = n.size := rfl; omega))
                simp only [go_sem, Nat.reduceEqDiff, Nat.reduceBEq, Nat.reduceAdd, Nat.reduceMul, Nat.reduceSub, Nat.reduceLeDiff, Nat.reduceLT, reduceIte, reduceCtorEq, Int.reduceToNat, Int.reduceLE, Int.reduceLT, Int.reduceNeg, Bool.not_not, and_self, Bool.and_eq_false_iff, Int.cast_ofNat_Int, Int.reduceAdd, Int.reduceSub, Int.reduceMul, Int.reduceEq, Int.reduceNe, B6_2, show (i : Int) < (a'.length : Int) by omega, wf_ints, getD_map hia, ← hv, hl2, like_Z, hvs, show (0 : Int) ≤ (s : Int) by omega]
                exact ⟨⟨by omega, by omega⟩, i + 1, rfl, hia, by omega⟩
              · simp only [go_sem, Nat.reduceEqDiff, Nat.reduceBEq, Nat.reduceAdd, Nat.reduceMul, Nat.reduceSub, Nat.reduceLeDiff, Nat.reduceLT, reduceIte, reduceCtorEq, Int.reduceToNat, Int.reduceLE, Int.reduceLT, Int.reduceNeg, Bool.not_not, and_self, Bool.and_eq_false_iff, Int.cast_ofNat_Int, Int.reduceAdd, Int.reduceSub, Int.reduceMul, Int.reduceEq, Int.reduceNe, B6_2, show (i : Int) < (a'.length : Int) by omega, wf_ints, getD_map hia, ← hv, like_Z, hvs, hv0]
                exact ⟨⟨by omega, by omega⟩, i + 1, rfl, hia, by omega⟩
            · simp only [go_sem, Nat.reduceEqDiff, Nat.reduceBEq, Nat.reduceAdd, Nat.reduceMul, Nat.reduceSub, Nat.reduceLeDiff, Nat.reduceLT, reduceIte, reduceCtorEq, Int.reduceToNat, Int.reduceLE, Int.reduceLT, Int.reduceNeg, Bool.not_not, and_self, Bool.and_eq_false_iff, Int.cast_ofNat_Int, Int.reduceAdd, Int.reduceSub, Int.reduceMul, Int.reduceEq, Int.reduceNe, B6_2, show (i : Int) < (a'.length : Int) by omega, wf_ints, getD_map hia, ← hv, like_Z, hv0]
              exact ⟨⟨by omega, by omega⟩, i + 1, rfl, hia, by omega⟩
          · simp only [go_sem, Nat.reduceEqDiff, Nat.reduceBEq, Nat.reduceAdd, Nat.reduceMul, Nat.reduceSub, Nat.reduceLeDiff, Nat.reduceLT, reduceIte, reduceCtorEq, Int.reduceToNat, Int.reduceLE, Int.reduceLT, Int.reduceNeg, Bool.not_not, and_self, Bool.and_eq_false_iff, Int.cast_ofNat_Int, Int.reduceAdd, Int.reduceSub, Int.reduceMul, Int.reduceEq, Int.reduceNe, B6_2, R6_2, show ¬ (i : Int) < (a'.length : Int) by omega]
            refine runR_callf (by simp only [go_sem, Nat.reduceEqDiff, Nat.reduceBEq, Nat.reduceAdd, Nat.reduceMul, Nat.reduceSub, Nat.reduceLeDiff, Nat.reduceLT, reduceIte, reduceCtorEq, Int.reduceToNat, Int.reduceLE, Int.reduceLT, Int.reduceNeg, Bool.not_not, and_self, Bool.and_eq_false_iff, Int.cast_ofNat_Int, Int.reduceAdd, Int.reduceSub, Int.reduceMul, Int.reduceEq, Int.reduceNe]) (by simp only [go_sem, Nat.reduceEqDiff, Nat.reduceBEq, Nat.reduceAdd, Nat.reduceMul, Nat.reduceSub, Nat.reduceLeDiff, Nat.reduceLT, reduceIte, reduceCtorEq, Int.reduceToNat, Int.reduceLE, Int.reduceLT, Int.reduceNeg, Bool.not_not, and_self, Bool.and_eq_false_iff, Int.cast_ofNat_Int, Int.reduceAdd, Int.reduceSub, Int.reduceMul, Int.reduceEq, Int.reduceNe] <;> rfl) (fn15) ⟨rfl, trivial⟩ trivial ?_
            simp only [go_sem, Nat.reduceEqDiff, Nat.reduceBEq, Nat.reduceAdd, Nat.reduceMul, Nat.reduceSub, Nat.reduceLeDiff, Nat.reduceLT, reduceIte, reduceCtorEq, Int.reduceToNat, Int.reduceLE, Int.reduceLT, Int.reduceNeg, Bool.not_not, and_self, Bool.and_eq_false_iff, Int.cast_ofNat_Int, Int.reduceAdd, Int.reduceSub, Int.reduceMul, Int.reduceEq, Int.reduceNe]
end Go.Vc
