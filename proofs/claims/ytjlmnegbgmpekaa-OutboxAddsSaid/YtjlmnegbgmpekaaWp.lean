/- A part of the proofs of the seat Ytjlmnegbgmpekaa: the contracts of functions, each proved out of its code. -/
import Derived.Test.YtjlmnegbgmpekaaVh
import Derived.Test.YtjlmnegbgmpekaaProg
import Derived.Test.YtjlmnegbgmpekaaWq
import Derived.Test.YtjlmnegbgmpekaaWk
import Derived.Test.YtjlmnegbgmpekaaWd
namespace Go.Vc
open Go.Proofs
set_option maxRecDepth 100000

/-- 'api.Out,uint64]' -/
def B86_0 : MC := (.seq (.seq (.reg [⟨(some 15), none, (.q (.mv (.t 9)))⟩, ⟨(some 16), none, (.q (.mv (.t 10)))⟩, ⟨(some 17), none, (.q (.bin .lss (.t 15) (.t 16)))⟩] [] [0, 1, 2, 8, 9, 10, 17] [])
  (.cond (.t 17) .skip (.exit 0))) (.block 1 (.seq (.reg [⟨(some 18), none, (.q (.mv (.t 9)))⟩, ⟨(some 19), none, (.q (.mv (.t 10)))⟩, ⟨(some 20), none, (.q (.bin .add (.t 18) (.t 19)))⟩, ⟨(some 21),
  none, (.q (.conv .u64 (.t 20)))⟩, ⟨(some 22), none, (.q (.shf false (.t 21) (.c (.int .u64 1))))⟩, ⟨(some 23), none, (.q (.conv .i64 (.t 22)))⟩, ⟨(some 11), none, (.q (.mv (.t 23)))⟩] [] [0, 1, 2,
  8, 9, 10, 11] []) (.seq (.reg [⟨(some 24), none, (.q (.mv (.t 2)))⟩, ⟨(some 25), none, (.q (.mv (.t 0)))⟩, ⟨(some 26), none, (.q (.mv (.t 11)))⟩, ⟨(some 27), none, (.q (.ia (.t 25) (.t 26) 5))⟩,
  ⟨(some 28), none, (.q (.ld (.t 27) 5 true))⟩, ⟨(some 29), none, (.q (.mv (.t 1)))⟩, ⟨(some 30), none, (.call (.t 24) [(.t 28), (.t 29)])⟩, ⟨(some 31), none, (.q (.bin .lss (.t 30)
  (.c (.int .i64 0))))⟩] [] [0, 1, 2, 8, 9, 10, 11, 31] [1030]) (.cond (.t 31) (.reg [⟨(some 32), none, (.q (.mv (.t 11)))⟩, ⟨(some 33), none, (.q (.bin .add (.t 32) (.c (.int .i64 1))))⟩, ⟨(some 9),
  none, (.q (.mv (.t 33)))⟩] [] [0, 1, 2, 8, 9, 10] []) (.reg [⟨(some 34), none, (.q (.mv (.t 11)))⟩, ⟨(some 10), none, (.q (.mv (.t 34)))⟩] [] [0, 1, 2, 8, 9, 10] []))))))
def R86_0 : MC := (.seq (.reg [⟨(some 35), none, (.q (.mv (.t 9)))⟩, ⟨(some 36), none, (.q (.mv (.t 9)))⟩, ⟨(some 37), none, (.q (.mv (.t 8)))⟩, ⟨(some 38), none, (.q (.bin .lss (.t 36) (.t 37)))⟩,
  ⟨(some 39), none, (.q (.mv (.t 38)))⟩, ⟨(some 40), (some (39, true)), (.q (.mv (.t 2)))⟩, ⟨(some 41), (some (39, true)), (.q (.mv (.t 0)))⟩, ⟨(some 42), (some (39, true)), (.q (.mv (.t 9)))⟩,
  ⟨(some 43), (some (39, true)), (.q (.ia (.t 41) (.t 42) 5))⟩, ⟨(some 44), (some (39, true)), (.q (.ld (.t 43) 5 true))⟩, ⟨(some 45), (some (39, true)), (.q (.mv (.t 1)))⟩, ⟨(some 46), (some (39,
  true)), (.call (.t 40) [(.t 44), (.t 45)])⟩, ⟨(some 47), (some (39, true)), (.q (.bin .eql (.t 46) (.c (.int .i64 0))))⟩, ⟨(some 48), none, (.q (.pick (.t 39) (.t 47) (.c (.bool false))))⟩,
  ⟨(some 6), none, (.q (.mv (.t 35)))⟩, ⟨(some 7), none, (.q (.mv (.t 48)))⟩] [] [6, 7] [1046]) .ret)
def M86 : MC := (.seq (.reg [⟨(some 6), none, (.q (.mv (.c (.int .i64 0))))⟩, ⟨(some 7), none, (.q (.mv (.c (.bool false))))⟩] [] [0, 1, 2] []) (.seq (.reg [⟨(some 12), none, (.q (.mv (.t 0)))⟩,
  ⟨(some 13), none, (.q (.len (.t 12) false))⟩, ⟨(some 8), none, (.q (.mv (.t 13)))⟩] [] [0, 1, 2, 8] []) (.seq (.reg [⟨(some 14), none, (.q (.mv (.t 8)))⟩, ⟨(some 9), none,
  (.q (.mv (.c (.int .i64 0))))⟩, ⟨(some 10), none, (.q (.mv (.t 14)))⟩] [] [0, 1, 2, 8, 9, 10] []) (.seq (.block 0 (.loop B86_0)) R86_0))))
theorem mc86 : ofCode Try.prog [] Try.f86.ntmps [(0, ⟨[0, 1, 2], [], [], 0, [], none⟩),
    (1, ⟨[0, 1, 2, 8], [], [], 0, [], none⟩),
    (2, ⟨[0, 1, 2, 8, 9, 10], [], [], 0, [], none⟩),
    (3, ⟨[0, 1, 2, 8, 9, 10, 17], [], [], 0, [], none⟩),
    (4, ⟨[0, 1, 2, 8, 9, 10, 11], [], [], 0, [], none⟩),
    (5, ⟨[0, 1, 2, 8, 9, 10, 11, 31], [1030], [], 0, [], none⟩),
    (6, ⟨[0, 1, 2, 8, 9, 10], [], [], 0, [], none⟩),
    (7, ⟨[0, 1, 2, 8, 9, 10], [], [], 0, [], none⟩),
    (8, ⟨[6, 7], [1046], [], 0, [], none⟩)] (Try.f86.body.getD .skip) = some M86 := by kernel_rfl
theorem Run86 {args : List PV} {v : AV} {rs : List (Nat × List PV)} (ids : List Bool) (h : args.length ≤ 49) (hv : run Try.prog (retK [RV.tmp 6, RV.tmp 7] ids v rs) M86 [] ⟨entry 0 args, []⟩) : Fn Try.prog 86 args v rs :=
  Fn_run ids (by kernel_rfl) Try.func86 (by decide) rfl mc86 (by kernel_rfl) (by rw [Try.ntmps86]; exact h) (by rw [Try.ntmps86]; decide) hv

/-- 'outbox.Again.1' -/
def M87 : MC := (.seq (.reg [⟨(some 2), none, (.box (.t 0))⟩, ⟨(some 4), none, (.q (.mv (.c (.int .i64 0))))⟩] [] [1, 2] [2]) (.seq (.reg [⟨(some 5), none, (.q (.fa (.t 2) 0))⟩, ⟨(some 6), none,
  (.q (.ld (.t 5) 1 false))⟩, ⟨(some 7), none, (.q (.mv (.t 1)))⟩, ⟨(some 8), none, (.call (.f 79) [(.t 6), (.t 7)])⟩, ⟨(some 4), none, (.q (.mv (.t 8)))⟩] [] [4] [1008]) .ret))
theorem mc87 : ofCode Try.prog [] Try.f87.ntmps [(0, ⟨[1, 2], [2], [], 0, [], none⟩),
    (1, ⟨[4], [1008], [], 0, [], none⟩)] (Try.f87.body.getD .skip) = some M87 := by kernel_rfl
theorem Run87 {args : List PV} {v : AV} {rs : List (Nat × List PV)} (ids : List Bool) (h : args.length ≤ 9) (hv : run Try.prog (retK [RV.tmp 4] ids v rs) M87 [] ⟨entry 0 args, []⟩) : Fn Try.prog 87 args v rs :=
  Fn_run ids (by kernel_rfl) Try.func87 (by decide) rfl mc87 (by kernel_rfl) (by rw [Try.ntmps87]; exact h) (by rw [Try.ntmps87]; decide) hv

/-- 'outbox.Again' -/
def M47 : MC := (.seq (.reg [⟨(some 4), none, (.box (.t 1))⟩, ⟨(some 6), none, (.q (.mv .nil))⟩, ⟨(some 7), none, (.q (.mv (.c (.int .i64 0))))⟩] [] [0, 2, 4] [4]) (.seq (.seq (.reg [⟨(some 10), none,
  (.q (.mv (.t 0)))⟩, ⟨(some 11), none, (.call (.f 33) [(.t 10)])⟩, ⟨(some 12), none, (.q (.bin .neq (.t 11) (.c (.int .i64 0))))⟩, ⟨(some 13), none, (.q (.mv (.t 12)))⟩, ⟨(some 14), (some (13,
  false)), (.q (.mv (.t 2)))⟩, ⟨(some 15), (some (13, false)), (.call (.f 73) [(.t 14)])⟩, ⟨(some 16), (some (13, false)), (.q (.not (.t 15)))⟩, ⟨(some 17), none, (.q (.pick (.t 13) (.c (.bool true))
  (.t 16)))⟩, ⟨(some 18), none, (.q (.mv (.t 17)))⟩, ⟨(some 19), (some (18, false)), (.q (.ld (.t 4) 5 true))⟩, ⟨(some 20), (some (18, false)), (.call (.f 71) [(.t 19)])⟩, ⟨(some 21), (some (18,
  false)), (.q (.not (.t 20)))⟩, ⟨(some 22), none, (.q (.pick (.t 18) (.c (.bool true)) (.t 21)))⟩] [] [0, 2, 4, 22] [4, 1011, 1015, 1020]) (.cond (.t 22) (.seq (.reg [⟨(some 6), none,
  (.q (.mv .nil))⟩, ⟨(some 7), none, (.q (.mv (.c (.int .i64 1))))⟩] [] [6, 7] [1038, 1042, 1046]) .ret) .skip)) (.seq (.seq (.reg [⟨(some 23), none, (.q (.mv (.t 0)))⟩, ⟨(some 24), none,
  (.q (.fa (.t 4) 0))⟩, ⟨(some 25), none, (.q (.ld (.t 24) 1 false))⟩, ⟨(some 26), none, (.call (.f 24) [(.t 23), (.t 25)])⟩, ⟨(some 27), none, (.q (.bin .geq (.t 26) (.c (.int .i64 0))))⟩] [] [0, 2,
  4, 27] [4, 1026]) (.cond (.t 27) (.seq (.reg [⟨(some 6), none, (.q (.mv .nil))⟩, ⟨(some 7), none, (.q (.mv (.c (.int .i64 5))))⟩] [] [6, 7] [1038, 1042, 1046]) .ret) .skip))
  (.seq (.seq (.reg [⟨(some 28), none, (.q (.mv (.t 0)))⟩, ⟨(some 29), none, (.q (.len (.t 28) false))⟩, ⟨(some 30), none, (.q (.bin .geq (.t 29) (.c (.int .i64 100))))⟩] [] [0, 2, 4, 30] [4])
  (.cond (.t 30) (.seq (.reg [⟨(some 6), none, (.q (.mv .nil))⟩, ⟨(some 7), none, (.q (.mv (.c (.int .i64 6))))⟩] [] [6, 7] [1038, 1042, 1046]) .ret) .skip)) (.seq (.reg [⟨(some 31), none,
  (.q (.mv (.t 2)))⟩, ⟨(some 32), none, (.q (.fa (.t 4) 3))⟩, ⟨none, none, (.st (.t 32) (.c (.int .i64 0)) 1)⟩, ⟨(some 33), none, (.q (.fa (.t 4) 4))⟩, ⟨none, none, (.st (.t 33) (.t 31) 1)⟩] [] [0,
  4] [4]) (.seq (.reg [⟨(some 35), none, (.q (.mv (.t 0)))⟩, ⟨(some 36), none, (.q (.fa (.t 4) 0))⟩, ⟨(some 37), none, (.q (.ld (.t 36) 1 false))⟩, ⟨(some 38), none, (.call (.f 86) [(.t 35), (.t 37),
  (.f 87)])⟩, ⟨(some 34), none, (.q (.mv (.t 38)))⟩, ⟨(some 39), none, (.q (.ext (.t 34) 0))⟩, ⟨(some 40), none, (.q (.ext (.t 34) 1))⟩, ⟨(some 8), none, (.q (.mv (.t 39)))⟩, ⟨(some 9), none,
  (.q (.mv (.t 40)))⟩] [] [0, 4, 8] [4, 1038, 1046]) (.seq (.seq (.grp [1042] [⟨41, none, (.q (.mv (.t 0))), [0], []⟩, ⟨42, none, (.call (.f 72) [(.t 41)]), [41], []⟩, ⟨43, none, (.q (.mv (.t 8))),
  [8], [1038, 1046]⟩, ⟨44, none, (.q (.ld (.t 4) 5 true)), [4], [4]⟩, ⟨45, none, (.lits [(.t 44)] 5), [44], []⟩] [6, 7, 42, 43, 45, 46] [1038, 1042, 1046]) (.reg [⟨(some 46), none, (.calls (.f 88)
  [(.t 42), (.t 43), (.t 45)])⟩, ⟨(some 6), none, (.q (.mv (.t 46)))⟩, ⟨(some 7), none, (.q (.mv (.c (.int .i64 0))))⟩] [] [6, 7] [1038, 1042, 1046])) .ret)))))))
theorem mc47 : ofCode Try.prog [46] Try.f47.ntmps [(0, ⟨[0, 2, 4], [4], [], 0, [], none⟩),
    (1, ⟨[0, 2, 4, 22], [4, 1011, 1015, 1020], [], 0, [], none⟩),
    (2, ⟨[6, 7], [1038, 1042, 1046], [], 0, [], none⟩),
    (3, ⟨[0, 2, 4, 27], [4, 1026], [], 0, [], none⟩),
    (4, ⟨[6, 7], [1038, 1042, 1046], [], 0, [], none⟩),
    (5, ⟨[0, 2, 4, 30], [4], [], 0, [], none⟩),
    (6, ⟨[6, 7], [1038, 1042, 1046], [], 0, [], none⟩),
    (7, ⟨[0, 4], [4], [], 0, [], none⟩),
    (8, ⟨[0, 4, 8], [4, 1038, 1046], [], 0, [], none⟩),
    (9, ⟨[6, 7], [1038, 1042, 1046], [(5, 0), (6, 192), (7, 128)], 223, [], some ⟨[1042], [(0, [0], []), (1, [41], []), (2, [8], [1038, 1046]), (3, [4], [4]), (4, [44], [])], [6, 7, 42, 43, 45, 46], [1038, 1042, 1046]⟩⟩)] (Try.f47.body.getD .skip) = some M47 := by kernel_rfl
theorem Run47 {args : List PV} {v : AV} {rs : List (Nat × List PV)} (ids : List Bool) (h : args.length ≤ 47) (hv : run Try.prog (retK [RV.tmp 6, RV.tmp 7] ids v rs) M47 [] ⟨entry 0 args, []⟩) : Fn Try.prog 47 args v rs :=
  Fn_run ids (by kernel_rfl) Try.func47 (by decide) rfl mc47 (by kernel_rfl) (by rw [Try.ntmps47]; exact h) (by rw [Try.ntmps47]; decide) hv

/-- 'trystref15.Add' -/
def B48_0 : MC := (.seq (.seq (.reg [⟨(some 15), none, (.q (.mv (.t 6)))⟩, ⟨(some 16), none, (.q (.mv (.t 0)))⟩, ⟨(some 17), none, (.q (.len (.t 16) false))⟩, ⟨(some 18), none, (.q (.bin .lss (.t 15)
  (.t 17)))⟩] [] [0, 3, 6, 18] [3]) (.cond (.t 18) .skip (.exit 0))) (.seq (.block 1 (.seq (.reg [⟨(some 21), none, (.q (.mv (.t 0)))⟩, ⟨(some 22), none, (.q (.mv (.t 6)))⟩, ⟨(some 23), none,
  (.q (.ia (.t 21) (.t 22) 5))⟩, ⟨(some 24), none, (.q (.fa (.t 23) 0))⟩, ⟨(some 25), none, (.q (.ld (.t 24) 1 false))⟩, ⟨(some 26), none, (.q (.fa (.t 3) 0))⟩, ⟨(some 27), none, (.q (.ld (.t 26)
  1 false))⟩, ⟨(some 28), none, (.q (.bin .geq (.t 25) (.t 27)))⟩] [] [0, 3, 6, 28] [3]) (.cond (.t 28) (.seq (.reg [⟨(some 4), none, (.q (.mv .nil))⟩, ⟨(some 5), none,
  (.q (.mv (.c (.int .i64 8))))⟩] [] [4, 5] [1034]) .ret) .skip))) (.reg [⟨(some 19), none, (.q (.mv (.t 6)))⟩, ⟨(some 20), none, (.q (.bin .add (.t 19) (.c (.int .i64 1))))⟩, ⟨(some 6), none,
  (.q (.mv (.t 20)))⟩] [] [0, 3, 6] [3])))
def R48_0 : MC := (.seq (.seq (.reg [⟨(some 29), none, (.q (.mv (.t 0)))⟩, ⟨(some 30), none, (.q (.len (.t 29) false))⟩, ⟨(some 31), none, (.q (.bin .geq (.t 30) (.c (.int .i64 100))))⟩] [] [0, 3,
  31] [3]) (.cond (.t 31) (.seq (.reg [⟨(some 4), none, (.q (.mv .nil))⟩, ⟨(some 5), none, (.q (.mv (.c (.int .i64 6))))⟩] [] [4, 5] [1034]) .ret) .skip)) (.seq (.reg [⟨(some 32), none,
  (.q (.mv (.t 0)))⟩, ⟨(some 33), none, (.q (.ld (.t 3) 5 true))⟩, ⟨(some 34), none, (.call (.f 80) [(.t 32), (.t 33)])⟩, ⟨(some 4), none, (.q (.mv (.t 34)))⟩, ⟨(some 5), none,
  (.q (.mv (.c (.int .i64 0))))⟩] [] [4, 5] [1034]) .ret))
def M48 : MC := (.seq (.reg [⟨(some 3), none, (.box (.t 1))⟩, ⟨(some 4), none, (.q (.mv .nil))⟩, ⟨(some 5), none, (.q (.mv (.c (.int .i64 0))))⟩] [] [0, 3] [3]) (.seq (.seq (.reg [⟨(some 7), none,
  (.q (.mv (.t 0)))⟩, ⟨(some 8), none, (.call (.f 50) [(.t 7)])⟩, ⟨(some 9), none, (.q (.not (.t 8)))⟩, ⟨(some 10), none, (.q (.mv (.t 9)))⟩, ⟨(some 11), (some (10, false)), (.q (.ld (.t 3) 5 true))⟩,
  ⟨(some 12), (some (10, false)), (.call (.f 89) [(.t 11)])⟩, ⟨(some 13), (some (10, false)), (.q (.not (.t 12)))⟩, ⟨(some 14), none, (.q (.pick (.t 10) (.c (.bool true)) (.t 13)))⟩] [] [0, 3, 14] [3,
  1008, 1012]) (.cond (.t 14) (.seq (.reg [⟨(some 4), none, (.q (.mv .nil))⟩, ⟨(some 5), none, (.q (.mv (.c (.int .i64 1))))⟩] [] [4, 5] [1034]) .ret) .skip)) (.seq (.seq (.reg [⟨(some 6), none,
  (.q (.mv (.c (.int .i64 0))))⟩] [] [0, 3, 6] [3]) (.block 0 (.loop B48_0))) R48_0)))
theorem mc48 : ofCode Try.prog [] Try.f48.ntmps [(0, ⟨[0, 3], [3], [], 0, [], none⟩),
    (1, ⟨[0, 3, 14], [3, 1008, 1012], [], 0, [], none⟩),
    (2, ⟨[4, 5], [1034], [], 0, [], none⟩),
    (3, ⟨[0, 3, 6], [3], [], 0, [], none⟩),
    (4, ⟨[0, 3, 6, 18], [3], [], 0, [], none⟩),
    (5, ⟨[0, 3, 6], [3], [], 0, [], none⟩),
    (6, ⟨[0, 3, 6, 28], [3], [(0, 157), (1, 158), (2, 156), (3, 152), (4, 144), (5, 224), (6, 192), (7, 128)], 255, [], none⟩),
    (7, ⟨[4, 5], [1034], [], 0, [], none⟩),
    (8, ⟨[0, 3, 31], [3], [], 0, [], none⟩),
    (9, ⟨[4, 5], [1034], [], 0, [], none⟩),
    (10, ⟨[4, 5], [1034], [], 0, [], none⟩)] (Try.f48.body.getD .skip) = some M48 := by kernel_rfl
theorem Run48 {args : List PV} {v : AV} {rs : List (Nat × List PV)} (ids : List Bool) (h : args.length ≤ 35) (hv : run Try.prog (retK [RV.tmp 4, RV.tmp 5] ids v rs) M48 [] ⟨entry 0 args, []⟩) : Fn Try.prog 48 args v rs :=
  Fn_run ids (by kernel_rfl) Try.func48 (by decide) rfl mc48 (by kernel_rfl) (by rw [Try.ntmps48]; exact h) (by rw [Try.ntmps48]; decide) hv

/-- 'trystref15.Again' -/
def M49 : MC := (.seq (.reg [⟨(some 4), none, (.box (.t 1))⟩, ⟨(some 6), none, (.q (.mv .nil))⟩, ⟨(some 7), none, (.q (.mv (.c (.int .i64 0))))⟩] [] [0, 2, 4] [4]) (.seq (.seq (.reg [⟨(some 8), none,
  (.q (.mv (.t 0)))⟩, ⟨(some 9), none, (.call (.f 50) [(.t 8)])⟩, ⟨(some 10), none, (.q (.not (.t 9)))⟩, ⟨(some 11), none, (.q (.mv (.t 10)))⟩, ⟨(some 12), (some (11, false)), (.q (.ld (.t 4)
  5 true))⟩, ⟨(some 13), (some (11, false)), (.call (.f 89) [(.t 12)])⟩, ⟨(some 14), (some (11, false)), (.q (.not (.t 13)))⟩, ⟨(some 15), none, (.q (.pick (.t 11) (.c (.bool true)) (.t 14)))⟩,
  ⟨(some 16), none, (.q (.mv (.t 15)))⟩, ⟨(some 17), (some (16, false)), (.q (.mv (.t 2)))⟩, ⟨(some 18), (some (16, false)), (.q (.bin .lss (.t 17) (.c (.int .i64 0))))⟩, ⟨(some 19), none,
  (.q (.pick (.t 16) (.c (.bool true)) (.t 18)))⟩, ⟨(some 20), none, (.q (.mv (.t 19)))⟩, ⟨(some 21), (some (20, false)), (.q (.mv (.t 2)))⟩, ⟨(some 22), (some (20, false)), (.q (.bin .gtr (.t 21)
  (.c (.int .i64 1099511627775))))⟩, ⟨(some 23), none, (.q (.pick (.t 20) (.c (.bool true)) (.t 22)))⟩] [] [0, 2, 4, 23] [4, 1009, 1013]) (.cond (.t 23) (.seq (.reg [⟨(some 6), none, (.q (.mv .nil))⟩,
  ⟨(some 7), none, (.q (.mv (.c (.int .i64 1))))⟩] [] [6, 7] [1037]) .ret) .skip)) (.seq (.seq (.reg [⟨(some 24), none, (.q (.mv (.t 0)))⟩, ⟨(some 25), none, (.q (.fa (.t 4) 0))⟩, ⟨(some 26), none,
  (.q (.ld (.t 25) 1 false))⟩, ⟨(some 27), none, (.call (.f 51) [(.t 24), (.t 26)])⟩, ⟨(some 28), none, (.q (.bin .geq (.t 27) (.c (.int .i64 0))))⟩] [] [0, 2, 4, 28] [4, 1027]) (.cond (.t 28)
  (.seq (.reg [⟨(some 6), none, (.q (.mv .nil))⟩, ⟨(some 7), none, (.q (.mv (.c (.int .i64 5))))⟩] [] [6, 7] [1037]) .ret) .skip)) (.seq (.seq (.reg [⟨(some 29), none, (.q (.mv (.t 0)))⟩, ⟨(some 30),
  none, (.q (.len (.t 29) false))⟩, ⟨(some 31), none, (.q (.bin .geq (.t 30) (.c (.int .i64 100))))⟩] [] [0, 2, 4, 31] [4]) (.cond (.t 31) (.seq (.reg [⟨(some 6), none, (.q (.mv .nil))⟩, ⟨(some 7),
  none, (.q (.mv (.c (.int .i64 6))))⟩] [] [6, 7] [1037]) .ret) .skip)) (.seq (.reg [⟨(some 32), none, (.q (.fa (.t 4) 3))⟩, ⟨none, none, (.st (.t 32) (.c (.int .i64 0)) 1)⟩] [] [0, 2, 4] [4])
  (.seq (.reg [⟨(some 33), none, (.q (.mv (.t 2)))⟩, ⟨(some 34), none, (.q (.fa (.t 4) 4))⟩, ⟨none, none, (.st (.t 34) (.t 33) 1)⟩] [] [0, 4] [4]) (.seq (.reg [⟨(some 35), none, (.q (.mv (.t 0)))⟩,
  ⟨(some 36), none, (.q (.ld (.t 4) 5 true))⟩, ⟨(some 37), none, (.call (.f 80) [(.t 35), (.t 36)])⟩, ⟨(some 6), none, (.q (.mv (.t 37)))⟩, ⟨(some 7), none, (.q (.mv (.c (.int .i64 0))))⟩] [] [6,
  7] [1037]) .ret)))))))
theorem mc49 : ofCode Try.prog [] Try.f49.ntmps [(0, ⟨[0, 2, 4], [4], [], 0, [], none⟩),
    (1, ⟨[0, 2, 4, 23], [4, 1009, 1013], [], 0, [], none⟩),
    (2, ⟨[6, 7], [1037], [], 0, [], none⟩),
    (3, ⟨[0, 2, 4, 28], [4, 1027], [], 0, [], none⟩),
    (4, ⟨[6, 7], [1037], [], 0, [], none⟩),
    (5, ⟨[0, 2, 4, 31], [4], [], 0, [], none⟩),
    (6, ⟨[6, 7], [1037], [], 0, [], none⟩),
    (7, ⟨[0, 2, 4], [4], [], 0, [], none⟩),
    (8, ⟨[0, 4], [4], [], 0, [], none⟩),
    (9, ⟨[6, 7], [1037], [], 0, [], none⟩)] (Try.f49.body.getD .skip) = some M49 := by kernel_rfl
theorem Run49 {args : List PV} {v : AV} {rs : List (Nat × List PV)} (ids : List Bool) (h : args.length ≤ 38) (hv : run Try.prog (retK [RV.tmp 6, RV.tmp 7] ids v rs) M49 [] ⟨entry 0 args, []⟩) : Fn Try.prog 49 args v rs :=
  Fn_run ids (by kernel_rfl) Try.func49 (by decide) rfl mc49 (by kernel_rfl) (by rw [Try.ntmps49]; exact h) (by rw [Try.ntmps49]; decide) hv

/-- 'outbox.Same' -/
def M52 : MC := (.seq (.reg [⟨(some 4), none, (.q (.mv (.c (.bool false))))⟩] [] [0, 1] []) (.seq (.reg [⟨(some 5), none, (.q (.mv (.t 0)))⟩, ⟨(some 6), none, (.q (.mv (.t 1)))⟩, ⟨(some 7), none,
  (.call (.f 90) [(.t 5), (.t 6), (.f 91)])⟩, ⟨(some 4), none, (.q (.mv (.t 7)))⟩] [] [4] [1007]) .ret))
theorem mc52 : ofCode Try.prog [] Try.f52.ntmps [(0, ⟨[0, 1], [], [], 0, [], none⟩),
    (1, ⟨[4], [1007], [], 0, [], none⟩)] (Try.f52.body.getD .skip) = some M52 := by kernel_rfl
theorem Run52 {args : List PV} {v : AV} {rs : List (Nat × List PV)} (ids : List Bool) (h : args.length ≤ 8) (hv : run Try.prog (retK [RV.tmp 4] ids v rs) M52 [] ⟨entry 0 args, []⟩) : Fn Try.prog 52 args v rs :=
  Fn_run ids (by kernel_rfl) Try.func52 (by decide) rfl mc52 (by kernel_rfl) (by rw [Try.ntmps52]; exact h) (by rw [Try.ntmps52]; decide) hv

/-- 'api.Out]' -/
def B90_0 : MC := (.seq (.reg [⟨(some 18), none, (.q (.bin .lss (.t 17) (.t 16)))⟩] [] [1, 2, 15, 16, 17, 18] []) (.seq (.cond (.t 18) .skip (.exit 0)) (.seq (.block 1 (.seq (.reg [⟨(some 19), none,
  (.q (.mv (.t 17)))⟩, ⟨(some 20), none, (.q (.ia (.t 15) (.t 17) 5))⟩, ⟨(some 21), none, (.q (.ld (.t 20) 5 true))⟩, ⟨(some 8), none, (.alloc [(.pv (.sc (.int .u64 0))), (.pv (.sc (.string ⟨#[]⟩))),
  .e0, (.pv (.sc (.int .i64 0))), (.pv (.sc (.int .i64 0)))])⟩, ⟨(some 7), none, (.q (.mv (.t 19)))⟩, ⟨none, none, (.st (.t 8) (.t 21) 5)⟩] [] [1, 2, 7, 8, 15, 16, 17] [8]) (.seq (.reg [⟨(some 22),
  none, (.q (.mv (.t 1)))⟩, ⟨(some 23), none, (.q (.mv (.t 7)))⟩, ⟨(some 24), none, (.q (.ia (.t 22) (.t 23) 5))⟩, ⟨(some 25), none, (.q (.ld (.t 24) 5 true))⟩, ⟨(some 9), none,
  (.alloc [(.pv (.sc (.int .u64 0))), (.pv (.sc (.string ⟨#[]⟩))), .e0, (.pv (.sc (.int .i64 0))), (.pv (.sc (.int .i64 0)))])⟩, ⟨none, none, (.st (.t 9) (.t 25) 5)⟩] [] [1, 2, 8, 9, 15, 16, 17] [8,
  9]) (.seq (.reg [⟨(some 26), none, (.q (.mv (.t 2)))⟩, ⟨(some 27), none, (.q (.ld (.t 8) 5 true))⟩, ⟨(some 28), none, (.q (.ld (.t 9) 5 true))⟩, ⟨(some 29), none, (.call (.t 26) [(.t 27),
  (.t 28)])⟩, ⟨(some 30), none, (.q (.not (.t 29)))⟩] [] [1, 2, 15, 16, 17, 30] [1029]) (.cond (.t 30) (.seq (.reg [⟨(some 6), none, (.q (.mv (.c (.bool false))))⟩] [] [6] []) .ret) .skip)))))
  (.reg [⟨(some 31), none, (.q (.bin .add (.t 17) (.c (.int .i64 1))))⟩, ⟨(some 17), none, (.q (.mv (.t 31)))⟩] [] [1, 2, 15, 16, 17] []))))
def R90_0 : MC := (.seq (.reg [⟨(some 6), none, (.q (.mv (.c (.bool true))))⟩] [] [6] []) .ret)
def M90 : MC := (.seq (.reg [⟨(some 6), none, (.q (.mv (.c (.bool false))))⟩] [] [0, 1, 2] []) (.seq (.seq (.reg [⟨(some 10), none, (.q (.mv (.t 0)))⟩, ⟨(some 11), none, (.q (.len (.t 10) false))⟩,
  ⟨(some 12), none, (.q (.mv (.t 1)))⟩, ⟨(some 13), none, (.q (.len (.t 12) false))⟩, ⟨(some 14), none, (.q (.bin .neq (.t 11) (.t 13)))⟩] [] [0, 1, 2, 14] []) (.cond (.t 14) (.seq (.reg [⟨(some 6),
  none, (.q (.mv (.c (.bool false))))⟩] [] [6] []) .ret) .skip)) (.seq (.seq (.reg [⟨(some 15), none, (.q (.mv (.t 0)))⟩, ⟨(some 16), none, (.q (.len (.t 15) false))⟩, ⟨(some 17), none,
  (.q (.mv (.c (.int .i64 0))))⟩] [] [1, 2, 15, 16, 17] []) (.block 0 (.loop B90_0))) R90_0)))
theorem mc90 : ofCode Try.prog [] Try.f90.ntmps [(0, ⟨[0, 1, 2], [], [], 0, [], none⟩),
    (1, ⟨[0, 1, 2, 14], [], [], 0, [], none⟩),
    (2, ⟨[6], [], [], 0, [], none⟩),
    (3, ⟨[1, 2, 15, 16, 17], [], [], 0, [], none⟩),
    (4, ⟨[1, 2, 15, 16, 17, 18], [], [], 0, [], none⟩),
    (5, ⟨[1, 2, 7, 8, 15, 16, 17], [8], [], 0, [], none⟩),
    (6, ⟨[1, 2, 8, 9, 15, 16, 17], [8, 9], [], 0, [], none⟩),
    (7, ⟨[1, 2, 15, 16, 17, 30], [1029], [], 0, [], none⟩),
    (8, ⟨[6], [], [], 0, [], none⟩),
    (9, ⟨[1, 2, 15, 16, 17], [], [], 0, [], none⟩),
    (10, ⟨[6], [], [], 0, [], none⟩)] (Try.f90.body.getD .skip) = some M90 := by kernel_rfl
theorem Run90 {args : List PV} {v : AV} {rs : List (Nat × List PV)} (ids : List Bool) (h : args.length ≤ 32) (hv : run Try.prog (retK [RV.tmp 6] ids v rs) M90 [] ⟨entry 0 args, []⟩) : Fn Try.prog 90 args v rs :=
  Fn_run ids (by kernel_rfl) Try.func90 (by decide) rfl mc90 (by kernel_rfl) (by rw [Try.ntmps90]; exact h) (by rw [Try.ntmps90]; decide) hv

/-- 'outbox.Same.1' -/
def M91 : MC := (.seq (.reg [⟨(some 2), none, (.box (.t 0))⟩, ⟨(some 3), none, (.box (.t 1))⟩, ⟨(some 4), none, (.q (.mv (.c (.bool false))))⟩] [] [2, 3] [2, 3]) (.seq (.reg [⟨(some 5), none,
  (.q (.fa (.t 2) 0))⟩, ⟨(some 6), none, (.q (.ld (.t 5) 1 false))⟩, ⟨(some 7), none, (.q (.fa (.t 3) 0))⟩, ⟨(some 8), none, (.q (.ld (.t 7) 1 false))⟩, ⟨(some 9), none, (.q (.bin .eql (.t 6)
  (.t 8)))⟩, ⟨(some 10), none, (.q (.mv (.t 9)))⟩, ⟨(some 11), (some (10, true)), (.q (.fa (.t 2) 1))⟩, ⟨(some 12), (some (10, true)), (.q (.ld (.t 11) 1 false))⟩, ⟨(some 13), (some (10, true)),
  (.q (.fa (.t 3) 1))⟩, ⟨(some 14), (some (10, true)), (.q (.ld (.t 13) 1 false))⟩, ⟨(some 15), (some (10, true)), (.q (.bin .eql (.t 12) (.t 14)))⟩, ⟨(some 16), none, (.q (.pick (.t 10) (.t 15)
  (.c (.bool false))))⟩, ⟨(some 17), none, (.q (.mv (.t 16)))⟩, ⟨(some 18), (some (17, true)), (.q (.fa (.t 2) 2))⟩, ⟨(some 19), (some (17, true)), (.q (.ld (.t 18) 1 false))⟩, ⟨(some 20), (some (17,
  true)), (.q (.fa (.t 3) 2))⟩, ⟨(some 21), (some (17, true)), (.q (.ld (.t 20) 1 false))⟩, ⟨(some 22), (some (17, true)), (.call (.f 92) [(.t 19), (.t 21)])⟩, ⟨(some 23), none, (.q (.pick (.t 17)
  (.t 22) (.c (.bool false))))⟩, ⟨(some 24), none, (.q (.mv (.t 23)))⟩, ⟨(some 25), (some (24, true)), (.q (.fa (.t 2) 3))⟩, ⟨(some 26), (some (24, true)), (.q (.ld (.t 25) 1 false))⟩, ⟨(some 27),
  (some (24, true)), (.q (.fa (.t 3) 3))⟩, ⟨(some 28), (some (24, true)), (.q (.ld (.t 27) 1 false))⟩, ⟨(some 29), (some (24, true)), (.q (.bin .eql (.t 26) (.t 28)))⟩, ⟨(some 30), none,
  (.q (.pick (.t 24) (.t 29) (.c (.bool false))))⟩, ⟨(some 31), none, (.q (.mv (.t 30)))⟩, ⟨(some 32), (some (31, true)), (.q (.fa (.t 2) 4))⟩, ⟨(some 33), (some (31, true)), (.q (.ld (.t 32)
  1 false))⟩, ⟨(some 34), (some (31, true)), (.q (.fa (.t 3) 4))⟩, ⟨(some 35), (some (31, true)), (.q (.ld (.t 34) 1 false))⟩, ⟨(some 36), (some (31, true)), (.q (.bin .eql (.t 33) (.t 35)))⟩,
  ⟨(some 37), none, (.q (.pick (.t 31) (.t 36) (.c (.bool false))))⟩, ⟨(some 4), none, (.q (.mv (.t 37)))⟩] [] [4] [1022]) .ret))
theorem mc91 : ofCode Try.prog [] Try.f91.ntmps [(0, ⟨[2, 3], [2, 3], [], 0, [], none⟩),
    (1, ⟨[4], [1022], [], 0, [], none⟩)] (Try.f91.body.getD .skip) = some M91 := by kernel_rfl
theorem Run91 {args : List PV} {v : AV} {rs : List (Nat × List PV)} (ids : List Bool) (h : args.length ≤ 38) (hv : run Try.prog (retK [RV.tmp 4] ids v rs) M91 [] ⟨entry 0 args, []⟩) : Fn Try.prog 91 args v rs :=
  Fn_run ids (by kernel_rfl) Try.func91 (by decide) rfl mc91 (by kernel_rfl) (by rw [Try.ntmps91]; exact h) (by rw [Try.ntmps91]; decide) hv

/-- 'slices.Equal[[]uint64,uint64]' -/
def B92_0 : MC := (.seq (.reg [⟨(some 14), none, (.q (.bin .lss (.t 13) (.t 12)))⟩] [] [0, 1, 12, 13, 14] []) (.seq (.cond (.t 14) .skip (.exit 0)) (.seq (.block 1 (.seq (.reg [⟨(some 15), none,
  (.q (.mv (.t 13)))⟩, ⟨(some 5), none, (.q (.mv (.t 15)))⟩] [] [0, 1, 5, 12, 13] []) (.seq (.reg [⟨(some 16), none, (.q (.mv (.t 0)))⟩, ⟨(some 17), none, (.q (.mv (.t 5)))⟩, ⟨(some 18), none,
  (.q (.ia (.t 16) (.t 17) 1))⟩, ⟨(some 19), none, (.q (.ld (.t 18) 1 false))⟩, ⟨(some 20), none, (.q (.mv (.t 1)))⟩, ⟨(some 21), none, (.q (.mv (.t 5)))⟩, ⟨(some 22), none, (.q (.ia (.t 20) (.t 21)
  1))⟩, ⟨(some 23), none, (.q (.ld (.t 22) 1 false))⟩, ⟨(some 24), none, (.q (.bin .neq (.t 19) (.t 23)))⟩] [] [0, 1, 12, 13, 24] []) (.cond (.t 24) (.seq (.reg [⟨(some 4), none,
  (.q (.mv (.c (.bool false))))⟩] [] [4] []) .ret) .skip)))) (.reg [⟨(some 25), none, (.q (.bin .add (.t 13) (.c (.int .i64 1))))⟩, ⟨(some 13), none, (.q (.mv (.t 25)))⟩] [] [0, 1, 12, 13] []))))
def R92_0 : MC := (.seq (.reg [⟨(some 4), none, (.q (.mv (.c (.bool true))))⟩] [] [4] []) .ret)
def M92 : MC := (.seq (.reg [⟨(some 4), none, (.q (.mv (.c (.bool false))))⟩] [] [0, 1] []) (.seq (.seq (.reg [⟨(some 6), none, (.q (.mv (.t 0)))⟩, ⟨(some 7), none, (.q (.len (.t 6) false))⟩,
  ⟨(some 8), none, (.q (.mv (.t 1)))⟩, ⟨(some 9), none, (.q (.len (.t 8) false))⟩, ⟨(some 10), none, (.q (.bin .neq (.t 7) (.t 9)))⟩] [] [0, 1, 10] []) (.cond (.t 10) (.seq (.reg [⟨(some 4), none,
  (.q (.mv (.c (.bool false))))⟩] [] [4] []) .ret) .skip)) (.seq (.seq (.reg [⟨(some 11), none, (.q (.mv (.t 0)))⟩, ⟨(some 12), none, (.q (.len (.t 11) false))⟩, ⟨(some 13), none,
  (.q (.mv (.c (.int .i64 0))))⟩] [] [0, 1, 12, 13] []) (.block 0 (.loop B92_0))) R92_0)))
theorem mc92 : ofCode Try.prog [] Try.f92.ntmps [(0, ⟨[0, 1], [], [], 0, [], none⟩),
    (1, ⟨[0, 1, 10], [], [], 0, [], none⟩),
    (2, ⟨[4], [], [], 0, [], none⟩),
    (3, ⟨[0, 1, 12, 13], [], [], 0, [], none⟩),
    (4, ⟨[0, 1, 12, 13, 14], [], [], 0, [], none⟩),
    (5, ⟨[0, 1, 5, 12, 13], [], [], 0, [], none⟩),
    (6, ⟨[0, 1, 12, 13, 24], [], [(0, 269), (1, 270), (2, 268), (3, 264), (4, 464), (5, 480), (6, 448), (7, 384), (8, 256)], 511, [], none⟩),
    (7, ⟨[4], [], [], 0, [], none⟩),
    (8, ⟨[0, 1, 12, 13], [], [], 0, [], none⟩),
    (9, ⟨[4], [], [], 0, [], none⟩)] (Try.f92.body.getD .skip) = some M92 := by kernel_rfl
theorem Run92 {args : List PV} {v : AV} {rs : List (Nat × List PV)} (ids : List Bool) (h : args.length ≤ 26) (hv : run Try.prog (retK [RV.tmp 4] ids v rs) M92 [] ⟨entry 0 args, []⟩) : Fn Try.prog 92 args v rs :=
  Fn_run ids (by kernel_rfl) Try.func92 (by decide) rfl mc92 (by kernel_rfl) (by rw [Try.ntmps92]; exact h) (by rw [Try.ntmps92]; decide) hv

/-- 'trystlaw15.OutboxBack' -/
def B12_0 : MC := (.seq (.seq (.reg [⟨(some 80), none, (.q (.mv (.t 12)))⟩, ⟨(some 81), none, (.q (.mv (.t 0)))⟩, ⟨(some 82), none, (.q (.len (.t 81) false))⟩, ⟨(some 83), none, (.q (.bin .lss (.t 80)
  (.t 82)))⟩] [] [0, 2, 7, 10, 12, 83] [1015, 1018, 1045]) (.cond (.t 83) .skip (.exit 0))) (.seq (.block 1 (.seq (.reg [⟨(some 86), none, (.q (.mv (.t 0)))⟩, ⟨(some 87), none, (.q (.mv (.t 12)))⟩,
  ⟨(some 88), none, (.q (.ia (.t 86) (.t 87) 5))⟩, ⟨(some 89), none, (.q (.ld (.t 88) 5 true))⟩, ⟨(some 13), none, (.alloc [(.pv (.sc (.int .u64 0))), (.pv (.sc (.string ⟨#[]⟩))), .e0,
  (.pv (.sc (.int .i64 0))), (.pv (.sc (.int .i64 0)))])⟩, ⟨none, none, (.st (.t 13) (.t 89) 5)⟩] [] [0, 2, 7, 10, 12, 13] [13, 1015, 1018, 1045]) (.seq (.seq (.reg [⟨(some 90), none,
  (.q (.mv (.t 12)))⟩, ⟨(some 91), none, (.q (.mv (.t 7)))⟩, ⟨(some 92), none, (.q (.bin .eql (.t 90) (.t 91)))⟩] [] [0, 2, 7, 10, 12, 13, 92] [13, 1015, 1018, 1045]) (.cond (.t 92) (.reg [⟨(some 93),
  none, (.q (.mv (.t 2)))⟩, ⟨(some 94), none, (.q (.fa (.t 13) 3))⟩, ⟨none, none, (.st (.t 94) (.c (.int .i64 0)) 1)⟩, ⟨(some 95), none, (.q (.fa (.t 13) 4))⟩, ⟨none, none, (.st (.t 95) (.t 93)
  1)⟩] [] [0, 2, 7, 10, 12, 13] [13, 1015, 1018, 1045]) .skip)) (.seq (.reg [⟨(some 96), none, (.q (.mv (.t 10)))⟩, ⟨(some 97), none, (.q (.mv (.t 12)))⟩, ⟨(some 98), none, (.q (.ia (.t 96) (.t 97)
  5))⟩, ⟨(some 99), none, (.q (.ld (.t 98) 5 true))⟩, ⟨(some 100), none, (.q (.ld (.t 13) 5 true))⟩, ⟨(some 101), none, (.call (.f 32) [(.t 99), (.t 100)])⟩, ⟨(some 102), none,
  (.q (.not (.t 101)))⟩] [] [0, 2, 7, 10, 12, 102] [1015, 1018, 1045, 1101]) (.cond (.t 102) (.seq (.reg [⟨(some 6), none, (.q (.mv (.c (.bool false))))⟩] [] [6] [1037, 1045, 1062, 1103]) .ret)
  .skip))))) (.reg [⟨(some 84), none, (.q (.mv (.t 12)))⟩, ⟨(some 85), none, (.q (.bin .add (.t 84) (.c (.int .i64 1))))⟩, ⟨(some 12), none, (.q (.mv (.t 85)))⟩] [] [0, 2, 7, 10, 12] [1015, 1018,
  1045])))
def R12_0 : MC := (.seq (.reg [⟨(some 103), none, (.call (.f 22) [])⟩, ⟨(some 6), none, (.q (.mv (.t 103)))⟩] [] [6] [1037, 1045, 1062, 1103]) .ret)
def M12 : MC := (.seq (.reg [⟨(some 6), none, (.q (.mv (.c (.bool false))))⟩] [] [0, 1, 2] [1015]) (.seq (.reg [⟨(some 14), none, (.q (.mv (.t 0)))⟩, ⟨(some 15), none, (.call (.f 20) [(.t 14)])⟩,
  ⟨(some 0), none, (.q (.mv (.t 15)))⟩] [] [0, 1, 2] [1015]) (.seq (.reg [⟨(some 16), none, (.q (.mv (.t 0)))⟩, ⟨(some 17), none, (.q (.mv (.t 1)))⟩, ⟨(some 18), none, (.call (.f 24) [(.t 16),
  (.t 17)])⟩, ⟨(some 7), none, (.q (.mv (.t 18)))⟩] [] [0, 1, 2, 7] [1015, 1018]) (.seq (.reg [⟨(some 20), none, (.q (.mv (.t 0)))⟩, ⟨(some 21), none, (.q (.mv (.t 1)))⟩, ⟨(some 22), none,
  (.call (.f 21) [(.t 20), (.t 21)])⟩, ⟨(some 19), none, (.q (.mv (.t 22)))⟩, ⟨(some 23), none, (.q (.ext (.t 19) 0))⟩, ⟨(some 24), none, (.q (.ext (.t 19) 1))⟩, ⟨(some 8), none, (.q (.mv (.t 23)))⟩,
  ⟨(some 9), none, (.q (.mv (.t 24)))⟩] [] [0, 1, 2, 7, 8, 9] [1015, 1018, 1022]) (.seq (.seq (.reg [⟨(some 25), none, (.q (.mv (.t 9)))⟩, ⟨(some 26), none, (.q (.bin .neq (.t 25)
  (.c (.int .i64 0))))⟩, ⟨(some 27), none, (.q (.mv (.t 26)))⟩, ⟨(some 28), (some (27, false)), (.q (.mv (.t 7)))⟩, ⟨(some 29), (some (27, false)), (.q (.bin .lss (.t 28) (.c (.int .i64 0))))⟩,
  ⟨(some 30), none, (.q (.pick (.t 27) (.c (.bool true)) (.t 29)))⟩, ⟨(some 31), none, (.q (.mv (.t 30)))⟩, ⟨(some 32), (some (31, false)), (.q (.mv (.t 7)))⟩, ⟨(some 33), (some (31, false)),
  (.q (.mv (.t 0)))⟩, ⟨(some 34), (some (31, false)), (.q (.len (.t 33) false))⟩, ⟨(some 35), (some (31, false)), (.q (.bin .geq (.t 32) (.t 34)))⟩, ⟨(some 36), none, (.q (.pick (.t 31)
  (.c (.bool true)) (.t 35)))⟩] [] [0, 1, 2, 7, 8, 36] [1015, 1018, 1022]) (.cond (.t 36) (.seq (.reg [⟨(some 37), none, (.call (.f 22) [])⟩, ⟨(some 6), none, (.q (.mv (.t 37)))⟩] [] [6] [1037, 1045,
  1062, 1103]) .ret) .skip)) (.seq (.reg [⟨(some 39), none, (.q (.mv (.t 8)))⟩, ⟨(some 40), none, (.q (.mv (.t 0)))⟩, ⟨(some 41), none, (.q (.mv (.t 7)))⟩, ⟨(some 42), none, (.q (.ia (.t 40) (.t 41)
  5))⟩, ⟨(some 43), none, (.q (.ld (.t 42) 5 true))⟩, ⟨(some 44), none, (.q (.mv (.t 2)))⟩, ⟨(some 45), none, (.call (.f 47) [(.t 39), (.t 43), (.t 44)])⟩, ⟨(some 38), none, (.q (.mv (.t 45)))⟩,
  ⟨(some 46), none, (.q (.ext (.t 38) 0))⟩, ⟨(some 47), none, (.q (.ext (.t 38) 1))⟩, ⟨(some 10), none, (.q (.mv (.t 46)))⟩, ⟨(some 11), none, (.q (.mv (.t 47)))⟩] [] [0, 1, 2, 7, 10, 11] [1015, 1018,
  1045]) (.seq (.seq (.reg [⟨(some 48), none, (.q (.mv (.t 2)))⟩, ⟨(some 49), none, (.q (.bin .lss (.t 48) (.c (.int .i64 0))))⟩, ⟨(some 50), none, (.q (.mv (.t 49)))⟩, ⟨(some 51), (some (50, false)),
  (.q (.mv (.t 2)))⟩, ⟨(some 52), (some (50, false)), (.q (.bin .gtr (.t 51) (.c (.int .i64 1099511627775))))⟩, ⟨(some 53), none, (.q (.pick (.t 50) (.c (.bool true)) (.t 52)))⟩] [] [0, 1, 2, 7, 10,
  11, 53] [1015, 1018, 1045]) (.cond (.t 53) (.seq (.reg [⟨(some 54), none, (.q (.mv (.t 10)))⟩, ⟨(some 55), none, (.q (.len (.t 54) false))⟩, ⟨(some 56), none, (.q (.bin .eql (.t 55)
  (.c (.int .i64 0))))⟩, ⟨(some 57), none, (.q (.mv (.t 56)))⟩, ⟨(some 58), (some (57, true)), (.q (.mv (.t 11)))⟩, ⟨(some 59), (some (57, true)), (.q (.bin .eql (.t 58) (.c (.int .i64 1))))⟩,
  ⟨(some 60), none, (.q (.pick (.t 57) (.t 59) (.c (.bool false))))⟩, ⟨(some 61), none, (.q (.mv (.t 60)))⟩, ⟨(some 62), (some (61, true)), (.call (.f 22) [])⟩, ⟨(some 63), none, (.q (.pick (.t 61)
  (.t 62) (.c (.bool false))))⟩, ⟨(some 6), none, (.q (.mv (.t 63)))⟩] [] [6] [1037, 1045, 1062, 1103]) .ret) .skip)) (.seq (.seq (.reg [⟨(some 64), none, (.q (.mv (.t 11)))⟩, ⟨(some 65), none,
  (.q (.bin .neq (.t 64) (.c (.int .i64 0))))⟩, ⟨(some 66), none, (.q (.mv (.t 65)))⟩, ⟨(some 67), (some (66, false)), (.q (.mv (.t 10)))⟩, ⟨(some 68), (some (66, false)), (.q (.mv (.t 1)))⟩,
  ⟨(some 69), (some (66, false)), (.call (.f 24) [(.t 67), (.t 68)])⟩, ⟨(some 70), (some (66, false)), (.q (.mv (.t 7)))⟩, ⟨(some 71), (some (66, false)), (.q (.bin .neq (.t 69) (.t 70)))⟩,
  ⟨(some 72), none, (.q (.pick (.t 66) (.c (.bool true)) (.t 71)))⟩, ⟨(some 73), none, (.q (.mv (.t 72)))⟩, ⟨(some 74), (some (73, false)), (.q (.mv (.t 10)))⟩, ⟨(some 75), (some (73, false)),
  (.q (.len (.t 74) false))⟩, ⟨(some 76), (some (73, false)), (.q (.mv (.t 0)))⟩, ⟨(some 77), (some (73, false)), (.q (.len (.t 76) false))⟩, ⟨(some 78), (some (73, false)), (.q (.bin .neq (.t 75)
  (.t 77)))⟩, ⟨(some 79), none, (.q (.pick (.t 73) (.c (.bool true)) (.t 78)))⟩] [] [0, 2, 7, 10, 79] [1015, 1018, 1045, 1069]) (.cond (.t 79) (.seq (.reg [⟨(some 6), none,
  (.q (.mv (.c (.bool false))))⟩] [] [6] [1037, 1045, 1062, 1103]) .ret) .skip)) (.seq (.seq (.reg [⟨(some 12), none, (.q (.mv (.c (.int .i64 0))))⟩] [] [0, 2, 7, 10, 12] [1015, 1018, 1045])
  (.block 0 (.loop B12_0))) R12_0)))))))))
theorem mc12 : ofCode Try.prog [] Try.f12.ntmps [(0, ⟨[0, 1, 2], [1015], [], 0, [], none⟩),
    (1, ⟨[0, 1, 2], [1015], [], 0, [], none⟩),
    (2, ⟨[0, 1, 2, 7], [1015, 1018], [], 0, [], none⟩),
    (3, ⟨[0, 1, 2, 7, 8, 9], [1015, 1018, 1022], [], 0, [], none⟩),
    (4, ⟨[0, 1, 2, 7, 8, 36], [1015, 1018, 1022], [], 0, [], none⟩),
    (5, ⟨[6], [1037, 1045, 1062, 1103], [], 0, [], none⟩),
    (6, ⟨[0, 1, 2, 7, 10, 11], [1015, 1018, 1045], [], 0, [], none⟩),
    (7, ⟨[0, 1, 2, 7, 10, 11, 53], [1015, 1018, 1045], [], 0, [], none⟩),
    (8, ⟨[6], [1037, 1045, 1062, 1103], [], 0, [], none⟩),
    (9, ⟨[0, 2, 7, 10, 79], [1015, 1018, 1045, 1069], [], 0, [], none⟩),
    (10, ⟨[6], [1037, 1045, 1062, 1103], [], 0, [], none⟩),
    (11, ⟨[0, 2, 7, 10, 12], [1015, 1018, 1045], [], 0, [], none⟩),
    (12, ⟨[0, 2, 7, 10, 12, 83], [1015, 1018, 1045], [], 0, [], none⟩),
    (13, ⟨[0, 2, 7, 10, 12], [1015, 1018, 1045], [], 0, [], none⟩),
    (14, ⟨[0, 2, 7, 10, 12, 13], [13, 1015, 1018, 1045], [], 0, [], none⟩),
    (15, ⟨[0, 2, 7, 10, 12, 13, 92], [13, 1015, 1018, 1045], [], 0, [], none⟩),
    (16, ⟨[0, 2, 7, 10, 12, 13], [13, 1015, 1018, 1045], [], 0, [], none⟩),
    (17, ⟨[0, 2, 7, 10, 12, 102], [1015, 1018, 1045, 1101], [(0, 109), (1, 110), (2, 108), (3, 104), (4, 112), (5, 0), (6, 64)], 127, [], none⟩),
    (18, ⟨[6], [1037, 1045, 1062, 1103], [], 0, [], none⟩),
    (19, ⟨[6], [1037, 1045, 1062, 1103], [], 0, [], none⟩)] (Try.f12.body.getD .skip) = some M12 := by kernel_rfl
theorem Run12 {args : List PV} {v : AV} {rs : List (Nat × List PV)} (ids : List Bool) (h : args.length ≤ 104) (hv : run Try.prog (retK [RV.tmp 6] ids v rs) M12 [] ⟨entry 0 args, []⟩) : Fn Try.prog 12 args v rs :=
  Fn_run ids (by kernel_rfl) Try.func12 (by decide) rfl mc12 (by kernel_rfl) (by rw [Try.ntmps12]; exact h) (by rw [Try.ntmps12]; decide) hv

/-- 'trystlaw15.OutboxAdds' -/
def M13 : MC := (.seq (.reg [⟨(some 4), none, (.box (.t 1))⟩, ⟨(some 6), none, (.q (.mv (.c (.bool false))))⟩] [] [0, 2, 4] [4, 1017, 1019]) (.seq (.reg [⟨(some 16), none, (.q (.mv (.t 0)))⟩,
  ⟨(some 18), none, (.q (.ld (.t 4) 5 true))⟩, ⟨(some 17), none, (.call (.f 20) [(.t 16)])⟩, ⟨(some 19), none, (.call (.f 26) [(.t 18)])⟩, ⟨(some 0), none, (.q (.mv (.t 17)))⟩, ⟨none, none,
  (.st (.t 4) (.t 19) 5)⟩] [] [0, 2, 4] [4, 1017, 1019]) (.seq (.reg [⟨(some 20), none, (.q (.mv (.t 0)))⟩, ⟨(some 21), none, (.call (.f 20) [(.t 20)])⟩, ⟨(some 7), none, (.q (.mv (.t 21)))⟩] [] [0,
  2, 4, 7] [4, 1017, 1019, 1021]) (.seq (.reg [⟨(some 23), none, (.q (.mv (.t 0)))⟩, ⟨(some 24), none, (.q (.ld (.t 4) 5 true))⟩, ⟨(some 25), none, (.call (.f 25) [(.t 23), (.t 24)])⟩, ⟨(some 22),
  none, (.q (.mv (.t 25)))⟩, ⟨(some 26), none, (.q (.ext (.t 22) 0))⟩, ⟨(some 27), none, (.q (.ext (.t 22) 1))⟩, ⟨(some 8), none, (.q (.mv (.t 26)))⟩, ⟨(some 9), none, (.q (.mv (.t 27)))⟩] [] [0, 2,
  4, 7, 8, 9] [4, 1017, 1019, 1021, 1025]) (.seq (.reg [⟨(some 29), none, (.q (.mv (.t 0)))⟩, ⟨(some 30), none, (.q (.ld (.t 4) 5 true))⟩, ⟨(some 31), none, (.call (.f 48) [(.t 29), (.t 30)])⟩,
  ⟨(some 28), none, (.q (.mv (.t 31)))⟩, ⟨(some 32), none, (.q (.ext (.t 28) 0))⟩, ⟨(some 33), none, (.q (.ext (.t 28) 1))⟩, ⟨(some 10), none, (.q (.mv (.t 32)))⟩, ⟨(some 11), none,
  (.q (.mv (.t 33)))⟩] [] [0, 2, 4, 7, 8, 9, 10, 11] [4, 1017, 1019, 1021, 1025, 1031]) (.seq (.reg [⟨(some 35), none, (.q (.mv (.t 0)))⟩, ⟨(some 36), none, (.q (.ld (.t 4) 5 true))⟩, ⟨(some 37),
  none, (.q (.mv (.t 2)))⟩, ⟨(some 38), none, (.call (.f 47) [(.t 35), (.t 36), (.t 37)])⟩, ⟨(some 34), none, (.q (.mv (.t 38)))⟩, ⟨(some 39), none, (.q (.ext (.t 34) 0))⟩, ⟨(some 40), none,
  (.q (.ext (.t 34) 1))⟩, ⟨(some 12), none, (.q (.mv (.t 39)))⟩, ⟨(some 13), none, (.q (.mv (.t 40)))⟩] [] [0, 2, 4, 7, 8, 9, 10, 11, 12, 13] [4, 1017, 1019, 1021, 1025, 1031, 1038])
  (.seq (.reg [⟨(some 42), none, (.q (.mv (.t 0)))⟩, ⟨(some 43), none, (.q (.ld (.t 4) 5 true))⟩, ⟨(some 44), none, (.q (.mv (.t 2)))⟩, ⟨(some 45), none, (.call (.f 49) [(.t 42), (.t 43), (.t 44)])⟩,
  ⟨(some 41), none, (.q (.mv (.t 45)))⟩, ⟨(some 46), none, (.q (.ext (.t 41) 0))⟩, ⟨(some 47), none, (.q (.ext (.t 41) 1))⟩, ⟨(some 14), none, (.q (.mv (.t 46)))⟩, ⟨(some 15), none,
  (.q (.mv (.t 47)))⟩] [] [0, 4, 7, 8, 9, 10, 11, 12, 13, 14, 15] [4, 1017, 1019, 1021, 1025, 1031, 1038, 1045]) (.seq (.reg [⟨(some 48), none, (.q (.mv (.t 8)))⟩, ⟨(some 49), none,
  (.q (.mv (.t 10)))⟩, ⟨(some 50), none, (.call (.f 23) [(.t 48), (.t 49)])⟩, ⟨(some 51), none, (.q (.mv (.t 50)))⟩, ⟨(some 52), (some (51, true)), (.q (.mv (.t 9)))⟩, ⟨(some 53), (some (51, true)),
  (.q (.mv (.t 11)))⟩, ⟨(some 54), (some (51, true)), (.q (.bin .eql (.t 52) (.t 53)))⟩, ⟨(some 55), none, (.q (.pick (.t 51) (.t 54) (.c (.bool false))))⟩, ⟨(some 56), none, (.q (.mv (.t 55)))⟩,
  ⟨(some 57), (some (56, true)), (.q (.mv (.t 12)))⟩, ⟨(some 58), (some (56, true)), (.q (.mv (.t 14)))⟩, ⟨(some 59), (some (56, true)), (.call (.f 23) [(.t 57), (.t 58)])⟩, ⟨(some 60), none,
  (.q (.pick (.t 56) (.t 59) (.c (.bool false))))⟩, ⟨(some 61), none, (.q (.mv (.t 60)))⟩, ⟨(some 62), (some (61, true)), (.q (.mv (.t 13)))⟩, ⟨(some 63), (some (61, true)), (.q (.mv (.t 15)))⟩,
  ⟨(some 64), (some (61, true)), (.q (.bin .eql (.t 62) (.t 63)))⟩, ⟨(some 65), none, (.q (.pick (.t 61) (.t 64) (.c (.bool false))))⟩, ⟨(some 66), none, (.q (.mv (.t 65)))⟩, ⟨(some 67), (some (66,
  true)), (.q (.mv (.t 0)))⟩, ⟨(some 70), (some (66, true)), (.q (.mv (.t 0)))⟩, ⟨(some 68), (some (66, true)), (.call (.f 33) [(.t 67)])⟩, ⟨(some 69), (some (66, true)), (.q (.bin .eql (.t 68)
  (.c (.int .i64 0))))⟩, ⟨(some 71), (some (66, true)), (.call (.f 50) [(.t 70)])⟩, ⟨(some 72), (some (66, true)), (.q (.beq false (.t 69) (.t 71)))⟩, ⟨(some 73), none, (.q (.pick (.t 66) (.t 72)
  (.c (.bool false))))⟩, ⟨(some 74), none, (.q (.mv (.t 73)))⟩, ⟨(some 75), (some (74, true)), (.q (.mv (.t 0)))⟩, ⟨(some 76), (some (74, true)), (.q (.fa (.t 4) 0))⟩, ⟨(some 77), (some (74, true)),
  (.q (.ld (.t 76) 1 false))⟩, ⟨(some 79), (some (74, true)), (.q (.mv (.t 0)))⟩, ⟨(some 80), (some (74, true)), (.q (.fa (.t 4) 0))⟩, ⟨(some 81), (some (74, true)), (.q (.ld (.t 80) 1 false))⟩,
  ⟨(some 78), (some (74, true)), (.call (.f 24) [(.t 75), (.t 77)])⟩, ⟨(some 82), (some (74, true)), (.call (.f 51) [(.t 79), (.t 81)])⟩, ⟨(some 83), (some (74, true)), (.q (.bin .eql (.t 78)
  (.t 82)))⟩, ⟨(some 84), none, (.q (.pick (.t 74) (.t 83) (.c (.bool false))))⟩, ⟨(some 85), none, (.q (.mv (.t 84)))⟩, ⟨(some 86), (some (85, true)), (.q (.mv (.t 0)))⟩, ⟨(some 87), (some (85,
  true)), (.q (.mv (.t 8)))⟩, ⟨(some 89), (some (85, true)), (.q (.mv (.t 0)))⟩, ⟨(some 90), (some (85, true)), (.q (.mv (.t 8)))⟩, ⟨(some 88), (some (85, true)), (.call (.f 52) [(.t 86), (.t 87)])⟩,
  ⟨(some 91), (some (85, true)), (.call (.f 23) [(.t 89), (.t 90)])⟩, ⟨(some 92), (some (85, true)), (.q (.beq false (.t 88) (.t 91)))⟩, ⟨(some 93), none, (.q (.pick (.t 85) (.t 92)
  (.c (.bool false))))⟩, ⟨(some 94), none, (.q (.mv (.t 93)))⟩, ⟨(some 95), (some (94, true)), (.q (.mv (.t 0)))⟩, ⟨(some 96), (some (94, true)), (.q (.mv (.t 7)))⟩, ⟨(some 97), (some (94, true)),
  (.call (.f 23) [(.t 95), (.t 96)])⟩, ⟨(some 98), none, (.q (.pick (.t 94) (.t 97) (.c (.bool false))))⟩, ⟨(some 99), none, (.q (.mv (.t 98)))⟩, ⟨(some 100), (some (99, true)), (.call (.f 22) [])⟩,
  ⟨(some 101), none, (.q (.pick (.t 99) (.t 100) (.c (.bool false))))⟩, ⟨(some 6), none, (.q (.mv (.t 101)))⟩] [] [6] [1025, 1031, 1038, 1045, 1050, 1059, 1068, 1071, 1078, 1082, 1088, 1091, 1097,
  1100]) .ret))))))))
theorem mc13 : ofCode Try.prog [] Try.f13.ntmps [(0, ⟨[0, 2, 4], [4, 1017, 1019], [], 0, [], none⟩),
    (1, ⟨[0, 2, 4], [4, 1017, 1019], [(0, 59), (2, 60), (1, 0), (3, 0), (4, 48), (5, 0)], 31, [], none⟩),
    (2, ⟨[0, 2, 4, 7], [4, 1017, 1019, 1021], [], 0, [], none⟩),
    (3, ⟨[0, 2, 4, 7, 8, 9], [4, 1017, 1019, 1021, 1025], [], 0, [], none⟩),
    (4, ⟨[0, 2, 4, 7, 8, 9, 10, 11], [4, 1017, 1019, 1021, 1025, 1031], [], 0, [], none⟩),
    (5, ⟨[0, 2, 4, 7, 8, 9, 10, 11, 12, 13], [4, 1017, 1019, 1021, 1025, 1031, 1038], [], 0, [], none⟩),
    (6, ⟨[0, 4, 7, 8, 9, 10, 11, 12, 13, 14, 15], [4, 1017, 1019, 1021, 1025, 1031, 1038, 1045], [], 0, [], none⟩),
    (7, ⟨[6], [1025, 1031, 1038, 1045, 1050, 1059, 1068, 1071, 1078, 1082, 1088, 1091, 1097, 1100], [(0, 36028797018963965), (1, 36028797018963966), (2, 0), (3, 36028797018963960), (4, 36028797018963920), (5, 36028797018963936), (6, 36028797018963904), (7, 36028797018963840), (8, 36028797018963712), (9, 36028797018962432), (10, 36028797018962944), (11, 0), (12, 36028797018959872), (13, 36028797018955776), (14, 36028797018914816), (15, 36028797018931200), (16, 36028797018898432), (17, 36028797018832896), (18, 36028797018701824), (19, 36028797014245376), (22, 36028797014769664), (20, 0), (21, 36028797004283904), (23, 0), (24, 36028797002186752), (25, 36028796985409536), (26, 36028796951855104), (27, 36028781047054336), (28, 36028781718142976), (29, 36028781449707520), (31, 36028781986578432), (32, 36028792723996672), (33, 36028788429029376), (30, 0), (34, 0), (35, 36028762659225600), (36, 36028728299487232), (37, 36028659580010496), (38, 36021375315476480), (39, 36021650193383424), (41, 36022199949197312), (42, 36024398972452864), (40, 0), (43, 0), (44, 36011204832919552), (45, 35993612646875136), (46, 35958428274786304), (47, 35606584553897984), (48, 35747322042253312), (49, 0), (50, 34902897112121344), (51, 33776997205278720), (52, 0), (53, 27021597764222976), (54, 18014398509481984)], 36028797018963967, [], none⟩)] (Try.f13.body.getD .skip) = some M13 := by kernel_rfl
theorem Run13 {args : List PV} {v : AV} {rs : List (Nat × List PV)} (ids : List Bool) (h : args.length ≤ 102) (hv : run Try.prog (retK [RV.tmp 6] ids v rs) M13 [] ⟨entry 0 args, []⟩) : Fn Try.prog 13 args v rs :=
  Fn_run ids (by kernel_rfl) Try.func13 (by decide) rfl mc13 (by kernel_rfl) (by rw [Try.ntmps13]; exact h) (by rw [Try.ntmps13]; decide) hv

end Go.Vc

namespace Go.Vc
open Go.Proofs
set_option linter.unusedSimpArgs false
set_option linter.unusedVariables false

/-! ## Outputs that come again -/
theorem cmpI_lt {a b : Int} : cmpI a b < 0 ↔ a < b := by unfold cmpI; split <;> (try split) <;> simp <;> omega
theorem fn87 (y : Ot) (n : Int) : Fn Try.prog 87 [y.pv, pU n] (.pv (pI (cmpI y.id n))) [] := by
  refine Run87 [] (by simp) ?_
  simp only [go_sem, Nat.reduceEqDiff, Nat.reduceBEq, Nat.reduceAdd, Nat.reduceMul, Nat.reduceSub, Nat.reduceLeDiff, Nat.reduceLT, reduceIte, reduceCtorEq, Int.reduceToNat, Int.reduceLE, Int.reduceLT, Int.reduceNeg, Bool.not_not, and_self, Bool.and_eq_false_iff, Int.cast_ofNat_Int, Int.reduceAdd, Int.reduceSub, Int.reduceMul, Int.reduceEq, Int.reduceNe, M87]
  refine runR_callf (by simp only [go_sem, Nat.reduceEqDiff, Nat.reduceBEq, Nat.reduceAdd, Nat.reduceMul, Nat.reduceSub, Nat.reduceLeDiff, Nat.reduceLT, reduceIte, reduceCtorEq, Int.reduceToNat, Int.reduceLE, Int.reduceLT, Int.reduceNeg, Bool.not_not, and_self, Bool.and_eq_false_iff, Int.cast_ofNat_Int, Int.reduceAdd, Int.reduceSub, Int.reduceMul, Int.reduceEq, Int.reduceNe]) (by simp only [go_sem, Nat.reduceEqDiff, Nat.reduceBEq, Nat.reduceAdd, Nat.reduceMul, Nat.reduceSub, Nat.reduceLeDiff, Nat.reduceLT, reduceIte, reduceCtorEq, Int.reduceToNat, Int.reduceLE, Int.reduceLT, Int.reduceNeg, Bool.not_not, and_self, Bool.and_eq_false_iff, Int.cast_ofNat_Int, Int.reduceAdd, Int.reduceSub, Int.reduceMul, Int.reduceEq, Int.reduceNe] <;> rfl) (fn79 y.id n) ⟨rfl, trivial⟩ trivial ?_
  simp only [go_sem, Nat.reduceEqDiff, Nat.reduceBEq, Nat.reduceAdd, Nat.reduceMul, Nat.reduceSub, Nat.reduceLeDiff, Nat.reduceLT, reduceIte, reduceCtorEq, Int.reduceToNat, Int.reduceLE, Int.reduceLT, Int.reduceNeg, Bool.not_not, and_self, Bool.and_eq_false_iff, Int.cast_ofNat_Int, Int.reduceAdd, Int.reduceSub, Int.reduceMul, Int.reduceEq, Int.reduceNe]
/-- how many have a smaller Id -/
def posO (l : List Ot) (n : Int) : Nat := (l.takeWhile (fun y => decide (y.id < n))).length
theorem posO_of {l : List Ot} {n : Int} {i : Nat} (h0 : i ≤ l.length) (h1 : ∀ j (h : j < l.length), j < i → l[j].id < n) (h2 : ∀ j (h : j < l.length), i ≤ j → ¬ l[j].id < n) : posO l n = i := by
  have go : ∀ {l : List Ot} {i : Nat}, i ≤ l.length → (∀ j (h : j < l.length), j < i → l[j].id < n) → (∀ j (h : j < l.length), i ≤ j → ¬ l[j].id < n) → posO l n = i := by
    intro l
    induction l with
    | nil => intro i h0 _ _; simp at h0; simp [posO, h0]
    | cons a l ih =>
      intro i h0 h1 h2
      unfold posO
      cases i with
      | zero =>
        have := h2 0 (by simp) (by omega)
        simp only [List.getElem_cons_zero] at this
        simp [List.takeWhile_cons, this]
      | succ i =>
        have := h1 0 (by simp) (by omega)
        simp only [List.getElem_cons_zero] at this
        simp only [List.takeWhile_cons, this, decide_true, if_true, List.length_cons]
        congr 1
        exact ih (by simpa using h0) (fun j hj hji => by have := h1 (j + 1) (by simpa using hj) (by omega); simpa using this) (fun j hj hji => by have := h2 (j + 1) (by simpa using hj) (by omega); simpa using this)
  exact go h0 h1 h2
theorem fn86 (l : List Ot) (n : Int) (hl : l.length < 100000) (hs : l.Pairwise OtLt) : ∃ b : Bool, Fn Try.prog 86 [os l, pU n, .fn 87 []] (.pv (.tup [pI (posO l n), pB b])) [] := by
  refine ⟨decide (posO l n < l.length) && decide (cmpI (l.getD (posO l n) default).id n = 0), ?_⟩
  have ord : ∀ i j (hi : i < l.length) (hj : j < l.length), i < j → l[i].id < l[j].id := fun i j hi hj hij => List.pairwise_iff_getElem.1 hs i j hi hj hij
  refine Run86 [] (by simp) ?_
  simp only [go_sem, Nat.reduceEqDiff, Nat.reduceBEq, Nat.reduceAdd, Nat.reduceMul, Nat.reduceSub, Nat.reduceLeDiff, Nat.reduceLT, reduceIte, reduceCtorEq, Int.reduceToNat, Int.reduceLE, Int.reduceLT, Int.reduceNeg, Bool.not_not, and_self, Bool.and_eq_false_iff, Int.cast_ofNat_Int, Int.reduceAdd, Int.reduceSub, Int.reduceMul, Int.reduceEq, Int.reduceNe, M86]
  refine run_loop (T := Nat × Nat) (fun t => ⟨[(0, .pv (os l)), (1, .pv (pU n)), (2, .pv (.fn 87 [])), (8, .pv (pI l.length)), (9, .pv (pI t.1)), (10, .pv (pI t.2))], []⟩)
    (fun t => t.1 ≤ t.2 ∧ t.2 ≤ l.length ∧ (∀ j (h : j < l.length), j < t.1 → l[j].id < n) ∧ (∀ j (h : j < l.length), t.2 ≤ j → ¬ l[j].id < n)) (fun t => t.2 - t.1) (0, l.length) rfl ⟨Nat.zero_le _, Nat.le_refl _, fun j _ h => absurd h (by omega), fun j h h2 => absurd h (by omega)⟩ ?_
  intro ⟨i, j⟩ ⟨hij, hj, h1, h2⟩
  simp only at hij hj h1 h2 ⊢
  by_cases hlt : i < j
  · have hm : (i + j) / 2 < l.length := by omega
    obtain ⟨m, hme⟩ : ∃ m, m = (i + j) / 2 := ⟨_, rfl⟩
    rw [← hme] at hm
    have e1 : ((i : Int) + (j : Int)).fdiv (2 ^ 1) = (m : Int) := by
      rw [Int.fdiv_eq_ediv_of_nonneg _ (by omega)]; omega
    simp only [go_sem, Nat.reduceEqDiff, Nat.reduceBEq, Nat.reduceAdd, Nat.reduceMul, Nat.reduceSub, Nat.reduceLeDiff, Nat.reduceLT, reduceIte, reduceCtorEq, Int.reduceToNat, Int.reduceLE, Int.reduceLT, Int.reduceNeg, Bool.not_not, and_self, Bool.and_eq_false_iff, Int.cast_ofNat_Int, Int.reduceAdd, Int.reduceSub, Int.reduceMul, Int.reduceEq, Int.reduceNe, B86_0, wf_os, e1, getD_map hm, show (i : Int) < (j : Int) by omega]
    refine ⟨⟨by omega, by omega⟩, ⟨by omega, by omega⟩, ⟨by omega, by omega⟩, by omega, ?_⟩
    refine runR_callf (by simp only [go_sem, Nat.reduceEqDiff, Nat.reduceBEq, Nat.reduceAdd, Nat.reduceMul, Nat.reduceSub, Nat.reduceLeDiff, Nat.reduceLT, reduceIte, reduceCtorEq, Int.reduceToNat, Int.reduceLE, Int.reduceLT, Int.reduceNeg, Bool.not_not, and_self, Bool.and_eq_false_iff, Int.cast_ofNat_Int, Int.reduceAdd, Int.reduceSub, Int.reduceMul, Int.reduceEq, Int.reduceNe]) (by simp only [go_sem, Nat.reduceEqDiff, Nat.reduceBEq, Nat.reduceAdd, Nat.reduceMul, Nat.reduceSub, Nat.reduceLeDiff, Nat.reduceLT, reduceIte, reduceCtorEq, Int.reduceToNat, Int.reduceLE, Int.reduceLT, Int.reduceNeg, Bool.not_not, and_self, Bool.and_eq_false_iff, Int.cast_ofNat_Int, Int.reduceAdd, Int.reduceSub, Int.reduceMul, Int.reduceEq, Int.reduceNe] <;> rfl) (fn87 l[m] n) ⟨rfl, trivial⟩ trivial ?_
    simp only [go_sem, Nat.reduceEqDiff, Nat.reduceBEq, Nat.reduceAdd, Nat.reduceMul, Nat.reduceSub, Nat.reduceLeDiff, Nat.reduceLT, reduceIte, reduceCtorEq, Int.reduceToNat, Int.reduceLE, Int.reduceLT, Int.reduceNeg, Bool.not_not, and_self, Bool.and_eq_false_iff, Int.cast_ofNat_Int, Int.reduceAdd, Int.reduceSub, Int.reduceMul, Int.reduceEq, Int.reduceNe]
    rw [cmpI_lt]
    refine ⟨fun hc => ⟨⟨by omega, by omega⟩, (m + 1, j), rfl, ⟨by show m + 1 ≤ j; omega, hj, fun q hq hqm => ?_, h2⟩, by show j - (m + 1) < j - i; omega⟩, fun hc => ⟨(i, m), rfl, ⟨by show i ≤ m; omega, by show m ≤ _; omega, h1, fun q hq hqm => ?_⟩, by show m - i < j - i; omega⟩⟩
    · by_cases e : q = m
      · subst e; exact hc
      · have hqm' : q < m + 1 := hqm
        have := ord q m hq hm (by omega); omega
    · by_cases e : q = m
      · subst e; exact hc
      · have hqm' : m ≤ q := hqm
        have := ord m q hm hq (by omega); omega
  · have : i = j := by omega
    subst this
    have hp : posO l n = i := posO_of hj h1 h2
    rw [hp]
    by_cases hil : i < l.length
    · simp only [go_sem, Nat.reduceEqDiff, Nat.reduceBEq, Nat.reduceAdd, Nat.reduceMul, Nat.reduceSub, Nat.reduceLeDiff, Nat.reduceLT, reduceIte, reduceCtorEq, Int.reduceToNat, Int.reduceLE, Int.reduceLT, Int.reduceNeg, Bool.not_not, and_self, Bool.and_eq_false_iff, Int.cast_ofNat_Int, Int.reduceAdd, Int.reduceSub, Int.reduceMul, Int.reduceEq, Int.reduceNe, B86_0, R86_0, wf_os, getD_map hil, show ¬ (i : Int) < (i : Int) by omega, show (i : Int) < (l.length : Int) by omega]
      refine runR_callgf (by simp only [go_sem, Nat.reduceEqDiff, Nat.reduceBEq, Nat.reduceAdd, Nat.reduceMul, Nat.reduceSub, Nat.reduceLeDiff, Nat.reduceLT, reduceIte, reduceCtorEq, Int.reduceToNat, Int.reduceLE, Int.reduceLT, Int.reduceNeg, Bool.not_not, and_self, Bool.and_eq_false_iff, Int.cast_ofNat_Int, Int.reduceAdd, Int.reduceSub, Int.reduceMul, Int.reduceEq, Int.reduceNe]) (by simp only [go_sem, Nat.reduceEqDiff, Nat.reduceBEq, Nat.reduceAdd, Nat.reduceMul, Nat.reduceSub, Nat.reduceLeDiff, Nat.reduceLT, reduceIte, reduceCtorEq, Int.reduceToNat, Int.reduceLE, Int.reduceLT, Int.reduceNeg, Bool.not_not, and_self, Bool.and_eq_false_iff, Int.cast_ofNat_Int, Int.reduceAdd, Int.reduceSub, Int.reduceMul, Int.reduceEq, Int.reduceNe]) (by simp only [go_sem, Nat.reduceEqDiff, Nat.reduceBEq, Nat.reduceAdd, Nat.reduceMul, Nat.reduceSub, Nat.reduceLeDiff, Nat.reduceLT, reduceIte, reduceCtorEq, Int.reduceToNat, Int.reduceLE, Int.reduceLT, Int.reduceNeg, Bool.not_not, and_self, Bool.and_eq_false_iff, Int.cast_ofNat_Int, Int.reduceAdd, Int.reduceSub, Int.reduceMul, Int.reduceEq, Int.reduceNe] <;> rfl) (fun _ => fn87 l[i] n) rfl ?_
      simp only [go_sem, Nat.reduceEqDiff, Nat.reduceBEq, Nat.reduceAdd, Nat.reduceMul, Nat.reduceSub, Nat.reduceLeDiff, Nat.reduceLT, reduceIte, reduceCtorEq, Int.reduceToNat, Int.reduceLE, Int.reduceLT, Int.reduceNeg, Bool.not_not, and_self, Bool.and_eq_false_iff, Int.cast_ofNat_Int, Int.reduceAdd, Int.reduceSub, Int.reduceMul, Int.reduceEq, Int.reduceNe, hil]
      rw [getD_get hil]
    · simp only [go_sem, Nat.reduceEqDiff, Nat.reduceBEq, Nat.reduceAdd, Nat.reduceMul, Nat.reduceSub, Nat.reduceLeDiff, Nat.reduceLT, reduceIte, reduceCtorEq, Int.reduceToNat, Int.reduceLE, Int.reduceLT, Int.reduceNeg, Bool.not_not, and_self, Bool.and_eq_false_iff, Int.cast_ofNat_Int, Int.reduceAdd, Int.reduceSub, Int.reduceMul, Int.reduceEq, Int.reduceNe, B86_0, R86_0, wf_os, show ¬ (i : Int) < (i : Int) by omega, show ¬ (i : Int) < (l.length : Int) by omega]
      refine runR_callgf (p := pI 0) (by simp only [go_sem, Nat.reduceEqDiff, Nat.reduceBEq, Nat.reduceAdd, Nat.reduceMul, Nat.reduceSub, Nat.reduceLeDiff, Nat.reduceLT, reduceIte, reduceCtorEq, Int.reduceToNat, Int.reduceLE, Int.reduceLT, Int.reduceNeg, Bool.not_not, and_self, Bool.and_eq_false_iff, Int.cast_ofNat_Int, Int.reduceAdd, Int.reduceSub, Int.reduceMul, Int.reduceEq, Int.reduceNe]) (by simp only [go_sem, Nat.reduceEqDiff, Nat.reduceBEq, Nat.reduceAdd, Nat.reduceMul, Nat.reduceSub, Nat.reduceLeDiff, Nat.reduceLT, reduceIte, reduceCtorEq, Int.reduceToNat, Int.reduceLE, Int.reduceLT, Int.reduceNeg, Bool.not_not, and_self, Bool.and_eq_false_iff, Int.cast_ofNat_Int, Int.reduceAdd, Int.reduceSub, Int.reduceMul, Int.reduceEq, Int.reduceNe]) (by simp only [go_sem, Nat.reduceEqDiff, Nat.reduceBEq, Nat.reduceAdd, Nat.reduceMul, Nat.reduceSub, Nat.reduceLeDiff, Nat.reduceLT, reduceIte, reduceCtorEq, Int.reduceToNat, Int.reduceLE, Int.reduceLT, Int.reduceNeg, Bool.not_not, and_self, Bool.and_eq_false_iff, Int.cast_ofNat_Int, Int.reduceAdd, Int.reduceSub, Int.reduceMul, Int.reduceEq, Int.reduceNe] <;> rfl) (fun h => absurd h (by simp only [go_sem, Nat.reduceEqDiff, Nat.reduceBEq, Nat.reduceAdd, Nat.reduceMul, Nat.reduceSub, Nat.reduceLeDiff, Nat.reduceLT, reduceIte, reduceCtorEq, Int.reduceToNat, Int.reduceLE, Int.reduceLT, Int.reduceNeg, Bool.not_not, and_self, Bool.and_eq_false_iff, Int.cast_ofNat_Int, Int.reduceAdd, Int.reduceSub, Int.reduceMul, Int.reduceEq, Int.reduceNe])) rfl ?_
      simp only [go_sem, Nat.reduceEqDiff, Nat.reduceBEq, Nat.reduceAdd, Nat.reduceMul, Nat.reduceSub, Nat.reduceLeDiff, Nat.reduceLT, reduceIte, reduceCtorEq, Int.reduceToNat, Int.reduceLE, Int.reduceLT, Int.reduceNeg, Bool.not_not, and_self, Bool.and_eq_false_iff, Int.cast_ofNat_Int, Int.reduceAdd, Int.reduceSub, Int.reduceMul, Int.reduceEq, Int.reduceNe, hil]
def againO (l : List Ot) (x : Ot) (now : Int) : List Ot × Int :=
  if checkO l = false ∨ timeB now = false ∨ mayO x = false then ([], 1) else if 0 ≤ findO l x.id then ([], 5) else if 100 ≤ l.length then ([], 6)
  else (putL l (posO l x.id) { x with tries := 0, due := now }, 0)
theorem fn47 (l : List Ot) (x : Ot) (now : Int) (hl : l.length < 100000) : Fn Try.prog 47 [os l, x.pv, pI now] (.pv (.tup [os (againO l x now).1, pI (againO l x now).2])) [] := by
  refine Run47 [false, false] (by simp) ?_
  simp only [go_sem, Nat.reduceEqDiff, Nat.reduceBEq, Nat.reduceAdd, Nat.reduceMul, Nat.reduceSub, Nat.reduceLeDiff, Nat.reduceLT, reduceIte, reduceCtorEq, Int.reduceToNat, Int.reduceLE, Int.reduceLT, Int.reduceNeg, Bool.not_not, and_self, Bool.and_eq_false_iff, Int.cast_ofNat_Int, Int.reduceAdd, Int.reduceSub, Int.reduceMul, Int.reduceEq, Int.reduceNe, M47]
  refine runR_callf (by simp only [go_sem, Nat.reduceEqDiff, Nat.reduceBEq, Nat.reduceAdd, Nat.reduceMul, Nat.reduceSub, Nat.reduceLeDiff, Nat.reduceLT, reduceIte, reduceCtorEq, Int.reduceToNat, Int.reduceLE, Int.reduceLT, Int.reduceNeg, Bool.not_not, and_self, Bool.and_eq_false_iff, Int.cast_ofNat_Int, Int.reduceAdd, Int.reduceSub, Int.reduceMul, Int.reduceEq, Int.reduceNe]) (by simp only [go_sem, Nat.reduceEqDiff, Nat.reduceBEq, Nat.reduceAdd, Nat.reduceMul, Nat.reduceSub, Nat.reduceLeDiff, Nat.reduceLT, reduceIte, reduceCtorEq, Int.reduceToNat, Int.reduceLE, Int.reduceLT, Int.reduceNeg, Bool.not_not, and_self, Bool.and_eq_false_iff, Int.cast_ofNat_Int, Int.reduceAdd, Int.reduceSub, Int.reduceMul, Int.reduceEq, Int.reduceNe] <;> rfl) (fn33 l hl) ⟨rfl, trivial⟩ trivial ?_
  simp only [go_sem, Nat.reduceEqDiff, Nat.reduceBEq, Nat.reduceAdd, Nat.reduceMul, Nat.reduceSub, Nat.reduceLeDiff, Nat.reduceLT, reduceIte, reduceCtorEq, Int.reduceToNat, Int.reduceLE, Int.reduceLT, Int.reduceNeg, Bool.not_not, and_self, Bool.and_eq_false_iff, Int.cast_ofNat_Int, Int.reduceAdd, Int.reduceSub, Int.reduceMul, Int.reduceEq, Int.reduceNe, errN_dec, errN_iff]
  refine runR_callgf (by simp only [go_sem, Nat.reduceEqDiff, Nat.reduceBEq, Nat.reduceAdd, Nat.reduceMul, Nat.reduceSub, Nat.reduceLeDiff, Nat.reduceLT, reduceIte, reduceCtorEq, Int.reduceToNat, Int.reduceLE, Int.reduceLT, Int.reduceNeg, Bool.not_not, and_self, Bool.and_eq_false_iff, Int.cast_ofNat_Int, Int.reduceAdd, Int.reduceSub, Int.reduceMul, Int.reduceEq, Int.reduceNe]) (by simp only [go_sem, Nat.reduceEqDiff, Nat.reduceBEq, Nat.reduceAdd, Nat.reduceMul, Nat.reduceSub, Nat.reduceLeDiff, Nat.reduceLT, reduceIte, reduceCtorEq, Int.reduceToNat, Int.reduceLE, Int.reduceLT, Int.reduceNeg, Bool.not_not, and_self, Bool.and_eq_false_iff, Int.cast_ofNat_Int, Int.reduceAdd, Int.reduceSub, Int.reduceMul, Int.reduceEq, Int.reduceNe]) (by simp only [go_sem, Nat.reduceEqDiff, Nat.reduceBEq, Nat.reduceAdd, Nat.reduceMul, Nat.reduceSub, Nat.reduceLeDiff, Nat.reduceLT, reduceIte, reduceCtorEq, Int.reduceToNat, Int.reduceLE, Int.reduceLT, Int.reduceNeg, Bool.not_not, and_self, Bool.and_eq_false_iff, Int.cast_ofNat_Int, Int.reduceAdd, Int.reduceSub, Int.reduceMul, Int.reduceEq, Int.reduceNe] <;> rfl) (fun _ => fn73 now) rfl ?_
  simp only [go_sem, Nat.reduceEqDiff, Nat.reduceBEq, Nat.reduceAdd, Nat.reduceMul, Nat.reduceSub, Nat.reduceLeDiff, Nat.reduceLT, reduceIte, reduceCtorEq, Int.reduceToNat, Int.reduceLE, Int.reduceLT, Int.reduceNeg, Bool.not_not, and_self, Bool.and_eq_false_iff, Int.cast_ofNat_Int, Int.reduceAdd, Int.reduceSub, Int.reduceMul, Int.reduceEq, Int.reduceNe]
  refine runR_callgf (by simp only [go_sem, Nat.reduceEqDiff, Nat.reduceBEq, Nat.reduceAdd, Nat.reduceMul, Nat.reduceSub, Nat.reduceLeDiff, Nat.reduceLT, reduceIte, reduceCtorEq, Int.reduceToNat, Int.reduceLE, Int.reduceLT, Int.reduceNeg, Bool.not_not, and_self, Bool.and_eq_false_iff, Int.cast_ofNat_Int, Int.reduceAdd, Int.reduceSub, Int.reduceMul, Int.reduceEq, Int.reduceNe]) (by simp only [go_sem, Nat.reduceEqDiff, Nat.reduceBEq, Nat.reduceAdd, Nat.reduceMul, Nat.reduceSub, Nat.reduceLeDiff, Nat.reduceLT, reduceIte, reduceCtorEq, Int.reduceToNat, Int.reduceLE, Int.reduceLT, Int.reduceNeg, Bool.not_not, and_self, Bool.and_eq_false_iff, Int.cast_ofNat_Int, Int.reduceAdd, Int.reduceSub, Int.reduceMul, Int.reduceEq, Int.reduceNe]) (by simp only [go_sem, Nat.reduceEqDiff, Nat.reduceBEq, Nat.reduceAdd, Nat.reduceMul, Nat.reduceSub, Nat.reduceLeDiff, Nat.reduceLT, reduceIte, reduceCtorEq, Int.reduceToNat, Int.reduceLE, Int.reduceLT, Int.reduceNeg, Bool.not_not, and_self, Bool.and_eq_false_iff, Int.cast_ofNat_Int, Int.reduceAdd, Int.reduceSub, Int.reduceMul, Int.reduceEq, Int.reduceNe] <;> rfl) (fun _ => fn71 x) rfl ?_
  simp only [go_sem, Nat.reduceEqDiff, Nat.reduceBEq, Nat.reduceAdd, Nat.reduceMul, Nat.reduceSub, Nat.reduceLeDiff, Nat.reduceLT, reduceIte, reduceCtorEq, Int.reduceToNat, Int.reduceLE, Int.reduceLT, Int.reduceNeg, Bool.not_not, and_self, Bool.and_eq_false_iff, Int.cast_ofNat_Int, Int.reduceAdd, Int.reduceSub, Int.reduceMul, Int.reduceEq, Int.reduceNe]
  unfold againO
  refine ⟨fun h => ?_, fun h => ?_⟩
  · rw [if_pos (by rcases h with (h | h) | h <;> simp [h])]; rfl
  obtain ⟨⟨hc, ht⟩, hm⟩ := h
  rw [if_neg (by rw [hc, ht, hm]; simp)]
  refine runR_callf (by simp only [go_sem, Nat.reduceEqDiff, Nat.reduceBEq, Nat.reduceAdd, Nat.reduceMul, Nat.reduceSub, Nat.reduceLeDiff, Nat.reduceLT, reduceIte, reduceCtorEq, Int.reduceToNat, Int.reduceLE, Int.reduceLT, Int.reduceNeg, Bool.not_not, and_self, Bool.and_eq_false_iff, Int.cast_ofNat_Int, Int.reduceAdd, Int.reduceSub, Int.reduceMul, Int.reduceEq, Int.reduceNe]) (by simp only [go_sem, Nat.reduceEqDiff, Nat.reduceBEq, Nat.reduceAdd, Nat.reduceMul, Nat.reduceSub, Nat.reduceLeDiff, Nat.reduceLT, reduceIte, reduceCtorEq, Int.reduceToNat, Int.reduceLE, Int.reduceLT, Int.reduceNeg, Bool.not_not, and_self, Bool.and_eq_false_iff, Int.cast_ofNat_Int, Int.reduceAdd, Int.reduceSub, Int.reduceMul, Int.reduceEq, Int.reduceNe] <;> rfl) (fn24 l x.id hl) ⟨rfl, trivial⟩ trivial ?_
  simp only [go_sem, Nat.reduceEqDiff, Nat.reduceBEq, Nat.reduceAdd, Nat.reduceMul, Nat.reduceSub, Nat.reduceLeDiff, Nat.reduceLT, reduceIte, reduceCtorEq, Int.reduceToNat, Int.reduceLE, Int.reduceLT, Int.reduceNeg, Bool.not_not, and_self, Bool.and_eq_false_iff, Int.cast_ofNat_Int, Int.reduceAdd, Int.reduceSub, Int.reduceMul, Int.reduceEq, Int.reduceNe]
  refine ⟨fun h => by rw [if_pos h]; rfl, fun h => ⟨fun h5 => by rw [if_neg h, if_pos (by omega)]; rfl, fun h5 => ?_⟩⟩
  rw [if_neg h, if_neg (by omega)]
  obtain ⟨b, hb⟩ := fn86 l x.id hl (checkO_ord hc)
  refine runR_callf (by simp only [go_sem, Nat.reduceEqDiff, Nat.reduceBEq, Nat.reduceAdd, Nat.reduceMul, Nat.reduceSub, Nat.reduceLeDiff, Nat.reduceLT, reduceIte, reduceCtorEq, Int.reduceToNat, Int.reduceLE, Int.reduceLT, Int.reduceNeg, Bool.not_not, and_self, Bool.and_eq_false_iff, Int.cast_ofNat_Int, Int.reduceAdd, Int.reduceSub, Int.reduceMul, Int.reduceEq, Int.reduceNe]) (by simp only [go_sem, Nat.reduceEqDiff, Nat.reduceBEq, Nat.reduceAdd, Nat.reduceMul, Nat.reduceSub, Nat.reduceLeDiff, Nat.reduceLT, reduceIte, reduceCtorEq, Int.reduceToNat, Int.reduceLE, Int.reduceLT, Int.reduceNeg, Bool.not_not, and_self, Bool.and_eq_false_iff, Int.cast_ofNat_Int, Int.reduceAdd, Int.reduceSub, Int.reduceMul, Int.reduceEq, Int.reduceNe] <;> rfl) (hb) ⟨rfl, trivial⟩ trivial ?_
  simp only [go_sem, Nat.reduceEqDiff, Nat.reduceBEq, Nat.reduceAdd, Nat.reduceMul, Nat.reduceSub, Nat.reduceLeDiff, Nat.reduceLT, reduceIte, reduceCtorEq, Int.reduceToNat, Int.reduceLE, Int.reduceLT, Int.reduceNeg, Bool.not_not, and_self, Bool.and_eq_false_iff, Int.cast_ofNat_Int, Int.reduceAdd, Int.reduceSub, Int.reduceMul, Int.reduceEq, Int.reduceNe]
  refine runG_call (by simp only [go_sem, Nat.reduceEqDiff, Nat.reduceBEq, Nat.reduceAdd, Nat.reduceMul, Nat.reduceSub, Nat.reduceLeDiff, Nat.reduceLT, reduceIte, reduceCtorEq, Int.reduceToNat, Int.reduceLE, Int.reduceLT, Int.reduceNeg, Bool.not_not, and_self, Bool.and_eq_false_iff, Int.cast_ofNat_Int, Int.reduceAdd, Int.reduceSub, Int.reduceMul, Int.reduceEq, Int.reduceNe]) rfl (fn72 l hl) (.inl rfl) trivial ?_
  simp only [go_sem, Nat.reduceEqDiff, Nat.reduceBEq, Nat.reduceAdd, Nat.reduceMul, Nat.reduceSub, Nat.reduceLeDiff, Nat.reduceLT, reduceIte, reduceCtorEq, Int.reduceToNat, Int.reduceLE, Int.reduceLT, Int.reduceNeg, Bool.not_not, and_self, Bool.and_eq_false_iff, Int.cast_ofNat_Int, Int.reduceAdd, Int.reduceSub, Int.reduceMul, Int.reduceEq, Int.reduceNe]
  have hp : posO l x.id ≤ l.length := (List.takeWhile_prefix _).length_le
  have hS := fnS88 (l.map Ot.pv) (wf_os l) (Ot.pv { x with tries := 0, due := now }) (wf_os [{ x with tries := 0, due := now }]) (posO l x.id) (by simpa using hp) (by simpa using hl)
  rw [List.length_map] at hS
  refine runR_calls (fun _ => 1042) (by simp only [go_sem, Nat.reduceEqDiff, Nat.reduceBEq, Nat.reduceAdd, Nat.reduceMul, Nat.reduceSub, Nat.reduceLeDiff, Nat.reduceLT, reduceIte, reduceCtorEq, Int.reduceToNat, Int.reduceLE, Int.reduceLT, Int.reduceNeg, Bool.not_not, and_self, Bool.and_eq_false_iff, Int.cast_ofNat_Int, Int.reduceAdd, Int.reduceSub, Int.reduceMul, Int.reduceEq, Int.reduceNe]) (by simp only [go_sem, Nat.reduceEqDiff, Nat.reduceBEq, Nat.reduceAdd, Nat.reduceMul, Nat.reduceSub, Nat.reduceLeDiff, Nat.reduceLT, reduceIte, reduceCtorEq, Int.reduceToNat, Int.reduceLE, Int.reduceLT, Int.reduceNeg, Bool.not_not, and_self, Bool.and_eq_false_iff, Int.cast_ofNat_Int, Int.reduceAdd, Int.reduceSub, Int.reduceMul, Int.reduceEq, Int.reduceNe] <;> rfl) hS rfl (by intro e he; simp only [List.mem_cons, List.not_mem_nil, or_false] at he; subst he; simp only [go_sem, Nat.reduceEqDiff, Nat.reduceBEq, Nat.reduceAdd, Nat.reduceMul, Nat.reduceSub, Nat.reduceLeDiff, Nat.reduceLT, reduceIte, reduceCtorEq, Int.reduceToNat, Int.reduceLE, Int.reduceLT, Int.reduceNeg, Bool.not_not, and_self, Bool.and_eq_false_iff, Int.cast_ofNat_Int, Int.reduceAdd, Int.reduceSub, Int.reduceMul, Int.reduceEq, Int.reduceNe]) (by simp) (by simp) (by simp) (by intro e he _; decide) ?_
  simp only [go_sem, Nat.reduceEqDiff, Nat.reduceBEq, Nat.reduceAdd, Nat.reduceMul, Nat.reduceSub, Nat.reduceLeDiff, Nat.reduceLT, reduceIte, reduceCtorEq, Int.reduceToNat, Int.reduceLE, Int.reduceLT, Int.reduceNeg, Bool.not_not, and_self, Bool.and_eq_false_iff, Int.cast_ofNat_Int, Int.reduceAdd, Int.reduceSub, Int.reduceMul, Int.reduceEq, Int.reduceNe]
  rw [putL_map (f := Ot.pv)]
/-- the document's outputs with one more, or one again -/
def addR (l : List Ot) (x : Ot) : List Ot × Int :=
  if checkO l = false ∨ mayO x = false then ([], 1) else if l.any (fun y => decide (x.id ≤ y.id)) = true then ([], 8) else if 100 ≤ l.length then ([], 6) else (withO l x, 0)
theorem fn48 (l : List Ot) (x : Ot) (hl : l.length < 100000) (hs : ∀ x ∈ l, x.sub.size ≤ 1000) (hx : x.sub.size ≤ 1000) : Fn Try.prog 48 [os l, x.pv] (.pv (.tup [os (addR l x).1, pI (addR l x).2])) [] := by
  refine Run48 [false, false] (by simp) ?_
  simp only [go_sem, Nat.reduceEqDiff, Nat.reduceBEq, Nat.reduceAdd, Nat.reduceMul, Nat.reduceSub, Nat.reduceLeDiff, Nat.reduceLT, reduceIte, reduceCtorEq, Int.reduceToNat, Int.reduceLE, Int.reduceLT, Int.reduceNeg, Bool.not_not, and_self, Bool.and_eq_false_iff, Int.cast_ofNat_Int, Int.reduceAdd, Int.reduceSub, Int.reduceMul, Int.reduceEq, Int.reduceNe, M48]
  refine runR_callf (by simp only [go_sem, Nat.reduceEqDiff, Nat.reduceBEq, Nat.reduceAdd, Nat.reduceMul, Nat.reduceSub, Nat.reduceLeDiff, Nat.reduceLT, reduceIte, reduceCtorEq, Int.reduceToNat, Int.reduceLE, Int.reduceLT, Int.reduceNeg, Bool.not_not, and_self, Bool.and_eq_false_iff, Int.cast_ofNat_Int, Int.reduceAdd, Int.reduceSub, Int.reduceMul, Int.reduceEq, Int.reduceNe]) (by simp only [go_sem, Nat.reduceEqDiff, Nat.reduceBEq, Nat.reduceAdd, Nat.reduceMul, Nat.reduceSub, Nat.reduceLeDiff, Nat.reduceLT, reduceIte, reduceCtorEq, Int.reduceToNat, Int.reduceLE, Int.reduceLT, Int.reduceNeg, Bool.not_not, and_self, Bool.and_eq_false_iff, Int.cast_ofNat_Int, Int.reduceAdd, Int.reduceSub, Int.reduceMul, Int.reduceEq, Int.reduceNe] <;> rfl) (fn50 l hl hs) ⟨rfl, trivial⟩ trivial ?_
  simp only [go_sem, Nat.reduceEqDiff, Nat.reduceBEq, Nat.reduceAdd, Nat.reduceMul, Nat.reduceSub, Nat.reduceLeDiff, Nat.reduceLT, reduceIte, reduceCtorEq, Int.reduceToNat, Int.reduceLE, Int.reduceLT, Int.reduceNeg, Bool.not_not, and_self, Bool.and_eq_false_iff, Int.cast_ofNat_Int, Int.reduceAdd, Int.reduceSub, Int.reduceMul, Int.reduceEq, Int.reduceNe]
  refine runR_callgf (by simp only [go_sem, Nat.reduceEqDiff, Nat.reduceBEq, Nat.reduceAdd, Nat.reduceMul, Nat.reduceSub, Nat.reduceLeDiff, Nat.reduceLT, reduceIte, reduceCtorEq, Int.reduceToNat, Int.reduceLE, Int.reduceLT, Int.reduceNeg, Bool.not_not, and_self, Bool.and_eq_false_iff, Int.cast_ofNat_Int, Int.reduceAdd, Int.reduceSub, Int.reduceMul, Int.reduceEq, Int.reduceNe]) (by simp only [go_sem, Nat.reduceEqDiff, Nat.reduceBEq, Nat.reduceAdd, Nat.reduceMul, Nat.reduceSub, Nat.reduceLeDiff, Nat.reduceLT, reduceIte, reduceCtorEq, Int.reduceToNat, Int.reduceLE, Int.reduceLT, Int.reduceNeg, Bool.not_not, and_self, Bool.and_eq_false_iff, Int.cast_ofNat_Int, Int.reduceAdd, Int.reduceSub, Int.reduceMul, Int.reduceEq, Int.reduceNe]) (by simp only [go_sem, Nat.reduceEqDiff, Nat.reduceBEq, Nat.reduceAdd, Nat.reduceMul, Nat.reduceSub, Nat.reduceLeDiff, Nat.reduceLT, reduceIte, reduceCtorEq, Int.reduceToNat, Int.reduceLE, Int.reduceLT, Int.reduceNeg, Bool.not_not, and_self, Bool.and_eq_false_iff, Int.cast_ofNat_Int, Int.reduceAdd, Int.reduceSub, Int.reduceMul, Int.reduceEq, Int.reduceNe] <;> rfl) (fun _ => fn89 x hx) rfl ?_
  simp only [go_sem, Nat.reduceEqDiff, Nat.reduceBEq, Nat.reduceAdd, Nat.reduceMul, Nat.reduceSub, Nat.reduceLeDiff, Nat.reduceLT, reduceIte, reduceCtorEq, Int.reduceToNat, Int.reduceLE, Int.reduceLT, Int.reduceNeg, Bool.not_not, and_self, Bool.and_eq_false_iff, Int.cast_ofNat_Int, Int.reduceAdd, Int.reduceSub, Int.reduceMul, Int.reduceEq, Int.reduceNe]
  unfold addR
  refine ⟨fun h => ?_, fun h => ?_⟩
  · rw [if_pos (by rcases h with h | h <;> simp [h])]; rfl
  rw [if_neg (by rw [h.1, h.2]; simp)]
  refine run_loop (T := Nat) (fun i => ⟨[(0, .pv (os l)), (3, .ptr 3 0), (6, .pv (pI i))], [(3, .box [.pv (pU x.id), .pv (pS x.sub), .pv (us x.ids), .pv (pI x.tries), .pv (pI x.due)])]⟩) (fun i => i ≤ l.length ∧ ∀ j (h : j < l.length), j < i → l[j].id < x.id) (fun i => l.length - i) 0 rfl ⟨Nat.zero_le _, fun j _ h => absurd h (by omega)⟩ ?_
  intro i ⟨hi, hq⟩
  by_cases hlt : i < l.length
  · simp only [go_sem, Nat.reduceEqDiff, Nat.reduceBEq, Nat.reduceAdd, Nat.reduceMul, Nat.reduceSub, Nat.reduceLeDiff, Nat.reduceLT, reduceIte, reduceCtorEq, Int.reduceToNat, Int.reduceLE, Int.reduceLT, Int.reduceNeg, Bool.not_not, and_self, Bool.and_eq_false_iff, Int.cast_ofNat_Int, Int.reduceAdd, Int.reduceSub, Int.reduceMul, Int.reduceEq, Int.reduceNe, B48_0, wf_os, getD_map hlt, show (i : Int) < (l.length : Int) by omega]
    refine ⟨fun hc => ?_, fun hc => ⟨⟨by omega, by omega⟩, i + 1, rfl, ⟨hlt, fun j hj hji => ?_⟩, by omega⟩⟩
    · rw [if_pos (List.any_eq_true.2 ⟨_, List.getElem_mem hlt, by simpa using hc⟩)]; rfl
    · by_cases e : j = i
      · subst e; omega
      · exact hq j hj (by omega)
  · simp only [go_sem, Nat.reduceEqDiff, Nat.reduceBEq, Nat.reduceAdd, Nat.reduceMul, Nat.reduceSub, Nat.reduceLeDiff, Nat.reduceLT, reduceIte, reduceCtorEq, Int.reduceToNat, Int.reduceLE, Int.reduceLT, Int.reduceNeg, Bool.not_not, and_self, Bool.and_eq_false_iff, Int.cast_ofNat_Int, Int.reduceAdd, Int.reduceSub, Int.reduceMul, Int.reduceEq, Int.reduceNe, B48_0, R48_0, show ¬ (i : Int) < (l.length : Int) by omega]
    have hno : ¬ l.any (fun y => decide (x.id ≤ y.id)) = true := fun h => by
      obtain ⟨y, hy, hc⟩ := List.any_eq_true.1 h
      obtain ⟨j, hj, rfl⟩ := List.mem_iff_getElem.1 hy
      have := hq j hj (by omega)
      simp at hc; omega
    rw [if_neg hno]
    refine ⟨fun h => by rw [if_pos (by omega)]; rfl, fun h => ?_⟩
    rw [if_neg (by omega)]
    refine runR_call (by simp only [go_sem, Nat.reduceEqDiff, Nat.reduceBEq, Nat.reduceAdd, Nat.reduceMul, Nat.reduceSub, Nat.reduceLeDiff, Nat.reduceLT, reduceIte, reduceCtorEq, Int.reduceToNat, Int.reduceLE, Int.reduceLT, Int.reduceNeg, Bool.not_not, and_self, Bool.and_eq_false_iff, Int.cast_ofNat_Int, Int.reduceAdd, Int.reduceSub, Int.reduceMul, Int.reduceEq, Int.reduceNe]) rfl (fn80 l x hl) (.inl rfl) trivial ?_
    simp only [go_sem, Nat.reduceEqDiff, Nat.reduceBEq, Nat.reduceAdd, Nat.reduceMul, Nat.reduceSub, Nat.reduceLeDiff, Nat.reduceLT, reduceIte, reduceCtorEq, Int.reduceToNat, Int.reduceLE, Int.reduceLT, Int.reduceNeg, Bool.not_not, and_self, Bool.and_eq_false_iff, Int.cast_ofNat_Int, Int.reduceAdd, Int.reduceSub, Int.reduceMul, Int.reduceEq, Int.reduceNe]
def againR (l : List Ot) (x : Ot) (now : Int) : List Ot × Int :=
  if checkO l = false ∨ mayO x = false ∨ timeB now = false then ([], 1) else if 0 ≤ findO l x.id then ([], 5) else if 100 ≤ l.length then ([], 6) else (withO l { x with tries := 0, due := now }, 0)
theorem fn49 (l : List Ot) (x : Ot) (now : Int) (hl : l.length < 100000) (hs : ∀ x ∈ l, x.sub.size ≤ 1000) (hx : x.sub.size ≤ 1000) : Fn Try.prog 49 [os l, x.pv, pI now] (.pv (.tup [os (againR l x now).1, pI (againR l x now).2])) [] := by
  refine Run49 [false, false] (by simp) ?_
  simp only [go_sem, Nat.reduceEqDiff, Nat.reduceBEq, Nat.reduceAdd, Nat.reduceMul, Nat.reduceSub, Nat.reduceLeDiff, Nat.reduceLT, reduceIte, reduceCtorEq, Int.reduceToNat, Int.reduceLE, Int.reduceLT, Int.reduceNeg, Bool.not_not, and_self, Bool.and_eq_false_iff, Int.cast_ofNat_Int, Int.reduceAdd, Int.reduceSub, Int.reduceMul, Int.reduceEq, Int.reduceNe, M49]
  refine runR_callf (by simp only [go_sem, Nat.reduceEqDiff, Nat.reduceBEq, Nat.reduceAdd, Nat.reduceMul, Nat.reduceSub, Nat.reduceLeDiff, Nat.reduceLT, reduceIte, reduceCtorEq, Int.reduceToNat, Int.reduceLE, Int.reduceLT, Int.reduceNeg, Bool.not_not, and_self, Bool.and_eq_false_iff, Int.cast_ofNat_Int, Int.reduceAdd, Int.reduceSub, Int.reduceMul, Int.reduceEq, Int.reduceNe]) (by simp only [go_sem, Nat.reduceEqDiff, Nat.reduceBEq, Nat.reduceAdd, Nat.reduceMul, Nat.reduceSub, Nat.reduceLeDiff, Nat.reduceLT, reduceIte, reduceCtorEq, Int.reduceToNat, Int.reduceLE, Int.reduceLT, Int.reduceNeg, Bool.not_not, and_self, Bool.and_eq_false_iff, Int.cast_ofNat_Int, Int.reduceAdd, Int.reduceSub, Int.reduceMul, Int.reduceEq, Int.reduceNe] <;> rfl) (fn50 l hl hs) ⟨rfl, trivial⟩ trivial ?_
  simp only [go_sem, Nat.reduceEqDiff, Nat.reduceBEq, Nat.reduceAdd, Nat.reduceMul, Nat.reduceSub, Nat.reduceLeDiff, Nat.reduceLT, reduceIte, reduceCtorEq, Int.reduceToNat, Int.reduceLE, Int.reduceLT, Int.reduceNeg, Bool.not_not, and_self, Bool.and_eq_false_iff, Int.cast_ofNat_Int, Int.reduceAdd, Int.reduceSub, Int.reduceMul, Int.reduceEq, Int.reduceNe]
  refine runR_callgf (by simp only [go_sem, Nat.reduceEqDiff, Nat.reduceBEq, Nat.reduceAdd, Nat.reduceMul, Nat.reduceSub, Nat.reduceLeDiff, Nat.reduceLT, reduceIte, reduceCtorEq, Int.reduceToNat, Int.reduceLE, Int.reduceLT, Int.reduceNeg, Bool.not_not, and_self, Bool.and_eq_false_iff, Int.cast_ofNat_Int, Int.reduceAdd, Int.reduceSub, Int.reduceMul, Int.reduceEq, Int.reduceNe]) (by simp only [go_sem, Nat.reduceEqDiff, Nat.reduceBEq, Nat.reduceAdd, Nat.reduceMul, Nat.reduceSub, Nat.reduceLeDiff, Nat.reduceLT, reduceIte, reduceCtorEq, Int.reduceToNat, Int.reduceLE, Int.reduceLT, Int.reduceNeg, Bool.not_not, and_self, Bool.and_eq_false_iff, Int.cast_ofNat_Int, Int.reduceAdd, Int.reduceSub, Int.reduceMul, Int.reduceEq, Int.reduceNe]) (by simp only [go_sem, Nat.reduceEqDiff, Nat.reduceBEq, Nat.reduceAdd, Nat.reduceMul, Nat.reduceSub, Nat.reduceLeDiff, Nat.reduceLT, reduceIte, reduceCtorEq, Int.reduceToNat, Int.reduceLE, Int.reduceLT, Int.reduceNeg, Bool.not_not, and_self, Bool.and_eq_false_iff, Int.cast_ofNat_Int, Int.reduceAdd, Int.reduceSub, Int.reduceMul, Int.reduceEq, Int.reduceNe] <;> rfl) (fun _ => fn89 x hx) rfl ?_
  simp only [go_sem, Nat.reduceEqDiff, Nat.reduceBEq, Nat.reduceAdd, Nat.reduceMul, Nat.reduceSub, Nat.reduceLeDiff, Nat.reduceLT, reduceIte, reduceCtorEq, Int.reduceToNat, Int.reduceLE, Int.reduceLT, Int.reduceNeg, Bool.not_not, and_self, Bool.and_eq_false_iff, Int.cast_ofNat_Int, Int.reduceAdd, Int.reduceSub, Int.reduceMul, Int.reduceEq, Int.reduceNe]
  unfold againR
  refine ⟨fun h => ?_, fun h => ?_⟩
  · have : checkO l = false ∨ mayO x = false ∨ timeB now = false := by
      rcases h with ((h | h) | h) | h
      · exact .inl h
      · exact .inr (.inl h)
      · right; right; simp [timeB]; omega
      · right; right; simp [timeB]; omega
    rw [if_pos this]; rfl
  have ht : timeB now = true := by rw [timeB_iff]; omega
  rw [if_neg (by rw [h.1.1.1, h.1.1.2, ht]; simp)]
  refine runR_callf (by simp only [go_sem, Nat.reduceEqDiff, Nat.reduceBEq, Nat.reduceAdd, Nat.reduceMul, Nat.reduceSub, Nat.reduceLeDiff, Nat.reduceLT, reduceIte, reduceCtorEq, Int.reduceToNat, Int.reduceLE, Int.reduceLT, Int.reduceNeg, Bool.not_not, and_self, Bool.and_eq_false_iff, Int.cast_ofNat_Int, Int.reduceAdd, Int.reduceSub, Int.reduceMul, Int.reduceEq, Int.reduceNe]) (by simp only [go_sem, Nat.reduceEqDiff, Nat.reduceBEq, Nat.reduceAdd, Nat.reduceMul, Nat.reduceSub, Nat.reduceLeDiff, Nat.reduceLT, reduceIte, reduceCtorEq, Int.reduceToNat, Int.reduceLE, Int.reduceLT, Int.reduceNeg, Bool.not_not, and_self, Bool.and_eq_false_iff, Int.cast_ofNat_Int, Int.reduceAdd, Int.reduceSub, Int.reduceMul, Int.reduceEq, Int.reduceNe] <;> rfl) (fn51 l x.id hl) ⟨rfl, trivial⟩ trivial ?_
  simp only [go_sem, Nat.reduceEqDiff, Nat.reduceBEq, Nat.reduceAdd, Nat.reduceMul, Nat.reduceSub, Nat.reduceLeDiff, Nat.reduceLT, reduceIte, reduceCtorEq, Int.reduceToNat, Int.reduceLE, Int.reduceLT, Int.reduceNeg, Bool.not_not, and_self, Bool.and_eq_false_iff, Int.cast_ofNat_Int, Int.reduceAdd, Int.reduceSub, Int.reduceMul, Int.reduceEq, Int.reduceNe]
  refine ⟨fun h => by rw [if_pos h]; rfl, fun h => ⟨fun h5 => by rw [if_neg h, if_pos (by omega)]; rfl, fun h5 => ?_⟩⟩
  rw [if_neg h, if_neg (by omega)]
  refine runR_call (by simp only [go_sem, Nat.reduceEqDiff, Nat.reduceBEq, Nat.reduceAdd, Nat.reduceMul, Nat.reduceSub, Nat.reduceLeDiff, Nat.reduceLT, reduceIte, reduceCtorEq, Int.reduceToNat, Int.reduceLE, Int.reduceLT, Int.reduceNeg, Bool.not_not, and_self, Bool.and_eq_false_iff, Int.cast_ofNat_Int, Int.reduceAdd, Int.reduceSub, Int.reduceMul, Int.reduceEq, Int.reduceNe]) rfl (fn80 l { x with tries := 0, due := now } hl) (.inl rfl) trivial ?_
  simp only [go_sem, Nat.reduceEqDiff, Nat.reduceBEq, Nat.reduceAdd, Nat.reduceMul, Nat.reduceSub, Nat.reduceLeDiff, Nat.reduceLT, reduceIte, reduceCtorEq, Int.reduceToNat, Int.reduceLE, Int.reduceLT, Int.reduceNeg, Bool.not_not, and_self, Bool.and_eq_false_iff, Int.cast_ofNat_Int, Int.reduceAdd, Int.reduceSub, Int.reduceMul, Int.reduceEq, Int.reduceNe]
theorem fn92 (a b : List Int) (ha : a.length < 4611686018427387904) (hb : b.length < 4611686018427387904) : Fn Try.prog 92 [us a, us b] (.pv (pB (decide (a = b)))) [] := by
  refine Run92 [] (by simp) ?_
  simp only [go_sem, Nat.reduceEqDiff, Nat.reduceBEq, Nat.reduceAdd, Nat.reduceMul, Nat.reduceSub, Nat.reduceLeDiff, Nat.reduceLT, reduceIte, reduceCtorEq, Int.reduceToNat, Int.reduceLE, Int.reduceLT, Int.reduceNeg, Bool.not_not, and_self, Bool.and_eq_false_iff, Int.cast_ofNat_Int, Int.reduceAdd, Int.reduceSub, Int.reduceMul, Int.reduceEq, Int.reduceNe, M92]
  refine ⟨fun h => ?_, fun h => ?_⟩
  · have : a ≠ b := fun e => h (by rw [e])
    simp [this]
  · have hlm : b.length = a.length := by omega
    refine run_loop (T := Nat) (fun i => ⟨[(0, .pv (us a)), (1, .pv (us b)), (12, .pv (pI a.length)), (13, .pv (pI i))], []⟩) (fun i => i ≤ a.length ∧ a.take i = b.take i) (fun i => a.length - i) 0 rfl ⟨Nat.zero_le _, rfl⟩ ?_
    intro i ⟨hi, hq⟩
    by_cases hlt : i < a.length
    · have hlt2 : i < b.length := by omega
      simp only [go_sem, Nat.reduceEqDiff, Nat.reduceBEq, Nat.reduceAdd, Nat.reduceMul, Nat.reduceSub, Nat.reduceLeDiff, Nat.reduceLT, reduceIte, reduceCtorEq, Int.reduceToNat, Int.reduceLE, Int.reduceLT, Int.reduceNeg, Bool.not_not, and_self, Bool.and_eq_false_iff, Int.cast_ofNat_Int, Int.reduceAdd, Int.reduceSub, Int.reduceMul, Int.reduceEq, Int.reduceNe, B92_0, wf_us, getD_map hlt, getD_map hlt2, show (i : Int) < (a.length : Int) by omega, show (i : Int) < (b.length : Int) by omega]
      refine ⟨fun hd => ?_, fun hd => ?_⟩
      · have : a ≠ b := fun e => by subst e; exact hd rfl
        simp [this]
      · refine ⟨⟨by omega, by omega⟩, i + 1, rfl, ⟨hlt, ?_⟩, by omega⟩
        rw [take_snoc hlt, take_snoc hlt2, hq, hd]
    · simp only [go_sem, Nat.reduceEqDiff, Nat.reduceBEq, Nat.reduceAdd, Nat.reduceMul, Nat.reduceSub, Nat.reduceLeDiff, Nat.reduceLT, reduceIte, reduceCtorEq, Int.reduceToNat, Int.reduceLE, Int.reduceLT, Int.reduceNeg, Bool.not_not, and_self, Bool.and_eq_false_iff, Int.cast_ofNat_Int, Int.reduceAdd, Int.reduceSub, Int.reduceMul, Int.reduceEq, Int.reduceNe, B92_0, R92_0, show ¬ (i : Int) < (a.length : Int) by omega]
      have hie : i = a.length := by omega
      subst hie
      rw [List.take_length, ← hlm, List.take_length] at hq
      simp [hq]
theorem fn91 (x y : Ot) (hx : x.ids.length < 4611686018427387904) (hy : y.ids.length < 4611686018427387904) : Fn Try.prog 91 [x.pv, y.pv] (.pv (pB (decide (x = y)))) [] := by
  refine Run91 [] (by simp) ?_
  simp only [go_sem, Nat.reduceEqDiff, Nat.reduceBEq, Nat.reduceAdd, Nat.reduceMul, Nat.reduceSub, Nat.reduceLeDiff, Nat.reduceLT, reduceIte, reduceCtorEq, Int.reduceToNat, Int.reduceLE, Int.reduceLT, Int.reduceNeg, Bool.not_not, and_self, Bool.and_eq_false_iff, Int.cast_ofNat_Int, Int.reduceAdd, Int.reduceSub, Int.reduceMul, Int.reduceEq, Int.reduceNe, M91]
  refine runR_callgf (by simp only [go_sem, Nat.reduceEqDiff, Nat.reduceBEq, Nat.reduceAdd, Nat.reduceMul, Nat.reduceSub, Nat.reduceLeDiff, Nat.reduceLT, reduceIte, reduceCtorEq, Int.reduceToNat, Int.reduceLE, Int.reduceLT, Int.reduceNeg, Bool.not_not, and_self, Bool.and_eq_false_iff, Int.cast_ofNat_Int, Int.reduceAdd, Int.reduceSub, Int.reduceMul, Int.reduceEq, Int.reduceNe]) (by simp only [go_sem, Nat.reduceEqDiff, Nat.reduceBEq, Nat.reduceAdd, Nat.reduceMul, Nat.reduceSub, Nat.reduceLeDiff, Nat.reduceLT, reduceIte, reduceCtorEq, Int.reduceToNat, Int.reduceLE, Int.reduceLT, Int.reduceNeg, Bool.not_not, and_self, Bool.and_eq_false_iff, Int.cast_ofNat_Int, Int.reduceAdd, Int.reduceSub, Int.reduceMul, Int.reduceEq, Int.reduceNe]) (by simp only [go_sem, Nat.reduceEqDiff, Nat.reduceBEq, Nat.reduceAdd, Nat.reduceMul, Nat.reduceSub, Nat.reduceLeDiff, Nat.reduceLT, reduceIte, reduceCtorEq, Int.reduceToNat, Int.reduceLE, Int.reduceLT, Int.reduceNeg, Bool.not_not, and_self, Bool.and_eq_false_iff, Int.cast_ofNat_Int, Int.reduceAdd, Int.reduceSub, Int.reduceMul, Int.reduceEq, Int.reduceNe] <;> rfl) (fun _ => fn92 x.ids y.ids hx hy) rfl ?_
  simp only [go_sem, Nat.reduceEqDiff, Nat.reduceBEq, Nat.reduceAdd, Nat.reduceMul, Nat.reduceSub, Nat.reduceLeDiff, Nat.reduceLT, reduceIte, reduceCtorEq, Int.reduceToNat, Int.reduceLE, Int.reduceLT, Int.reduceNeg, Bool.not_not, and_self, Bool.and_eq_false_iff, Int.cast_ofNat_Int, Int.reduceAdd, Int.reduceSub, Int.reduceMul, Int.reduceEq, Int.reduceNe]
  obtain ⟨a, b, c, d, e⟩ := x
  obtain ⟨a', b', c', d', e'⟩ := y
  simp only [Ot.mk.injEq]
  by_cases h1 : a = a' <;> by_cases h2 : b = b' <;> by_cases h3 : c = c' <;> by_cases h4 : d = d' <;> by_cases h5 : e = e' <;> simp [h1, h2, h3, h4, h5]
theorem fn90 (a b : List Ot) (ha : a.length < 100000) (hb : b.length < 100000) (hk : ∀ x ∈ a, x.ids.length < 100000) (hk' : ∀ x ∈ b, x.ids.length < 100000) : Fn Try.prog 90 [os a, os b, .fn 91 []] (.pv (pB (decide (a = b)))) [] := by
  refine Run90 [] (by simp) ?_
  simp only [go_sem, Nat.reduceEqDiff, Nat.reduceBEq, Nat.reduceAdd, Nat.reduceMul, Nat.reduceSub, Nat.reduceLeDiff, Nat.reduceLT, reduceIte, reduceCtorEq, Int.reduceToNat, Int.reduceLE, Int.reduceLT, Int.reduceNeg, Bool.not_not, and_self, Bool.and_eq_false_iff, Int.cast_ofNat_Int, Int.reduceAdd, Int.reduceSub, Int.reduceMul, Int.reduceEq, Int.reduceNe, M90]
  refine ⟨fun h => ?_, fun h => ?_⟩
  · have : a ≠ b := fun e => h (by rw [e])
    simp [this]
  · have hlm : b.length = a.length := by omega
    refine run_loop (T := Nat) (fun i => ⟨[(1, .pv (os b)), (2, .pv (.fn 91 [])), (15, .pv (os a)), (16, .pv (pI a.length)), (17, .pv (pI i))], []⟩) (fun i => i ≤ a.length ∧ a.take i = b.take i) (fun i => a.length - i) 0 rfl ⟨Nat.zero_le _, rfl⟩ ?_
    intro i ⟨hi, hq⟩
    by_cases hlt : i < a.length
    · have hlt2 : i < b.length := by omega
      have hx := hk _ (List.getElem_mem hlt)
      have hy := hk' _ (List.getElem_mem hlt2)
      simp only [go_sem, Nat.reduceEqDiff, Nat.reduceBEq, Nat.reduceAdd, Nat.reduceMul, Nat.reduceSub, Nat.reduceLeDiff, Nat.reduceLT, reduceIte, reduceCtorEq, Int.reduceToNat, Int.reduceLE, Int.reduceLT, Int.reduceNeg, Bool.not_not, and_self, Bool.and_eq_false_iff, Int.cast_ofNat_Int, Int.reduceAdd, Int.reduceSub, Int.reduceMul, Int.reduceEq, Int.reduceNe, B90_0, wf_os, getD_map hlt, getD_map hlt2, show (i : Int) < (a.length : Int) by omega, show (i : Int) < (b.length : Int) by omega]
      refine runR_callf (by simp only [go_sem, Nat.reduceEqDiff, Nat.reduceBEq, Nat.reduceAdd, Nat.reduceMul, Nat.reduceSub, Nat.reduceLeDiff, Nat.reduceLT, reduceIte, reduceCtorEq, Int.reduceToNat, Int.reduceLE, Int.reduceLT, Int.reduceNeg, Bool.not_not, and_self, Bool.and_eq_false_iff, Int.cast_ofNat_Int, Int.reduceAdd, Int.reduceSub, Int.reduceMul, Int.reduceEq, Int.reduceNe]) (by simp only [go_sem, Nat.reduceEqDiff, Nat.reduceBEq, Nat.reduceAdd, Nat.reduceMul, Nat.reduceSub, Nat.reduceLeDiff, Nat.reduceLT, reduceIte, reduceCtorEq, Int.reduceToNat, Int.reduceLE, Int.reduceLT, Int.reduceNeg, Bool.not_not, and_self, Bool.and_eq_false_iff, Int.cast_ofNat_Int, Int.reduceAdd, Int.reduceSub, Int.reduceMul, Int.reduceEq, Int.reduceNe] <;> rfl) (fn91 a[i] b[i] (by omega) (by omega)) ⟨rfl, trivial⟩ trivial ?_
      simp only [go_sem, Nat.reduceEqDiff, Nat.reduceBEq, Nat.reduceAdd, Nat.reduceMul, Nat.reduceSub, Nat.reduceLeDiff, Nat.reduceLT, reduceIte, reduceCtorEq, Int.reduceToNat, Int.reduceLE, Int.reduceLT, Int.reduceNeg, Bool.not_not, and_self, Bool.and_eq_false_iff, Int.cast_ofNat_Int, Int.reduceAdd, Int.reduceSub, Int.reduceMul, Int.reduceEq, Int.reduceNe]
      refine ⟨fun hd => ?_, fun hd => ?_⟩
      · have : a ≠ b := fun e => by subst e; exact hd rfl
        simp [this]
      · refine ⟨⟨by omega, by omega⟩, i + 1, rfl, ⟨hlt, ?_⟩, by omega⟩
        rw [take_snoc hlt, take_snoc hlt2, hq, hd]
    · simp only [go_sem, Nat.reduceEqDiff, Nat.reduceBEq, Nat.reduceAdd, Nat.reduceMul, Nat.reduceSub, Nat.reduceLeDiff, Nat.reduceLT, reduceIte, reduceCtorEq, Int.reduceToNat, Int.reduceLE, Int.reduceLT, Int.reduceNeg, Bool.not_not, and_self, Bool.and_eq_false_iff, Int.cast_ofNat_Int, Int.reduceAdd, Int.reduceSub, Int.reduceMul, Int.reduceEq, Int.reduceNe, B90_0, R90_0, show ¬ (i : Int) < (a.length : Int) by omega]
      have hie : i = a.length := by omega
      subst hie
      rw [List.take_length, ← hlm, List.take_length] at hq
      simp [hq]
theorem fn52 (a b : List Ot) (ha : a.length < 100000) (hb : b.length < 100000) (hk : ∀ x ∈ a, x.ids.length < 100000) (hk' : ∀ x ∈ b, x.ids.length < 100000) : Fn Try.prog 52 [os a, os b] (.pv (pB (decide (a = b)))) [] := by
  refine Run52 [] (by simp) ?_
  simp only [go_sem, Nat.reduceEqDiff, Nat.reduceBEq, Nat.reduceAdd, Nat.reduceMul, Nat.reduceSub, Nat.reduceLeDiff, Nat.reduceLT, reduceIte, reduceCtorEq, Int.reduceToNat, Int.reduceLE, Int.reduceLT, Int.reduceNeg, Bool.not_not, and_self, Bool.and_eq_false_iff, Int.cast_ofNat_Int, Int.reduceAdd, Int.reduceSub, Int.reduceMul, Int.reduceEq, Int.reduceNe, M52]
  refine runR_callf (by simp only [go_sem, Nat.reduceEqDiff, Nat.reduceBEq, Nat.reduceAdd, Nat.reduceMul, Nat.reduceSub, Nat.reduceLeDiff, Nat.reduceLT, reduceIte, reduceCtorEq, Int.reduceToNat, Int.reduceLE, Int.reduceLT, Int.reduceNeg, Bool.not_not, and_self, Bool.and_eq_false_iff, Int.cast_ofNat_Int, Int.reduceAdd, Int.reduceSub, Int.reduceMul, Int.reduceEq, Int.reduceNe]) (by simp only [go_sem, Nat.reduceEqDiff, Nat.reduceBEq, Nat.reduceAdd, Nat.reduceMul, Nat.reduceSub, Nat.reduceLeDiff, Nat.reduceLT, reduceIte, reduceCtorEq, Int.reduceToNat, Int.reduceLE, Int.reduceLT, Int.reduceNeg, Bool.not_not, and_self, Bool.and_eq_false_iff, Int.cast_ofNat_Int, Int.reduceAdd, Int.reduceSub, Int.reduceMul, Int.reduceEq, Int.reduceNe] <;> rfl) (fn90 a b ha hb hk hk') ⟨rfl, trivial⟩ trivial ?_
  simp only [go_sem, Nat.reduceEqDiff, Nat.reduceBEq, Nat.reduceAdd, Nat.reduceMul, Nat.reduceSub, Nat.reduceLeDiff, Nat.reduceLT, reduceIte, reduceCtorEq, Int.reduceToNat, Int.reduceLE, Int.reduceLT, Int.reduceNeg, Bool.not_not, and_self, Bool.and_eq_false_iff, Int.cast_ofNat_Int, Int.reduceAdd, Int.reduceSub, Int.reduceMul, Int.reduceEq, Int.reduceNe]
end Go.Vc

namespace Go.Vc
open Go.Proofs
set_option linter.unusedSimpArgs false
set_option linter.unusedVariables false

theorem putL_with {x : Ot} : ∀ {l : List Ot}, l.Pairwise OtLt → (∀ y ∈ l, y.id ≠ x.id) → putL l (posO l x.id) x = withO l x
  | [], _, _ => rfl
  | a :: l, hs, hn => by
    rw [List.pairwise_cons] at hs
    have ih := putL_with hs.2 (fun y hy => hn y (List.mem_cons_of_mem _ hy))
    have ha := hn a (by simp)
    by_cases h : a.id < x.id
    · have e1 : posO (a :: l) x.id = posO l x.id + 1 := by simp [posO, List.takeWhile_cons, h]
      have h2 : ¬ x.id < a.id := by omega
      rw [e1]
      unfold putL at ih ⊢
      rw [List.take_succ_cons, List.drop_succ_cons, List.cons_append, ih]
      simp [withO, List.filter_cons, h, h2]
    · have e1 : posO (a :: l) x.id = 0 := by simp [posO, List.takeWhile_cons, h]
      have h2 : x.id < a.id := by omega
      have f1 : l.filter (fun y => decide (y.id < x.id)) = [] := List.filter_eq_nil_iff.2 fun y hy => by have := hs.1 y hy; simp; omega
      have f2 : l.filter (fun y => decide (x.id < y.id)) = l := List.filter_eq_self.2 fun y hy => by have := hs.1 y hy; simp; omega
      rw [e1]
      simp [putL, withO, List.filter_cons, h, h2, f1, f2]
theorem againO_eq (l : List Ot) (x : Ot) (now : Int) : againO l x now = againR l x now := by
  unfold againO againR
  by_cases h : checkO l = false ∨ timeB now = false ∨ mayO x = false
  · rw [if_pos h, if_pos (by rcases h with h | h | h <;> simp [h])]
  · have h' : ¬ (checkO l = false ∨ mayO x = false ∨ timeB now = false) := fun h2 => h (by rcases h2 with h2 | h2 | h2 <;> simp [h2])
    rw [if_neg h, if_neg h']
    by_cases h1 : 0 ≤ findO l x.id
    · rw [if_pos h1, if_pos h1]
    · rw [if_neg h1, if_neg h1]
      split
      · rfl
      · have hc : checkO l = true := by
          cases hc : checkO l
          · exact absurd (.inl hc) h
          · rfl
        have := putL_with (x := { x with tries := 0, due := now }) (checkO_ord hc) (fun y hy => findO_no.1 (show findO l x.id < 0 by omega) y hy)
        rw [show posO l x.id = posO l ({ x with tries := 0, due := now } : Ot).id from rfl, this]
theorem addO_eq (l : List Ot) (x : Ot) : addO l x = addR l x := by
  unfold addO addR
  by_cases h : checkO l = false ∨ mayO x = false
  · rw [if_pos h, if_pos h]
  · rw [if_neg h, if_neg h]
    have hc : checkO l = true := by
      cases hc : checkO l
      · exact absurd (.inl hc) h
      · rfl
    have ord : ∀ i j (hi : i < l.length) (hj : j < l.length), i < j → l[i].id < l[j].id := fun i j hi hj hij => List.pairwise_iff_getElem.1 (checkO_ord hc) i j hi hj hij
    by_cases h1 : 0 < l.length ∧ x.id ≤ (l.getD (l.length - 1) default).id
    · have hlast : l.length - 1 < l.length := by omega
      rw [getD_get hlast] at h1
      rw [getD_get hlast, if_pos h1, if_pos (List.any_eq_true.2 ⟨_, List.getElem_mem hlast, by simpa using h1.2⟩)]
    · rw [if_neg h1]
      have hlt : ∀ y ∈ l, y.id < x.id := fun y hy => by
        obtain ⟨j, hj, rfl⟩ := List.mem_iff_getElem.1 hy
        have hlast : l.length - 1 < l.length := by omega
        rw [getD_get hlast] at h1
        by_cases e : j = l.length - 1
        · subst e; omega
        · have := ord j (l.length - 1) hj hlast (by omega); omega
      have hno : ¬ l.any (fun y => decide (x.id ≤ y.id)) = true := fun h2 => by obtain ⟨y, hy, h3⟩ := List.any_eq_true.1 h2; have := hlt y hy; simp at h3; omega
      rw [if_neg hno]
      split
      · rfl
      · have f1 : l.filter (fun y => decide (y.id < x.id)) = l := List.filter_eq_self.2 fun y hy => by have := hlt y hy; simp; omega
        have f2 : l.filter (fun y => decide (x.id < y.id)) = [] := List.filter_eq_nil_iff.2 fun y hy => by have := hlt y hy; simp; omega
        simp [withO, f1, f2]
theorem few_sub (l : List Ot) : ∀ x ∈ fewO l, x.sub.size ≤ 60 := fun x hx => by
  obtain ⟨y, _, rfl⟩ := List.mem_map.1 hx
  exact few60_size _
theorem withO_small {l : List Ot} {x : Ot} {k : Nat} (h : ∀ y ∈ l, y.ids.length ≤ k) (hx : x.ids.length ≤ k) : (withO l x).length ≤ 2 * l.length + 1 ∧ ∀ y ∈ withO l x, y.ids.length ≤ k := by
  unfold withO
  have h1 := List.length_filter_le (fun y : Ot => decide (y.id < x.id)) l
  have h2 := List.length_filter_le (fun y : Ot => decide (x.id < y.id)) l
  refine ⟨by simp; omega, fun y hy => ?_⟩
  rcases List.mem_append.1 hy with hy | hy
  · exact h y ((List.mem_filter.1 hy).1)
  · rcases List.mem_append.1 hy with hy | hy
    · simp at hy; subst hy; exact hx
    · exact h y ((List.mem_filter.1 hy).1)
theorem addR_small {l : List Ot} {x : Ot} {k : Nat} (h : ∀ y ∈ l, y.ids.length ≤ k) (hx : x.ids.length ≤ k) : (addR l x).1.length ≤ 2 * l.length + 1 ∧ ∀ y ∈ (addR l x).1, y.ids.length ≤ k := by
  unfold addR
  split
  · simp
  · split
    · simp
    · split
      · simp
      · exact withO_small h hx
theorem againR_small {l : List Ot} {x : Ot} {now : Int} {k : Nat} (h : ∀ y ∈ l, y.ids.length ≤ k) (hx : x.ids.length ≤ k) : (againR l x now).1.length ≤ 2 * l.length + 1 ∧ ∀ y ∈ (againR l x now).1, y.ids.length ≤ k := by
  unfold againR
  split
  · simp
  · split
    · simp
    · split
      · simp
      · exact withO_small h hx
theorem law13 (l : List Ot) (x : Ot) (now : Int) (hl : l.length ≤ 9223372036854775807) (hk : ∀ x ∈ l, x.ids.length ≤ 9223372036854775807) (hx : x.ids.length ≤ 9223372036854775807) : Fn Try.prog 13 [os l, x.pv, pI now] (.pv (pB true)) [] := by
  refine Run13 [] (by simp) ?_
  simp only [go_sem, Nat.reduceEqDiff, Nat.reduceBEq, Nat.reduceAdd, Nat.reduceMul, Nat.reduceSub, Nat.reduceLeDiff, Nat.reduceLT, reduceIte, reduceCtorEq, Int.reduceToNat, Int.reduceLE, Int.reduceLT, Int.reduceNeg, Bool.not_not, and_self, Bool.and_eq_false_iff, Int.cast_ofNat_Int, Int.reduceAdd, Int.reduceSub, Int.reduceMul, Int.reduceEq, Int.reduceNe, M13]
  refine runR_call (by simp only [go_sem, Nat.reduceEqDiff, Nat.reduceBEq, Nat.reduceAdd, Nat.reduceMul, Nat.reduceSub, Nat.reduceLeDiff, Nat.reduceLT, reduceIte, reduceCtorEq, Int.reduceToNat, Int.reduceLE, Int.reduceLT, Int.reduceNeg, Bool.not_not, and_self, Bool.and_eq_false_iff, Int.cast_ofNat_Int, Int.reduceAdd, Int.reduceSub, Int.reduceMul, Int.reduceEq, Int.reduceNe]) rfl (fn20 l hl hk) (.inl rfl) trivial ?_
  simp only [go_sem, Nat.reduceEqDiff, Nat.reduceBEq, Nat.reduceAdd, Nat.reduceMul, Nat.reduceSub, Nat.reduceLeDiff, Nat.reduceLT, reduceIte, reduceCtorEq, Int.reduceToNat, Int.reduceLE, Int.reduceLT, Int.reduceNeg, Bool.not_not, and_self, Bool.and_eq_false_iff, Int.cast_ofNat_Int, Int.reduceAdd, Int.reduceSub, Int.reduceMul, Int.reduceEq, Int.reduceNe]
  refine runR_call (by simp only [go_sem, Nat.reduceEqDiff, Nat.reduceBEq, Nat.reduceAdd, Nat.reduceMul, Nat.reduceSub, Nat.reduceLeDiff, Nat.reduceLT, reduceIte, reduceCtorEq, Int.reduceToNat, Int.reduceLE, Int.reduceLT, Int.reduceNeg, Bool.not_not, and_self, Bool.and_eq_false_iff, Int.cast_ofNat_Int, Int.reduceAdd, Int.reduceSub, Int.reduceMul, Int.reduceEq, Int.reduceNe]) rfl (fn26 x hx) (.inl rfl) trivial ?_
  simp only [go_sem, Nat.reduceEqDiff, Nat.reduceBEq, Nat.reduceAdd, Nat.reduceMul, Nat.reduceSub, Nat.reduceLeDiff, Nat.reduceLT, reduceIte, reduceCtorEq, Int.reduceToNat, Int.reduceLE, Int.reduceLT, Int.reduceNeg, Bool.not_not, and_self, Bool.and_eq_false_iff, Int.cast_ofNat_Int, Int.reduceAdd, Int.reduceSub, Int.reduceMul, Int.reduceEq, Int.reduceNe]
  obtain ⟨hl1, hi1⟩ := fewO_lt l
  have hs1 := few_sub l
  have hid := fewO_idem l
  generalize fewO l = m at hl1 hi1 hs1 hid ⊢
  have hy1 : (oneO x).ids.length ≤ 31 := by simp [oneO]; omega
  have hy2 : (oneO x).sub.size ≤ 60 := few60_size _
  generalize oneO x = y at hy1 hy2 ⊢
  refine runR_call (by simp only [go_sem, Nat.reduceEqDiff, Nat.reduceBEq, Nat.reduceAdd, Nat.reduceMul, Nat.reduceSub, Nat.reduceLeDiff, Nat.reduceLT, reduceIte, reduceCtorEq, Int.reduceToNat, Int.reduceLE, Int.reduceLT, Int.reduceNeg, Bool.not_not, and_self, Bool.and_eq_false_iff, Int.cast_ofNat_Int, Int.reduceAdd, Int.reduceSub, Int.reduceMul, Int.reduceEq, Int.reduceNe]) rfl (fn20 m (by omega) (fun z hz => by have := hi1 z hz; omega)) (.inl rfl) trivial ?_
  rw [hid]
  simp only [go_sem, Nat.reduceEqDiff, Nat.reduceBEq, Nat.reduceAdd, Nat.reduceMul, Nat.reduceSub, Nat.reduceLeDiff, Nat.reduceLT, reduceIte, reduceCtorEq, Int.reduceToNat, Int.reduceLE, Int.reduceLT, Int.reduceNeg, Bool.not_not, and_self, Bool.and_eq_false_iff, Int.cast_ofNat_Int, Int.reduceAdd, Int.reduceSub, Int.reduceMul, Int.reduceEq, Int.reduceNe]
  have hsm : ∀ z ∈ m, z.sub.size ≤ 1000 := fun z hz => by have := hs1 z hz; omega
  refine runR_call (by simp only [go_sem, Nat.reduceEqDiff, Nat.reduceBEq, Nat.reduceAdd, Nat.reduceMul, Nat.reduceSub, Nat.reduceLeDiff, Nat.reduceLT, reduceIte, reduceCtorEq, Int.reduceToNat, Int.reduceLE, Int.reduceLT, Int.reduceNeg, Bool.not_not, and_self, Bool.and_eq_false_iff, Int.cast_ofNat_Int, Int.reduceAdd, Int.reduceSub, Int.reduceMul, Int.reduceEq, Int.reduceNe]) rfl (fn25 m y (by omega)) (.inl rfl) trivial ?_
  simp only [go_sem, Nat.reduceEqDiff, Nat.reduceBEq, Nat.reduceAdd, Nat.reduceMul, Nat.reduceSub, Nat.reduceLeDiff, Nat.reduceLT, reduceIte, reduceCtorEq, Int.reduceToNat, Int.reduceLE, Int.reduceLT, Int.reduceNeg, Bool.not_not, and_self, Bool.and_eq_false_iff, Int.cast_ofNat_Int, Int.reduceAdd, Int.reduceSub, Int.reduceMul, Int.reduceEq, Int.reduceNe]
  refine runR_call (by simp only [go_sem, Nat.reduceEqDiff, Nat.reduceBEq, Nat.reduceAdd, Nat.reduceMul, Nat.reduceSub, Nat.reduceLeDiff, Nat.reduceLT, reduceIte, reduceCtorEq, Int.reduceToNat, Int.reduceLE, Int.reduceLT, Int.reduceNeg, Bool.not_not, and_self, Bool.and_eq_false_iff, Int.cast_ofNat_Int, Int.reduceAdd, Int.reduceSub, Int.reduceMul, Int.reduceEq, Int.reduceNe]) rfl (fn48 m y (by omega) hsm (by omega)) (.inl rfl) trivial ?_
  rw [addO_eq]
  simp only [go_sem, Nat.reduceEqDiff, Nat.reduceBEq, Nat.reduceAdd, Nat.reduceMul, Nat.reduceSub, Nat.reduceLeDiff, Nat.reduceLT, reduceIte, reduceCtorEq, Int.reduceToNat, Int.reduceLE, Int.reduceLT, Int.reduceNeg, Bool.not_not, and_self, Bool.and_eq_false_iff, Int.cast_ofNat_Int, Int.reduceAdd, Int.reduceSub, Int.reduceMul, Int.reduceEq, Int.reduceNe]
  refine runR_call (by simp only [go_sem, Nat.reduceEqDiff, Nat.reduceBEq, Nat.reduceAdd, Nat.reduceMul, Nat.reduceSub, Nat.reduceLeDiff, Nat.reduceLT, reduceIte, reduceCtorEq, Int.reduceToNat, Int.reduceLE, Int.reduceLT, Int.reduceNeg, Bool.not_not, and_self, Bool.and_eq_false_iff, Int.cast_ofNat_Int, Int.reduceAdd, Int.reduceSub, Int.reduceMul, Int.reduceEq, Int.reduceNe]) rfl (fn47 m y now (by omega)) (.inl rfl) trivial ?_
  simp only [go_sem, Nat.reduceEqDiff, Nat.reduceBEq, Nat.reduceAdd, Nat.reduceMul, Nat.reduceSub, Nat.reduceLeDiff, Nat.reduceLT, reduceIte, reduceCtorEq, Int.reduceToNat, Int.reduceLE, Int.reduceLT, Int.reduceNeg, Bool.not_not, and_self, Bool.and_eq_false_iff, Int.cast_ofNat_Int, Int.reduceAdd, Int.reduceSub, Int.reduceMul, Int.reduceEq, Int.reduceNe]
  refine runR_call (by simp only [go_sem, Nat.reduceEqDiff, Nat.reduceBEq, Nat.reduceAdd, Nat.reduceMul, Nat.reduceSub, Nat.reduceLeDiff, Nat.reduceLT, reduceIte, reduceCtorEq, Int.reduceToNat, Int.reduceLE, Int.reduceLT, Int.reduceNeg, Bool.not_not, and_self, Bool.and_eq_false_iff, Int.cast_ofNat_Int, Int.reduceAdd, Int.reduceSub, Int.reduceMul, Int.reduceEq, Int.reduceNe]) rfl (fn49 m y now (by omega) hsm (by omega)) (.inl rfl) trivial ?_
  rw [againO_eq]
  simp only [go_sem, Nat.reduceEqDiff, Nat.reduceBEq, Nat.reduceAdd, Nat.reduceMul, Nat.reduceSub, Nat.reduceLeDiff, Nat.reduceLT, reduceIte, reduceCtorEq, Int.reduceToNat, Int.reduceLE, Int.reduceLT, Int.reduceNeg, Bool.not_not, and_self, Bool.and_eq_false_iff, Int.cast_ofNat_Int, Int.reduceAdd, Int.reduceSub, Int.reduceMul, Int.reduceEq, Int.reduceNe]
  obtain ⟨a1, a2⟩ := addR_small hi1 hy1
  obtain ⟨b1, b2⟩ := againR_small (now := now) hi1 hy1
  refine runR_callf (by simp only [go_sem, Nat.reduceEqDiff, Nat.reduceBEq, Nat.reduceAdd, Nat.reduceMul, Nat.reduceSub, Nat.reduceLeDiff, Nat.reduceLT, reduceIte, reduceCtorEq, Int.reduceToNat, Int.reduceLE, Int.reduceLT, Int.reduceNeg, Bool.not_not, and_self, Bool.and_eq_false_iff, Int.cast_ofNat_Int, Int.reduceAdd, Int.reduceSub, Int.reduceMul, Int.reduceEq, Int.reduceNe]) (by simp only [go_sem, Nat.reduceEqDiff, Nat.reduceBEq, Nat.reduceAdd, Nat.reduceMul, Nat.reduceSub, Nat.reduceLeDiff, Nat.reduceLT, reduceIte, reduceCtorEq, Int.reduceToNat, Int.reduceLE, Int.reduceLT, Int.reduceNeg, Bool.not_not, and_self, Bool.and_eq_false_iff, Int.cast_ofNat_Int, Int.reduceAdd, Int.reduceSub, Int.reduceMul, Int.reduceEq, Int.reduceNe] <;> rfl) (fn23 (addR m y).1 (addR m y).1 (by omega) (by omega) (fun z hz => by have := a2 z hz; omega) (fun z hz => by have := a2 z hz; omega)) ⟨rfl, trivial⟩ trivial ?_
  simp only [go_sem, Nat.reduceEqDiff, Nat.reduceBEq, Nat.reduceAdd, Nat.reduceMul, Nat.reduceSub, Nat.reduceLeDiff, Nat.reduceLT, reduceIte, reduceCtorEq, Int.reduceToNat, Int.reduceLE, Int.reduceLT, Int.reduceNeg, Bool.not_not, and_self, Bool.and_eq_false_iff, Int.cast_ofNat_Int, Int.reduceAdd, Int.reduceSub, Int.reduceMul, Int.reduceEq, Int.reduceNe]
  refine runR_callgf (by simp only [go_sem, Nat.reduceEqDiff, Nat.reduceBEq, Nat.reduceAdd, Nat.reduceMul, Nat.reduceSub, Nat.reduceLeDiff, Nat.reduceLT, reduceIte, reduceCtorEq, Int.reduceToNat, Int.reduceLE, Int.reduceLT, Int.reduceNeg, Bool.not_not, and_self, Bool.and_eq_false_iff, Int.cast_ofNat_Int, Int.reduceAdd, Int.reduceSub, Int.reduceMul, Int.reduceEq, Int.reduceNe]) (by simp only [go_sem, Nat.reduceEqDiff, Nat.reduceBEq, Nat.reduceAdd, Nat.reduceMul, Nat.reduceSub, Nat.reduceLeDiff, Nat.reduceLT, reduceIte, reduceCtorEq, Int.reduceToNat, Int.reduceLE, Int.reduceLT, Int.reduceNeg, Bool.not_not, and_self, Bool.and_eq_false_iff, Int.cast_ofNat_Int, Int.reduceAdd, Int.reduceSub, Int.reduceMul, Int.reduceEq, Int.reduceNe]) (by simp only [go_sem, Nat.reduceEqDiff, Nat.reduceBEq, Nat.reduceAdd, Nat.reduceMul, Nat.reduceSub, Nat.reduceLeDiff, Nat.reduceLT, reduceIte, reduceCtorEq, Int.reduceToNat, Int.reduceLE, Int.reduceLT, Int.reduceNeg, Bool.not_not, and_self, Bool.and_eq_false_iff, Int.cast_ofNat_Int, Int.reduceAdd, Int.reduceSub, Int.reduceMul, Int.reduceEq, Int.reduceNe] <;> rfl) (fun _ => fn23 (againR m y now).1 (againR m y now).1 (by omega) (by omega) (fun z hz => by have := b2 z hz; omega) (fun z hz => by have := b2 z hz; omega)) rfl ?_
  simp only [go_sem, Nat.reduceEqDiff, Nat.reduceBEq, Nat.reduceAdd, Nat.reduceMul, Nat.reduceSub, Nat.reduceLeDiff, Nat.reduceLT, reduceIte, reduceCtorEq, Int.reduceToNat, Int.reduceLE, Int.reduceLT, Int.reduceNeg, Bool.not_not, and_self, Bool.and_eq_false_iff, Int.cast_ofNat_Int, Int.reduceAdd, Int.reduceSub, Int.reduceMul, Int.reduceEq, Int.reduceNe]
  refine runR_callgf (by simp only [go_sem, Nat.reduceEqDiff, Nat.reduceBEq, Nat.reduceAdd, Nat.reduceMul, Nat.reduceSub, Nat.reduceLeDiff, Nat.reduceLT, reduceIte, reduceCtorEq, Int.reduceToNat, Int.reduceLE, Int.reduceLT, Int.reduceNeg, Bool.not_not, and_self, Bool.and_eq_false_iff, Int.cast_ofNat_Int, Int.reduceAdd, Int.reduceSub, Int.reduceMul, Int.reduceEq, Int.reduceNe]) (by simp only [go_sem, Nat.reduceEqDiff, Nat.reduceBEq, Nat.reduceAdd, Nat.reduceMul, Nat.reduceSub, Nat.reduceLeDiff, Nat.reduceLT, reduceIte, reduceCtorEq, Int.reduceToNat, Int.reduceLE, Int.reduceLT, Int.reduceNeg, Bool.not_not, and_self, Bool.and_eq_false_iff, Int.cast_ofNat_Int, Int.reduceAdd, Int.reduceSub, Int.reduceMul, Int.reduceEq, Int.reduceNe]) (by simp only [go_sem, Nat.reduceEqDiff, Nat.reduceBEq, Nat.reduceAdd, Nat.reduceMul, Nat.reduceSub, Nat.reduceLeDiff, Nat.reduceLT, reduceIte, reduceCtorEq, Int.reduceToNat, Int.reduceLE, Int.reduceLT, Int.reduceNeg, Bool.not_not, and_self, Bool.and_eq_false_iff, Int.cast_ofNat_Int, Int.reduceAdd, Int.reduceSub, Int.reduceMul, Int.reduceEq, Int.reduceNe] <;> rfl) (fun _ => fn33 m (by omega)) rfl ?_
  simp only [go_sem, Nat.reduceEqDiff, Nat.reduceBEq, Nat.reduceAdd, Nat.reduceMul, Nat.reduceSub, Nat.reduceLeDiff, Nat.reduceLT, reduceIte, reduceCtorEq, Int.reduceToNat, Int.reduceLE, Int.reduceLT, Int.reduceNeg, Bool.not_not, and_self, Bool.and_eq_false_iff, Int.cast_ofNat_Int, Int.reduceAdd, Int.reduceSub, Int.reduceMul, Int.reduceEq, Int.reduceNe, errN_dec, errN_iff]
  refine runR_callgf (by simp only [go_sem, Nat.reduceEqDiff, Nat.reduceBEq, Nat.reduceAdd, Nat.reduceMul, Nat.reduceSub, Nat.reduceLeDiff, Nat.reduceLT, reduceIte, reduceCtorEq, Int.reduceToNat, Int.reduceLE, Int.reduceLT, Int.reduceNeg, Bool.not_not, and_self, Bool.and_eq_false_iff, Int.cast_ofNat_Int, Int.reduceAdd, Int.reduceSub, Int.reduceMul, Int.reduceEq, Int.reduceNe]) (by simp only [go_sem, Nat.reduceEqDiff, Nat.reduceBEq, Nat.reduceAdd, Nat.reduceMul, Nat.reduceSub, Nat.reduceLeDiff, Nat.reduceLT, reduceIte, reduceCtorEq, Int.reduceToNat, Int.reduceLE, Int.reduceLT, Int.reduceNeg, Bool.not_not, and_self, Bool.and_eq_false_iff, Int.cast_ofNat_Int, Int.reduceAdd, Int.reduceSub, Int.reduceMul, Int.reduceEq, Int.reduceNe]) (by simp only [go_sem, Nat.reduceEqDiff, Nat.reduceBEq, Nat.reduceAdd, Nat.reduceMul, Nat.reduceSub, Nat.reduceLeDiff, Nat.reduceLT, reduceIte, reduceCtorEq, Int.reduceToNat, Int.reduceLE, Int.reduceLT, Int.reduceNeg, Bool.not_not, and_self, Bool.and_eq_false_iff, Int.cast_ofNat_Int, Int.reduceAdd, Int.reduceSub, Int.reduceMul, Int.reduceEq, Int.reduceNe] <;> rfl) (fun _ => fn50 m (by omega) hsm) rfl ?_
  simp only [go_sem, Nat.reduceEqDiff, Nat.reduceBEq, Nat.reduceAdd, Nat.reduceMul, Nat.reduceSub, Nat.reduceLeDiff, Nat.reduceLT, reduceIte, reduceCtorEq, Int.reduceToNat, Int.reduceLE, Int.reduceLT, Int.reduceNeg, Bool.not_not, and_self, Bool.and_eq_false_iff, Int.cast_ofNat_Int, Int.reduceAdd, Int.reduceSub, Int.reduceMul, Int.reduceEq, Int.reduceNe]
  refine runR_callgf (by simp only [go_sem, Nat.reduceEqDiff, Nat.reduceBEq, Nat.reduceAdd, Nat.reduceMul, Nat.reduceSub, Nat.reduceLeDiff, Nat.reduceLT, reduceIte, reduceCtorEq, Int.reduceToNat, Int.reduceLE, Int.reduceLT, Int.reduceNeg, Bool.not_not, and_self, Bool.and_eq_false_iff, Int.cast_ofNat_Int, Int.reduceAdd, Int.reduceSub, Int.reduceMul, Int.reduceEq, Int.reduceNe]) (by simp only [go_sem, Nat.reduceEqDiff, Nat.reduceBEq, Nat.reduceAdd, Nat.reduceMul, Nat.reduceSub, Nat.reduceLeDiff, Nat.reduceLT, reduceIte, reduceCtorEq, Int.reduceToNat, Int.reduceLE, Int.reduceLT, Int.reduceNeg, Bool.not_not, and_self, Bool.and_eq_false_iff, Int.cast_ofNat_Int, Int.reduceAdd, Int.reduceSub, Int.reduceMul, Int.reduceEq, Int.reduceNe]) (by simp only [go_sem, Nat.reduceEqDiff, Nat.reduceBEq, Nat.reduceAdd, Nat.reduceMul, Nat.reduceSub, Nat.reduceLeDiff, Nat.reduceLT, reduceIte, reduceCtorEq, Int.reduceToNat, Int.reduceLE, Int.reduceLT, Int.reduceNeg, Bool.not_not, and_self, Bool.and_eq_false_iff, Int.cast_ofNat_Int, Int.reduceAdd, Int.reduceSub, Int.reduceMul, Int.reduceEq, Int.reduceNe] <;> rfl) (fun _ => fn24 m y.id (by omega)) rfl ?_
  simp only [go_sem, Nat.reduceEqDiff, Nat.reduceBEq, Nat.reduceAdd, Nat.reduceMul, Nat.reduceSub, Nat.reduceLeDiff, Nat.reduceLT, reduceIte, reduceCtorEq, Int.reduceToNat, Int.reduceLE, Int.reduceLT, Int.reduceNeg, Bool.not_not, and_self, Bool.and_eq_false_iff, Int.cast_ofNat_Int, Int.reduceAdd, Int.reduceSub, Int.reduceMul, Int.reduceEq, Int.reduceNe]
  refine runR_callgf (by simp only [go_sem, Nat.reduceEqDiff, Nat.reduceBEq, Nat.reduceAdd, Nat.reduceMul, Nat.reduceSub, Nat.reduceLeDiff, Nat.reduceLT, reduceIte, reduceCtorEq, Int.reduceToNat, Int.reduceLE, Int.reduceLT, Int.reduceNeg, Bool.not_not, and_self, Bool.and_eq_false_iff, Int.cast_ofNat_Int, Int.reduceAdd, Int.reduceSub, Int.reduceMul, Int.reduceEq, Int.reduceNe]) (by simp only [go_sem, Nat.reduceEqDiff, Nat.reduceBEq, Nat.reduceAdd, Nat.reduceMul, Nat.reduceSub, Nat.reduceLeDiff, Nat.reduceLT, reduceIte, reduceCtorEq, Int.reduceToNat, Int.reduceLE, Int.reduceLT, Int.reduceNeg, Bool.not_not, and_self, Bool.and_eq_false_iff, Int.cast_ofNat_Int, Int.reduceAdd, Int.reduceSub, Int.reduceMul, Int.reduceEq, Int.reduceNe]) (by simp only [go_sem, Nat.reduceEqDiff, Nat.reduceBEq, Nat.reduceAdd, Nat.reduceMul, Nat.reduceSub, Nat.reduceLeDiff, Nat.reduceLT, reduceIte, reduceCtorEq, Int.reduceToNat, Int.reduceLE, Int.reduceLT, Int.reduceNeg, Bool.not_not, and_self, Bool.and_eq_false_iff, Int.cast_ofNat_Int, Int.reduceAdd, Int.reduceSub, Int.reduceMul, Int.reduceEq, Int.reduceNe] <;> rfl) (fun _ => fn51 m y.id (by omega)) rfl ?_
  simp only [go_sem, Nat.reduceEqDiff, Nat.reduceBEq, Nat.reduceAdd, Nat.reduceMul, Nat.reduceSub, Nat.reduceLeDiff, Nat.reduceLT, reduceIte, reduceCtorEq, Int.reduceToNat, Int.reduceLE, Int.reduceLT, Int.reduceNeg, Bool.not_not, and_self, Bool.and_eq_false_iff, Int.cast_ofNat_Int, Int.reduceAdd, Int.reduceSub, Int.reduceMul, Int.reduceEq, Int.reduceNe]
  refine runR_callgf (by simp only [go_sem, Nat.reduceEqDiff, Nat.reduceBEq, Nat.reduceAdd, Nat.reduceMul, Nat.reduceSub, Nat.reduceLeDiff, Nat.reduceLT, reduceIte, reduceCtorEq, Int.reduceToNat, Int.reduceLE, Int.reduceLT, Int.reduceNeg, Bool.not_not, and_self, Bool.and_eq_false_iff, Int.cast_ofNat_Int, Int.reduceAdd, Int.reduceSub, Int.reduceMul, Int.reduceEq, Int.reduceNe]) (by simp only [go_sem, Nat.reduceEqDiff, Nat.reduceBEq, Nat.reduceAdd, Nat.reduceMul, Nat.reduceSub, Nat.reduceLeDiff, Nat.reduceLT, reduceIte, reduceCtorEq, Int.reduceToNat, Int.reduceLE, Int.reduceLT, Int.reduceNeg, Bool.not_not, and_self, Bool.and_eq_false_iff, Int.cast_ofNat_Int, Int.reduceAdd, Int.reduceSub, Int.reduceMul, Int.reduceEq, Int.reduceNe]) (by simp only [go_sem, Nat.reduceEqDiff, Nat.reduceBEq, Nat.reduceAdd, Nat.reduceMul, Nat.reduceSub, Nat.reduceLeDiff, Nat.reduceLT, reduceIte, reduceCtorEq, Int.reduceToNat, Int.reduceLE, Int.reduceLT, Int.reduceNeg, Bool.not_not, and_self, Bool.and_eq_false_iff, Int.cast_ofNat_Int, Int.reduceAdd, Int.reduceSub, Int.reduceMul, Int.reduceEq, Int.reduceNe] <;> rfl) (fun _ => fn52 m (addR m y).1 (by omega) (by omega) (fun z hz => by have := hi1 z hz; omega) (fun z hz => by have := a2 z hz; omega)) rfl ?_
  simp only [go_sem, Nat.reduceEqDiff, Nat.reduceBEq, Nat.reduceAdd, Nat.reduceMul, Nat.reduceSub, Nat.reduceLeDiff, Nat.reduceLT, reduceIte, reduceCtorEq, Int.reduceToNat, Int.reduceLE, Int.reduceLT, Int.reduceNeg, Bool.not_not, and_self, Bool.and_eq_false_iff, Int.cast_ofNat_Int, Int.reduceAdd, Int.reduceSub, Int.reduceMul, Int.reduceEq, Int.reduceNe]
  refine runR_callgf (by simp only [go_sem, Nat.reduceEqDiff, Nat.reduceBEq, Nat.reduceAdd, Nat.reduceMul, Nat.reduceSub, Nat.reduceLeDiff, Nat.reduceLT, reduceIte, reduceCtorEq, Int.reduceToNat, Int.reduceLE, Int.reduceLT, Int.reduceNeg, Bool.not_not, and_self, Bool.and_eq_false_iff, Int.cast_ofNat_Int, Int.reduceAdd, Int.reduceSub, Int.reduceMul, Int.reduceEq, Int.reduceNe]) (by simp only [go_sem, Nat.reduceEqDiff, Nat.reduceBEq, Nat.reduceAdd, Nat.reduceMul, Nat.reduceSub, Nat.reduceLeDiff, Nat.reduceLT, reduceIte, reduceCtorEq, Int.reduceToNat, Int.reduceLE, Int.reduceLT, Int.reduceNeg, Bool.not_not, and_self, Bool.and_eq_false_iff, Int.cast_ofNat_Int, Int.reduceAdd, Int.reduceSub, Int.reduceMul, Int.reduceEq, Int.reduceNe]) (by simp only [go_sem, Nat.reduceEqDiff, Nat.reduceBEq, Nat.reduceAdd, Nat.reduceMul, Nat.reduceSub, Nat.reduceLeDiff, Nat.reduceLT, reduceIte, reduceCtorEq, Int.reduceToNat, Int.reduceLE, Int.reduceLT, Int.reduceNeg, Bool.not_not, and_self, Bool.and_eq_false_iff, Int.cast_ofNat_Int, Int.reduceAdd, Int.reduceSub, Int.reduceMul, Int.reduceEq, Int.reduceNe] <;> rfl) (fun _ => fn23 m (addR m y).1 (by omega) (by omega) (fun z hz => by have := hi1 z hz; omega) (fun z hz => by have := a2 z hz; omega)) rfl ?_
  simp only [go_sem, Nat.reduceEqDiff, Nat.reduceBEq, Nat.reduceAdd, Nat.reduceMul, Nat.reduceSub, Nat.reduceLeDiff, Nat.reduceLT, reduceIte, reduceCtorEq, Int.reduceToNat, Int.reduceLE, Int.reduceLT, Int.reduceNeg, Bool.not_not, and_self, Bool.and_eq_false_iff, Int.cast_ofNat_Int, Int.reduceAdd, Int.reduceSub, Int.reduceMul, Int.reduceEq, Int.reduceNe]
  refine runR_callgf (by simp only [go_sem, Nat.reduceEqDiff, Nat.reduceBEq, Nat.reduceAdd, Nat.reduceMul, Nat.reduceSub, Nat.reduceLeDiff, Nat.reduceLT, reduceIte, reduceCtorEq, Int.reduceToNat, Int.reduceLE, Int.reduceLT, Int.reduceNeg, Bool.not_not, and_self, Bool.and_eq_false_iff, Int.cast_ofNat_Int, Int.reduceAdd, Int.reduceSub, Int.reduceMul, Int.reduceEq, Int.reduceNe]) (by simp only [go_sem, Nat.reduceEqDiff, Nat.reduceBEq, Nat.reduceAdd, Nat.reduceMul, Nat.reduceSub, Nat.reduceLeDiff, Nat.reduceLT, reduceIte, reduceCtorEq, Int.reduceToNat, Int.reduceLE, Int.reduceLT, Int.reduceNeg, Bool.not_not, and_self, Bool.and_eq_false_iff, Int.cast_ofNat_Int, Int.reduceAdd, Int.reduceSub, Int.reduceMul, Int.reduceEq, Int.reduceNe]) (by simp only [go_sem, Nat.reduceEqDiff, Nat.reduceBEq, Nat.reduceAdd, Nat.reduceMul, Nat.reduceSub, Nat.reduceLeDiff, Nat.reduceLT, reduceIte, reduceCtorEq, Int.reduceToNat, Int.reduceLE, Int.reduceLT, Int.reduceNeg, Bool.not_not, and_self, Bool.and_eq_false_iff, Int.cast_ofNat_Int, Int.reduceAdd, Int.reduceSub, Int.reduceMul, Int.reduceEq, Int.reduceNe] <;> rfl) (fun _ => fn23 m m (by omega) (by omega) (fun z hz => by have := hi1 z hz; omega) (fun z hz => by have := hi1 z hz; omega)) rfl ?_
  simp only [go_sem, Nat.reduceEqDiff, Nat.reduceBEq, Nat.reduceAdd, Nat.reduceMul, Nat.reduceSub, Nat.reduceLeDiff, Nat.reduceLT, reduceIte, reduceCtorEq, Int.reduceToNat, Int.reduceLE, Int.reduceLT, Int.reduceNeg, Bool.not_not, and_self, Bool.and_eq_false_iff, Int.cast_ofNat_Int, Int.reduceAdd, Int.reduceSub, Int.reduceMul, Int.reduceEq, Int.reduceNe]
  refine runR_callgf (by simp only [go_sem, Nat.reduceEqDiff, Nat.reduceBEq, Nat.reduceAdd, Nat.reduceMul, Nat.reduceSub, Nat.reduceLeDiff, Nat.reduceLT, reduceIte, reduceCtorEq, Int.reduceToNat, Int.reduceLE, Int.reduceLT, Int.reduceNeg, Bool.not_not, and_self, Bool.and_eq_false_iff, Int.cast_ofNat_Int, Int.reduceAdd, Int.reduceSub, Int.reduceMul, Int.reduceEq, Int.reduceNe]) (by simp only [go_sem, Nat.reduceEqDiff, Nat.reduceBEq, Nat.reduceAdd, Nat.reduceMul, Nat.reduceSub, Nat.reduceLeDiff, Nat.reduceLT, reduceIte, reduceCtorEq, Int.reduceToNat, Int.reduceLE, Int.reduceLT, Int.reduceNeg, Bool.not_not, and_self, Bool.and_eq_false_iff, Int.cast_ofNat_Int, Int.reduceAdd, Int.reduceSub, Int.reduceMul, Int.reduceEq, Int.reduceNe]) (by simp only [go_sem, Nat.reduceEqDiff, Nat.reduceBEq, Nat.reduceAdd, Nat.reduceMul, Nat.reduceSub, Nat.reduceLeDiff, Nat.reduceLT, reduceIte, reduceCtorEq, Int.reduceToNat, Int.reduceLE, Int.reduceLT, Int.reduceNeg, Bool.not_not, and_self, Bool.and_eq_false_iff, Int.cast_ofNat_Int, Int.reduceAdd, Int.reduceSub, Int.reduceMul, Int.reduceEq, Int.reduceNe] <;> rfl) (fun _ => fn22) rfl ?_
  simp only [go_sem, Nat.reduceEqDiff, Nat.reduceBEq, Nat.reduceAdd, Nat.reduceMul, Nat.reduceSub, Nat.reduceLeDiff, Nat.reduceLT, reduceIte, reduceCtorEq, Int.reduceToNat, Int.reduceLE, Int.reduceLT, Int.reduceNeg, Bool.not_not, and_self, Bool.and_eq_false_iff, Int.cast_ofNat_Int, Int.reduceAdd, Int.reduceSub, Int.reduceMul, Int.reduceEq, Int.reduceNe]
theorem cut_mem {l : List Ot} {n : Nat} (hn : n < l.length) (hs : l.Pairwise OtLt) : (∀ y ∈ cutO l n, y.id ≠ l[n].id) ∧ (∀ y ∈ cutO l n, y ∈ l) := by
  rw [cutO_filter hn hs]
  exact ⟨fun y hy => by simpa using (List.mem_filter.1 hy).2, fun y hy => (List.mem_filter.1 hy).1⟩
theorem back_with {l : List Ot} {n : Nat} {x : Ot} (hn : n < l.length) (hs : l.Pairwise OtLt) (hx : x.id = l[n].id) : withO (cutO l n) x = l.set n x := by
  rw [← withO_set hn hs hx, cutO_filter hn hs]
  unfold withO
  rw [List.filter_filter, List.filter_filter]
  congr 1
  · apply List.filter_congr
    intro y _
    rw [← hx]
    by_cases h : y.id < x.id <;> simp [h] <;> omega
  · congr 1
    apply List.filter_congr
    intro y _
    rw [← hx]
    by_cases h : x.id < y.id <;> simp [h] <;> omega
theorem find_back {l : List Ot} {n : Nat} {x : Ot} {id : Int} (hn : n < l.length) (hs : l.Pairwise OtLt) (hx : x.id = id) (hi : l[n].id = id) : findO (l.set n x) id = n := by
  have hn' : n < (l.set n x).length := by simpa using hn
  refine idxA_yes (i := n) hn' (by simp [hx]) fun j hj hjn => ?_
  have hj' : j < l.length := by simpa using hj
  have : l[j].id < l[n].id := List.pairwise_iff_getElem.1 hs j n hj' hn hjn
  rw [List.getElem_set_ne (by omega)]
  exact decide_eq_false (by omega)
theorem law12 (l : List Ot) (id now : Int) (hl : l.length ≤ 9223372036854775807) (hk : ∀ x ∈ l, x.ids.length ≤ 9223372036854775807) : Fn Try.prog 12 [os l, pU id, pI now] (.pv (pB true)) [] := by
  refine Run12 [] (by simp) ?_
  simp only [go_sem, Nat.reduceEqDiff, Nat.reduceBEq, Nat.reduceAdd, Nat.reduceMul, Nat.reduceSub, Nat.reduceLeDiff, Nat.reduceLT, reduceIte, reduceCtorEq, Int.reduceToNat, Int.reduceLE, Int.reduceLT, Int.reduceNeg, Bool.not_not, and_self, Bool.and_eq_false_iff, Int.cast_ofNat_Int, Int.reduceAdd, Int.reduceSub, Int.reduceMul, Int.reduceEq, Int.reduceNe, M12]
  refine runR_call (by simp only [go_sem, Nat.reduceEqDiff, Nat.reduceBEq, Nat.reduceAdd, Nat.reduceMul, Nat.reduceSub, Nat.reduceLeDiff, Nat.reduceLT, reduceIte, reduceCtorEq, Int.reduceToNat, Int.reduceLE, Int.reduceLT, Int.reduceNeg, Bool.not_not, and_self, Bool.and_eq_false_iff, Int.cast_ofNat_Int, Int.reduceAdd, Int.reduceSub, Int.reduceMul, Int.reduceEq, Int.reduceNe]) rfl (fn20 l hl hk) (.inl rfl) trivial ?_
  simp only [go_sem, Nat.reduceEqDiff, Nat.reduceBEq, Nat.reduceAdd, Nat.reduceMul, Nat.reduceSub, Nat.reduceLeDiff, Nat.reduceLT, reduceIte, reduceCtorEq, Int.reduceToNat, Int.reduceLE, Int.reduceLT, Int.reduceNeg, Bool.not_not, and_self, Bool.and_eq_false_iff, Int.cast_ofNat_Int, Int.reduceAdd, Int.reduceSub, Int.reduceMul, Int.reduceEq, Int.reduceNe]
  obtain ⟨hl1, hi1⟩ := fewO_lt l
  generalize fewO l = m at hl1 hi1 ⊢
  refine runR_callf (by simp only [go_sem, Nat.reduceEqDiff, Nat.reduceBEq, Nat.reduceAdd, Nat.reduceMul, Nat.reduceSub, Nat.reduceLeDiff, Nat.reduceLT, reduceIte, reduceCtorEq, Int.reduceToNat, Int.reduceLE, Int.reduceLT, Int.reduceNeg, Bool.not_not, and_self, Bool.and_eq_false_iff, Int.cast_ofNat_Int, Int.reduceAdd, Int.reduceSub, Int.reduceMul, Int.reduceEq, Int.reduceNe]) (by simp only [go_sem, Nat.reduceEqDiff, Nat.reduceBEq, Nat.reduceAdd, Nat.reduceMul, Nat.reduceSub, Nat.reduceLeDiff, Nat.reduceLT, reduceIte, reduceCtorEq, Int.reduceToNat, Int.reduceLE, Int.reduceLT, Int.reduceNeg, Bool.not_not, and_self, Bool.and_eq_false_iff, Int.cast_ofNat_Int, Int.reduceAdd, Int.reduceSub, Int.reduceMul, Int.reduceEq, Int.reduceNe] <;> rfl) (fn24 m id (by omega)) ⟨rfl, trivial⟩ trivial ?_
  simp only [go_sem, Nat.reduceEqDiff, Nat.reduceBEq, Nat.reduceAdd, Nat.reduceMul, Nat.reduceSub, Nat.reduceLeDiff, Nat.reduceLT, reduceIte, reduceCtorEq, Int.reduceToNat, Int.reduceLE, Int.reduceLT, Int.reduceNeg, Bool.not_not, and_self, Bool.and_eq_false_iff, Int.cast_ofNat_Int, Int.reduceAdd, Int.reduceSub, Int.reduceMul, Int.reduceEq, Int.reduceNe]
  refine runR_call (by simp only [go_sem, Nat.reduceEqDiff, Nat.reduceBEq, Nat.reduceAdd, Nat.reduceMul, Nat.reduceSub, Nat.reduceLeDiff, Nat.reduceLT, reduceIte, reduceCtorEq, Int.reduceToNat, Int.reduceLE, Int.reduceLT, Int.reduceNeg, Bool.not_not, and_self, Bool.and_eq_false_iff, Int.cast_ofNat_Int, Int.reduceAdd, Int.reduceSub, Int.reduceMul, Int.reduceEq, Int.reduceNe]) rfl (fn21 m id (by omega)) (.inl rfl) trivial ?_
  simp only [go_sem, Nat.reduceEqDiff, Nat.reduceBEq, Nat.reduceAdd, Nat.reduceMul, Nat.reduceSub, Nat.reduceLeDiff, Nat.reduceLT, reduceIte, reduceCtorEq, Int.reduceToNat, Int.reduceLE, Int.reduceLT, Int.reduceNeg, Bool.not_not, and_self, Bool.and_eq_false_iff, Int.cast_ofNat_Int, Int.reduceAdd, Int.reduceSub, Int.reduceMul, Int.reduceEq, Int.reduceNe]
  refine ⟨fun h => ?_, fun h => ?_⟩
  · refine runR_callf (by simp only [go_sem, Nat.reduceEqDiff, Nat.reduceBEq, Nat.reduceAdd, Nat.reduceMul, Nat.reduceSub, Nat.reduceLeDiff, Nat.reduceLT, reduceIte, reduceCtorEq, Int.reduceToNat, Int.reduceLE, Int.reduceLT, Int.reduceNeg, Bool.not_not, and_self, Bool.and_eq_false_iff, Int.cast_ofNat_Int, Int.reduceAdd, Int.reduceSub, Int.reduceMul, Int.reduceEq, Int.reduceNe]) (by simp only [go_sem, Nat.reduceEqDiff, Nat.reduceBEq, Nat.reduceAdd, Nat.reduceMul, Nat.reduceSub, Nat.reduceLeDiff, Nat.reduceLT, reduceIte, reduceCtorEq, Int.reduceToNat, Int.reduceLE, Int.reduceLT, Int.reduceNeg, Bool.not_not, and_self, Bool.and_eq_false_iff, Int.cast_ofNat_Int, Int.reduceAdd, Int.reduceSub, Int.reduceMul, Int.reduceEq, Int.reduceNe] <;> rfl) (fn22) ⟨rfl, trivial⟩ trivial ?_
    simp only [go_sem, Nat.reduceEqDiff, Nat.reduceBEq, Nat.reduceAdd, Nat.reduceMul, Nat.reduceSub, Nat.reduceLeDiff, Nat.reduceLT, reduceIte, reduceCtorEq, Int.reduceToNat, Int.reduceLE, Int.reduceLT, Int.reduceNeg, Bool.not_not, and_self, Bool.and_eq_false_iff, Int.cast_ofNat_Int, Int.reduceAdd, Int.reduceSub, Int.reduceMul, Int.reduceEq, Int.reduceNe]
  obtain ⟨⟨g1, g2⟩, g3⟩ := h
  obtain ⟨n, hn, f1, f2⟩ := findO_at g2
  have hc := (ackO_ok.1 g1).1
  have hs := checkO_ord hc
  have hA : (ackO m id).1 = cutO m n := by
    unfold ackO
    rw [if_neg (by rw [hc]; simp), if_neg g2, f1]
    rfl
  have hAc := ackO_check g1
  have hAl := (ackO_is g1).2
  rw [hA] at hAc hAl ⊢
  have hmm := checkO_may hc (List.getElem_mem hn)
  obtain ⟨c1, c2⟩ := cut_mem hn hs
  rw [f1]
  simp only [go_sem, Nat.reduceEqDiff, Nat.reduceBEq, Nat.reduceAdd, Nat.reduceMul, Nat.reduceSub, Nat.reduceLeDiff, Nat.reduceLT, reduceIte, reduceCtorEq, Int.reduceToNat, Int.reduceLE, Int.reduceLT, Int.reduceNeg, Bool.not_not, and_self, Bool.and_eq_false_iff, Int.cast_ofNat_Int, Int.reduceAdd, Int.reduceSub, Int.reduceMul, Int.reduceEq, Int.reduceNe, wf_os, getD_map hn]
  refine ⟨by omega, ?_⟩
  refine runR_call (by simp only [go_sem, Nat.reduceEqDiff, Nat.reduceBEq, Nat.reduceAdd, Nat.reduceMul, Nat.reduceSub, Nat.reduceLeDiff, Nat.reduceLT, reduceIte, reduceCtorEq, Int.reduceToNat, Int.reduceLE, Int.reduceLT, Int.reduceNeg, Bool.not_not, and_self, Bool.and_eq_false_iff, Int.cast_ofNat_Int, Int.reduceAdd, Int.reduceSub, Int.reduceMul, Int.reduceEq, Int.reduceNe]) rfl (fn47 (cutO m n) m[n] now (by omega)) (.inl rfl) trivial ?_
  simp only [go_sem, Nat.reduceEqDiff, Nat.reduceBEq, Nat.reduceAdd, Nat.reduceMul, Nat.reduceSub, Nat.reduceLeDiff, Nat.reduceLT, reduceIte, reduceCtorEq, Int.reduceToNat, Int.reduceLE, Int.reduceLT, Int.reduceNeg, Bool.not_not, and_self, Bool.and_eq_false_iff, Int.cast_ofNat_Int, Int.reduceAdd, Int.reduceSub, Int.reduceMul, Int.reduceEq, Int.reduceNe]
  refine ⟨fun ht => ?_, fun ht => ?_⟩
  · have : timeB now = false := by simp [timeB]; omega
    have e : againO (cutO m n) m[n] now = ([], 1) := by unfold againO; rw [if_pos (by simp [this])]
    rw [e]
    simp only [go_sem, Nat.reduceEqDiff, Nat.reduceBEq, Nat.reduceAdd, Nat.reduceMul, Nat.reduceSub, Nat.reduceLeDiff, Nat.reduceLT, reduceIte, reduceCtorEq, Int.reduceToNat, Int.reduceLE, Int.reduceLT, Int.reduceNeg, Bool.not_not, and_self, Bool.and_eq_false_iff, Int.cast_ofNat_Int, Int.reduceAdd, Int.reduceSub, Int.reduceMul, Int.reduceEq, Int.reduceNe]
    refine runR_callgf (by simp only [go_sem, Nat.reduceEqDiff, Nat.reduceBEq, Nat.reduceAdd, Nat.reduceMul, Nat.reduceSub, Nat.reduceLeDiff, Nat.reduceLT, reduceIte, reduceCtorEq, Int.reduceToNat, Int.reduceLE, Int.reduceLT, Int.reduceNeg, Bool.not_not, and_self, Bool.and_eq_false_iff, Int.cast_ofNat_Int, Int.reduceAdd, Int.reduceSub, Int.reduceMul, Int.reduceEq, Int.reduceNe]) (by simp only [go_sem, Nat.reduceEqDiff, Nat.reduceBEq, Nat.reduceAdd, Nat.reduceMul, Nat.reduceSub, Nat.reduceLeDiff, Nat.reduceLT, reduceIte, reduceCtorEq, Int.reduceToNat, Int.reduceLE, Int.reduceLT, Int.reduceNeg, Bool.not_not, and_self, Bool.and_eq_false_iff, Int.cast_ofNat_Int, Int.reduceAdd, Int.reduceSub, Int.reduceMul, Int.reduceEq, Int.reduceNe]) (by simp only [go_sem, Nat.reduceEqDiff, Nat.reduceBEq, Nat.reduceAdd, Nat.reduceMul, Nat.reduceSub, Nat.reduceLeDiff, Nat.reduceLT, reduceIte, reduceCtorEq, Int.reduceToNat, Int.reduceLE, Int.reduceLT, Int.reduceNeg, Bool.not_not, and_self, Bool.and_eq_false_iff, Int.cast_ofNat_Int, Int.reduceAdd, Int.reduceSub, Int.reduceMul, Int.reduceEq, Int.reduceNe] <;> rfl) (fun _ => fn22) rfl ?_
    simp only [go_sem, Nat.reduceEqDiff, Nat.reduceBEq, Nat.reduceAdd, Nat.reduceMul, Nat.reduceSub, Nat.reduceLeDiff, Nat.reduceLT, reduceIte, reduceCtorEq, Int.reduceToNat, Int.reduceLE, Int.reduceLT, Int.reduceNeg, Bool.not_not, and_self, Bool.and_eq_false_iff, Int.cast_ofNat_Int, Int.reduceAdd, Int.reduceSub, Int.reduceMul, Int.reduceEq, Int.reduceNe]
  have hti : timeB now = true := by rw [timeB_iff]; omega
  have hlt100 := ((checkO_iff m).1 hc).1
  obtain ⟨z, hz⟩ : ∃ z : Ot, z = ⟨m[n].id, m[n].sub, m[n].ids, 0, now⟩ := ⟨_, rfl⟩
  have hzi : z.id = id := by rw [hz]; exact f2
  have hno : findO (cutO m n) m[n].id < 0 := findO_no.2 c1
  have e : againO (cutO m n) m[n] now = (m.set n z, 0) := by
    rw [againO_eq]
    unfold againR
    rw [if_neg (by rw [hAc, hmm, hti]; simp), if_neg (by omega), if_neg (by omega), ← back_with hn hs (x := z) (by rw [hz]), hz]
  rw [e]
  simp only [go_sem, Nat.reduceEqDiff, Nat.reduceBEq, Nat.reduceAdd, Nat.reduceMul, Nat.reduceSub, Nat.reduceLeDiff, Nat.reduceLT, reduceIte, reduceCtorEq, Int.reduceToNat, Int.reduceLE, Int.reduceLT, Int.reduceNeg, Bool.not_not, and_self, Bool.and_eq_false_iff, Int.cast_ofNat_Int, Int.reduceAdd, Int.reduceSub, Int.reduceMul, Int.reduceEq, Int.reduceNe]
  refine runR_callgf (by simp only [go_sem, Nat.reduceEqDiff, Nat.reduceBEq, Nat.reduceAdd, Nat.reduceMul, Nat.reduceSub, Nat.reduceLeDiff, Nat.reduceLT, reduceIte, reduceCtorEq, Int.reduceToNat, Int.reduceLE, Int.reduceLT, Int.reduceNeg, Bool.not_not, and_self, Bool.and_eq_false_iff, Int.cast_ofNat_Int, Int.reduceAdd, Int.reduceSub, Int.reduceMul, Int.reduceEq, Int.reduceNe]) (by simp only [go_sem, Nat.reduceEqDiff, Nat.reduceBEq, Nat.reduceAdd, Nat.reduceMul, Nat.reduceSub, Nat.reduceLeDiff, Nat.reduceLT, reduceIte, reduceCtorEq, Int.reduceToNat, Int.reduceLE, Int.reduceLT, Int.reduceNeg, Bool.not_not, and_self, Bool.and_eq_false_iff, Int.cast_ofNat_Int, Int.reduceAdd, Int.reduceSub, Int.reduceMul, Int.reduceEq, Int.reduceNe]) (by simp only [go_sem, Nat.reduceEqDiff, Nat.reduceBEq, Nat.reduceAdd, Nat.reduceMul, Nat.reduceSub, Nat.reduceLeDiff, Nat.reduceLT, reduceIte, reduceCtorEq, Int.reduceToNat, Int.reduceLE, Int.reduceLT, Int.reduceNeg, Bool.not_not, and_self, Bool.and_eq_false_iff, Int.cast_ofNat_Int, Int.reduceAdd, Int.reduceSub, Int.reduceMul, Int.reduceEq, Int.reduceNe] <;> rfl) (fun _ => fn24 (m.set n z) id (by simp; omega)) rfl ?_
  rw [find_back hn hs hzi f2]
  simp only [go_sem, Nat.reduceEqDiff, Nat.reduceBEq, Nat.reduceAdd, Nat.reduceMul, Nat.reduceSub, Nat.reduceLeDiff, Nat.reduceLT, reduceIte, reduceCtorEq, Int.reduceToNat, Int.reduceLE, Int.reduceLT, Int.reduceNeg, Bool.not_not, and_self, Bool.and_eq_false_iff, Int.cast_ofNat_Int, Int.reduceAdd, Int.reduceSub, Int.reduceMul, Int.reduceEq, Int.reduceNe, List.length_set]
  refine run_loop (T := Nat) (fun i => ⟨[(0, .pv (os m)), (2, .pv (pI now)), (7, .pv (pI n)), (10, .pv (os (m.set n z))), (12, .pv (pI i))], []⟩) (fun i => i ≤ m.length) (fun i => m.length - i) 0 rfl (Nat.zero_le _) ?_
  intro i hi
  by_cases hlt : i < m.length
  · have hlt2 : i < (m.set n z).length := by simpa using hlt
    have hx1 := hi1 _ (List.getElem_mem hlt)
    have hzl : z.ids.length ≤ 31 := by rw [hz]; have h9 := hi1 _ (List.getElem_mem hn); exact h9
    by_cases hin : i = n
    · subst hin
      have hzs : (m.set i z)[i]'hlt2 = z := by simp
      simp only [go_sem, Nat.reduceEqDiff, Nat.reduceBEq, Nat.reduceAdd, Nat.reduceMul, Nat.reduceSub, Nat.reduceLeDiff, Nat.reduceLT, reduceIte, reduceCtorEq, Int.reduceToNat, Int.reduceLE, Int.reduceLT, Int.reduceNeg, Bool.not_not, and_self, Bool.and_eq_false_iff, Int.cast_ofNat_Int, Int.reduceAdd, Int.reduceSub, Int.reduceMul, Int.reduceEq, Int.reduceNe, B12_0, wf_os, getD_map hlt, getD_map hlt2, hzs, List.length_set, show (i : Int) < (m.length : Int) by omega]
      have hz' : (⟨m[i].id, m[i].sub, m[i].ids, 0, now⟩ : Ot) = z := hz.symm
      refine runR_callf (by simp only [go_sem, Nat.reduceEqDiff, Nat.reduceBEq, Nat.reduceAdd, Nat.reduceMul, Nat.reduceSub, Nat.reduceLeDiff, Nat.reduceLT, reduceIte, reduceCtorEq, Int.reduceToNat, Int.reduceLE, Int.reduceLT, Int.reduceNeg, Bool.not_not, and_self, Bool.and_eq_false_iff, Int.cast_ofNat_Int, Int.reduceAdd, Int.reduceSub, Int.reduceMul, Int.reduceEq, Int.reduceNe]) (by simp only [go_sem, Nat.reduceEqDiff, Nat.reduceBEq, Nat.reduceAdd, Nat.reduceMul, Nat.reduceSub, Nat.reduceLeDiff, Nat.reduceLT, reduceIte, reduceCtorEq, Int.reduceToNat, Int.reduceLE, Int.reduceLT, Int.reduceNeg, Bool.not_not, and_self, Bool.and_eq_false_iff, Int.cast_ofNat_Int, Int.reduceAdd, Int.reduceSub, Int.reduceMul, Int.reduceEq, Int.reduceNe] <;> rfl) (fn32 z ⟨m[i].id, m[i].sub, m[i].ids, 0, now⟩ (by omega) (by show m[i].ids.length < _; omega)) ⟨rfl, trivial⟩ trivial ?_
      rw [hz']
      simp only [go_sem, Nat.reduceEqDiff, Nat.reduceBEq, Nat.reduceAdd, Nat.reduceMul, Nat.reduceSub, Nat.reduceLeDiff, Nat.reduceLT, reduceIte, reduceCtorEq, Int.reduceToNat, Int.reduceLE, Int.reduceLT, Int.reduceNeg, Bool.not_not, and_self, Bool.and_eq_false_iff, Int.cast_ofNat_Int, Int.reduceAdd, Int.reduceSub, Int.reduceMul, Int.reduceEq, Int.reduceNe]
      exact ⟨⟨by omega, by omega⟩, i + 1, rfl, by omega, by omega⟩
    · have hzs : (m.set n z)[i]'hlt2 = m[i] := List.getElem_set_ne (by omega) _
      simp only [go_sem, Nat.reduceEqDiff, Nat.reduceBEq, Nat.reduceAdd, Nat.reduceMul, Nat.reduceSub, Nat.reduceLeDiff, Nat.reduceLT, reduceIte, reduceCtorEq, Int.reduceToNat, Int.reduceLE, Int.reduceLT, Int.reduceNeg, Bool.not_not, and_self, Bool.and_eq_false_iff, Int.cast_ofNat_Int, Int.reduceAdd, Int.reduceSub, Int.reduceMul, Int.reduceEq, Int.reduceNe, B12_0, wf_os, getD_map hlt, getD_map hlt2, hzs, List.length_set, show (i : Int) < (m.length : Int) by omega, show ¬ (i : Int) = (n : Int) by omega]
      refine runR_callf (by simp only [go_sem, Nat.reduceEqDiff, Nat.reduceBEq, Nat.reduceAdd, Nat.reduceMul, Nat.reduceSub, Nat.reduceLeDiff, Nat.reduceLT, reduceIte, reduceCtorEq, Int.reduceToNat, Int.reduceLE, Int.reduceLT, Int.reduceNeg, Bool.not_not, and_self, Bool.and_eq_false_iff, Int.cast_ofNat_Int, Int.reduceAdd, Int.reduceSub, Int.reduceMul, Int.reduceEq, Int.reduceNe]) (by simp only [go_sem, Nat.reduceEqDiff, Nat.reduceBEq, Nat.reduceAdd, Nat.reduceMul, Nat.reduceSub, Nat.reduceLeDiff, Nat.reduceLT, reduceIte, reduceCtorEq, Int.reduceToNat, Int.reduceLE, Int.reduceLT, Int.reduceNeg, Bool.not_not, and_self, Bool.and_eq_false_iff, Int.cast_ofNat_Int, Int.reduceAdd, Int.reduceSub, Int.reduceMul, Int.reduceEq, Int.reduceNe] <;> rfl) (fn32 m[i] m[i] (by omega) (by omega)) ⟨rfl, trivial⟩ trivial ?_
      simp only [go_sem, Nat.reduceEqDiff, Nat.reduceBEq, Nat.reduceAdd, Nat.reduceMul, Nat.reduceSub, Nat.reduceLeDiff, Nat.reduceLT, reduceIte, reduceCtorEq, Int.reduceToNat, Int.reduceLE, Int.reduceLT, Int.reduceNeg, Bool.not_not, and_self, Bool.and_eq_false_iff, Int.cast_ofNat_Int, Int.reduceAdd, Int.reduceSub, Int.reduceMul, Int.reduceEq, Int.reduceNe]
      exact ⟨⟨by omega, by omega⟩, i + 1, rfl, by omega, by omega⟩
  · simp only [go_sem, Nat.reduceEqDiff, Nat.reduceBEq, Nat.reduceAdd, Nat.reduceMul, Nat.reduceSub, Nat.reduceLeDiff, Nat.reduceLT, reduceIte, reduceCtorEq, Int.reduceToNat, Int.reduceLE, Int.reduceLT, Int.reduceNeg, Bool.not_not, and_self, Bool.and_eq_false_iff, Int.cast_ofNat_Int, Int.reduceAdd, Int.reduceSub, Int.reduceMul, Int.reduceEq, Int.reduceNe, B12_0, R12_0, show ¬ (i : Int) < (m.length : Int) by omega]
    refine runR_callf (by simp only [go_sem, Nat.reduceEqDiff, Nat.reduceBEq, Nat.reduceAdd, Nat.reduceMul, Nat.reduceSub, Nat.reduceLeDiff, Nat.reduceLT, reduceIte, reduceCtorEq, Int.reduceToNat, Int.reduceLE, Int.reduceLT, Int.reduceNeg, Bool.not_not, and_self, Bool.and_eq_false_iff, Int.cast_ofNat_Int, Int.reduceAdd, Int.reduceSub, Int.reduceMul, Int.reduceEq, Int.reduceNe]) (by simp only [go_sem, Nat.reduceEqDiff, Nat.reduceBEq, Nat.reduceAdd, Nat.reduceMul, Nat.reduceSub, Nat.reduceLeDiff, Nat.reduceLT, reduceIte, reduceCtorEq, Int.reduceToNat, Int.reduceLE, Int.reduceLT, Int.reduceNeg, Bool.not_not, and_self, Bool.and_eq_false_iff, Int.cast_ofNat_Int, Int.reduceAdd, Int.reduceSub, Int.reduceMul, Int.reduceEq, Int.reduceNe] <;> rfl) (fn22) ⟨rfl, trivial⟩ trivial ?_
    simp only [go_sem, Nat.reduceEqDiff, Nat.reduceBEq, Nat.reduceAdd, Nat.reduceMul, Nat.reduceSub, Nat.reduceLeDiff, Nat.reduceLT, reduceIte, reduceCtorEq, Int.reduceToNat, Int.reduceLE, Int.reduceLT, Int.reduceNeg, Bool.not_not, and_self, Bool.and_eq_false_iff, Int.cast_ofNat_Int, Int.reduceAdd, Int.reduceSub, Int.reduceMul, Int.reduceEq, Int.reduceNe]
end Go.Vc

namespace Go.Vc
open Go.Proofs
theorem ot1_of {p : PV} (h : ArgOk (true, shOt) p) : ∃ x : Ot, p = x.pv ∧ x.ids.length ≤ 9223372036854775807 := by
  obtain ⟨ss, rfl, h⟩ := h
  obtain ⟨x, e⟩ := ot_of h
  exact ⟨x.1, e, x.2⟩
end Go.Vc
