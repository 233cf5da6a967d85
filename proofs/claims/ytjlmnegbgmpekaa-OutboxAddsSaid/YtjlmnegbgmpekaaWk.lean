/- A part of the proofs of the seat Ytjlmnegbgmpekaa: the contracts of functions, each proved out of its code. -/
import Derived.Test.YtjlmnegbgmpekaaWa
import Derived.Test.YtjlmnegbgmpekaaProg
namespace Go.Vc
open Go.Proofs
set_option maxRecDepth 100000

/-- 'api.Last]' -/
def M84 : MC := (.seq (.reg [⟨(some 6), none, (.q (.mv .nil))⟩] [] [0, 1, 2] [0, 1067]) (.seq (.reg [⟨(some 10), none, (.q (.mv (.t 0)))⟩, ⟨(some 11), none, (.q (.mv (.t 1)))⟩, ⟨(some 12), none,
  (.q (.slc (.t 10) (some (.t 11)) none 3 false))⟩] [] [0, 1, 2] [0, 1067]) (.seq (.reg [⟨(some 13), none, (.q (.mv (.t 2)))⟩, ⟨(some 14), none, (.q (.len (.t 13) false))⟩, ⟨(some 7), none,
  (.q (.mv (.t 14)))⟩] [] [0, 1, 2, 7] [0, 1067]) (.seq (.seq (.reg [⟨(some 15), none, (.q (.mv (.t 7)))⟩, ⟨(some 16), none, (.q (.bin .eql (.t 15) (.c (.int .i64 0))))⟩] [] [0, 1, 2, 7, 16] [0,
  1067]) (.cond (.t 16) (.seq (.reg [⟨(some 17), none, (.q (.mv (.t 0)))⟩, ⟨(some 6), none, (.q (.mv (.t 17)))⟩] [] [6] [0, 25, 40, 1067]) .ret) .skip)) (.seq (.reg [⟨(some 18), none,
  (.q (.mv (.t 0)))⟩, ⟨(some 19), none, (.q (.len (.t 18) false))⟩, ⟨(some 8), none, (.q (.mv (.t 19)))⟩] [] [0, 1, 2, 7, 8] [0, 1067]) (.seq (.seq (.reg [⟨(some 20), none, (.q (.mv (.t 1)))⟩,
  ⟨(some 21), none, (.q (.mv (.t 8)))⟩, ⟨(some 22), none, (.q (.bin .eql (.t 20) (.t 21)))⟩] [] [0, 1, 2, 7, 8, 22] [0, 1067]) (.cond (.t 22) (.seq (.reg [⟨(some 23), none, (.q (.mv (.t 0)))⟩,
  ⟨(some 24), none, (.q (.mv (.t 2)))⟩, ⟨(some 25), none, (.app (.t 23) (.t 24) 3 32)⟩, ⟨(some 6), none, (.q (.mv (.t 25)))⟩] [] [6] [0, 25, 40, 1067]) .ret) .skip)) (.seq (.seq (.reg [⟨(some 26),
  none, (.q (.mv (.t 8)))⟩, ⟨(some 27), none, (.q (.mv (.t 7)))⟩, ⟨(some 28), none, (.q (.bin .add (.t 26) (.t 27)))⟩, ⟨(some 29), none, (.q (.mv (.t 0)))⟩, ⟨(some 30), none, (.capr (.t 29))⟩,
  ⟨(some 31), none, (.q (.bin .gtr (.t 28) (.t 30)))⟩] [] [0, 1, 2, 7, 8, 31] [0, 1067]) (.cond (.t 31) (.seq (.reg [⟨(some 32), none, (.q (.mv (.t 0)))⟩, ⟨(some 33), none, (.q (.mv (.t 1)))⟩,
  ⟨(some 34), none, (.q (.slc (.t 32) none (some (.t 33)) 3 false))⟩, ⟨(some 35), none, (.q (.mv (.t 8)))⟩, ⟨(some 36), none, (.q (.mv (.t 7)))⟩, ⟨(some 37), none, (.q (.bin .add (.t 35) (.t 36)))⟩,
  ⟨(some 38), none, (.q (.mv (.t 1)))⟩, ⟨(some 39), none, (.q (.bin .sub (.t 37) (.t 38)))⟩, ⟨(some 40), none, (.appz (.t 34) (.t 39) 3 32 (.agg [(.sc (.string ⟨#[]⟩)), (.sc (.int .u64 0)),
  (.sc (.int .i64 0))]))⟩, ⟨(some 9), none, (.q (.mv (.t 40)))⟩] [] [0, 1, 2, 7, 9] [0, 40, 1067]) (.seq (.reg [⟨(some 41), none, (.q (.mv (.t 9)))⟩, ⟨(some 42), none, (.q (.mv (.t 1)))⟩, ⟨(some 43),
  none, (.q (.slc (.t 41) (some (.t 42)) none 3 false))⟩, ⟨(some 44), none, (.q (.mv (.t 2)))⟩, ⟨(some 45), none, (.cpy (.t 43) (.t 44) 3)⟩] [] [0, 1, 7, 9] [0, 40, 1067]) (.seq (.reg [⟨(some 46),
  none, (.q (.mv (.t 9)))⟩, ⟨(some 47), none, (.q (.mv (.t 1)))⟩, ⟨(some 48), none, (.q (.mv (.t 7)))⟩, ⟨(some 49), none, (.q (.bin .add (.t 47) (.t 48)))⟩, ⟨(some 50), none, (.q (.slc (.t 46)
  (some (.t 49)) none 3 false))⟩, ⟨(some 51), none, (.q (.mv (.t 0)))⟩, ⟨(some 52), none, (.q (.mv (.t 1)))⟩, ⟨(some 53), none, (.q (.slc (.t 51) (some (.t 52)) none 3 false))⟩, ⟨(some 54), none,
  (.cpy (.t 50) (.t 53) 3)⟩] [] [9] [0, 40, 1067]) (.seq (.reg [⟨(some 55), none, (.q (.mv (.t 9)))⟩, ⟨(some 6), none, (.q (.mv (.t 55)))⟩] [] [6] [0, 25, 40, 1067]) .ret)))) .skip))
  (.seq (.reg [⟨(some 56), none, (.q (.mv (.t 0)))⟩, ⟨(some 57), none, (.q (.mv (.t 8)))⟩, ⟨(some 58), none, (.q (.mv (.t 7)))⟩, ⟨(some 59), none, (.q (.bin .add (.t 57) (.t 58)))⟩, ⟨(some 60), none,
  (.q (.slcx (.t 56) none (some (.t 59)) 3))⟩, ⟨(some 0), none, (.q (.mv (.t 60)))⟩] [] [0, 1, 2, 7, 8] [0, 1067]) (.seq (.seq (.reg [⟨(some 61), none, (.q (.mv (.t 2)))⟩, ⟨(some 62), none,
  (.q (.mv (.t 0)))⟩, ⟨(some 63), none, (.q (.mv (.t 1)))⟩, ⟨(some 64), none, (.q (.mv (.t 7)))⟩, ⟨(some 65), none, (.q (.bin .add (.t 63) (.t 64)))⟩, ⟨(some 66), none, (.q (.slc (.t 62)
  (some (.t 65)) none 3 false))⟩, ⟨(some 67), none, (.calls (.f 105) [(.t 61), (.t 66)])⟩, ⟨(some 68), none, (.q (.not (.t 67)))⟩] [] [0, 1, 2, 7, 8, 68] [0, 1067]) (.cond (.t 68)
  (.seq (.reg [⟨(some 69), none, (.q (.mv (.t 0)))⟩, ⟨(some 70), none, (.q (.mv (.t 1)))⟩, ⟨(some 71), none, (.q (.mv (.t 7)))⟩, ⟨(some 72), none, (.q (.bin .add (.t 70) (.t 71)))⟩, ⟨(some 73), none,
  (.q (.slc (.t 69) (some (.t 72)) none 3 false))⟩, ⟨(some 74), none, (.q (.mv (.t 0)))⟩, ⟨(some 75), none, (.q (.mv (.t 1)))⟩, ⟨(some 76), none, (.q (.slc (.t 74) (some (.t 75)) none 3 false))⟩,
  ⟨(some 77), none, (.cpy (.t 73) (.t 76) 3)⟩] [] [0, 1, 2] [0, 1067]) (.seq (.reg [⟨(some 78), none, (.q (.mv (.t 0)))⟩, ⟨(some 79), none, (.q (.mv (.t 1)))⟩, ⟨(some 80), none, (.q (.slc (.t 78)
  (some (.t 79)) none 3 false))⟩, ⟨(some 81), none, (.q (.mv (.t 2)))⟩, ⟨(some 82), none, (.cpy (.t 80) (.t 81) 3)⟩] [] [0] [0, 1067]) (.seq (.reg [⟨(some 83), none, (.q (.mv (.t 0)))⟩, ⟨(some 6),
  none, (.q (.mv (.t 83)))⟩] [] [6] [0, 25, 40, 1067]) .ret))) .skip)) (.seq (.reg [⟨(some 84), none, (.q (.mv (.t 0)))⟩, ⟨(some 85), none, (.q (.mv (.t 8)))⟩, ⟨(some 86), none, (.q (.slc (.t 84)
  (some (.t 85)) none 3 false))⟩, ⟨(some 87), none, (.q (.mv (.t 2)))⟩, ⟨(some 88), none, (.cpy (.t 86) (.t 87) 3)⟩] [] [0, 1, 7] [0, 1067]) (.seq (.reg [⟨(some 89), none, (.q (.mv (.t 0)))⟩,
  ⟨(some 90), none, (.q (.mv (.t 1)))⟩, ⟨(some 91), none, (.q (.slc (.t 89) (some (.t 90)) none 3 false))⟩, ⟨(some 92), none, (.q (.mv (.t 7)))⟩, ⟨(some 93), none, (.call (.f 106) [(.t 91),
  (.t 92)])⟩] [] [0] [0, 1067]) (.seq (.reg [⟨(some 94), none, (.q (.mv (.t 0)))⟩, ⟨(some 6), none, (.q (.mv (.t 94)))⟩] [] [6] [0, 25, 40, 1067]) .ret))))))))))))
theorem mc84 : ofCode Try.prog [60, 67] Try.f84.ntmps [(0, ⟨[0, 1, 2], [0, 1067], [], 0, [], none⟩),
    (1, ⟨[0, 1, 2], [0, 1067], [], 0, [], none⟩),
    (2, ⟨[0, 1, 2, 7], [0, 1067], [], 0, [], none⟩),
    (3, ⟨[0, 1, 2, 7, 16], [0, 1067], [], 0, [], none⟩),
    (4, ⟨[6], [0, 25, 40, 1067], [], 0, [], none⟩),
    (5, ⟨[0, 1, 2, 7, 8], [0, 1067], [], 0, [], none⟩),
    (6, ⟨[0, 1, 2, 7, 8, 22], [0, 1067], [], 0, [], none⟩),
    (7, ⟨[6], [0, 25, 40, 1067], [], 0, [], none⟩),
    (8, ⟨[0, 1, 2, 7, 8, 31], [0, 1067], [], 0, [], none⟩),
    (9, ⟨[0, 1, 2, 7, 9], [0, 40, 1067], [], 0, [], none⟩),
    (10, ⟨[0, 1, 7, 9], [0, 40, 1067], [], 0, [], none⟩),
    (11, ⟨[9], [0, 40, 1067], [(0, 273), (1, 282), (2, 284), (3, 280), (4, 272), (5, 416), (6, 448), (7, 384), (8, 0)], 255, [], none⟩),
    (12, ⟨[6], [0, 25, 40, 1067], [], 0, [], none⟩),
    (13, ⟨[0, 1, 2, 7, 8], [0, 1067], [], 0, [], none⟩),
    (14, ⟨[0, 1, 2, 7, 8, 68], [0, 1067], [], 0, [], none⟩),
    (15, ⟨[0, 1, 2], [0, 1067], [(0, 273), (1, 282), (2, 284), (3, 280), (4, 272), (5, 416), (6, 448), (7, 384), (8, 0)], 255, [], none⟩),
    (16, ⟨[0], [0, 1067], [], 0, [], none⟩),
    (17, ⟨[6], [0, 25, 40, 1067], [], 0, [], none⟩),
    (18, ⟨[0, 1, 7], [0, 1067], [], 0, [], none⟩),
    (19, ⟨[0], [0, 1067], [], 0, [], none⟩),
    (20, ⟨[6], [0, 25, 40, 1067], [], 0, [], none⟩)] (Try.f84.body.getD .skip) = some M84 := by kernel_rfl
theorem Run84 {args : List PV} {v : AV} {rs : List (Nat × List PV)} (ids : List Bool) (h : args.length ≤ 95) (hv : run Try.prog (retK [RV.tmp 6] ids v rs) M84 [] ⟨entry 0 args, []⟩) : Fn Try.prog 84 args v rs :=
  Fn_run ids (by kernel_rfl) Try.func84 (by decide) rfl mc84 (by kernel_rfl) (by rw [Try.ntmps84]; exact h) (by rw [Try.ntmps84]; decide) hv
theorem RunS84 {args : List AV} {st st' : List (Nat × Row)} {v : AV} (h : args.length ≤ 95) (hk : (st'.map (·.1)).Nodup) (hv : run Try.prog (retS [RV.tmp 6] v st') M84 [] ⟨entryA 0 args, st⟩) : FnS Try.prog 84 args st v st' :=
  FnS_run (by kernel_rfl) Try.func84 (by decide) rfl mc84 (by kernel_rfl) (by rw [Try.ntmps84]; exact h) (by rw [Try.ntmps84]; decide) hk hv

/-- 'api.Out]' -/
def M88 : MC := (.seq (.reg [⟨(some 6), none, (.q (.mv .nil))⟩] [] [0, 1, 2] [0, 1067]) (.seq (.reg [⟨(some 10), none, (.q (.mv (.t 0)))⟩, ⟨(some 11), none, (.q (.mv (.t 1)))⟩, ⟨(some 12), none,
  (.q (.slc (.t 10) (some (.t 11)) none 5 false))⟩] [] [0, 1, 2] [0, 1067]) (.seq (.reg [⟨(some 13), none, (.q (.mv (.t 2)))⟩, ⟨(some 14), none, (.q (.len (.t 13) false))⟩, ⟨(some 7), none,
  (.q (.mv (.t 14)))⟩] [] [0, 1, 2, 7] [0, 1067]) (.seq (.seq (.reg [⟨(some 15), none, (.q (.mv (.t 7)))⟩, ⟨(some 16), none, (.q (.bin .eql (.t 15) (.c (.int .i64 0))))⟩] [] [0, 1, 2, 7, 16] [0,
  1067]) (.cond (.t 16) (.seq (.reg [⟨(some 17), none, (.q (.mv (.t 0)))⟩, ⟨(some 6), none, (.q (.mv (.t 17)))⟩] [] [6] [0, 25, 40, 1067]) .ret) .skip)) (.seq (.reg [⟨(some 18), none,
  (.q (.mv (.t 0)))⟩, ⟨(some 19), none, (.q (.len (.t 18) false))⟩, ⟨(some 8), none, (.q (.mv (.t 19)))⟩] [] [0, 1, 2, 7, 8] [0, 1067]) (.seq (.seq (.reg [⟨(some 20), none, (.q (.mv (.t 1)))⟩,
  ⟨(some 21), none, (.q (.mv (.t 8)))⟩, ⟨(some 22), none, (.q (.bin .eql (.t 20) (.t 21)))⟩] [] [0, 1, 2, 7, 8, 22] [0, 1067]) (.cond (.t 22) (.seq (.reg [⟨(some 23), none, (.q (.mv (.t 0)))⟩,
  ⟨(some 24), none, (.q (.mv (.t 2)))⟩, ⟨(some 25), none, (.app (.t 23) (.t 24) 5 64)⟩, ⟨(some 6), none, (.q (.mv (.t 25)))⟩] [] [6] [0, 25, 40, 1067]) .ret) .skip)) (.seq (.seq (.reg [⟨(some 26),
  none, (.q (.mv (.t 8)))⟩, ⟨(some 27), none, (.q (.mv (.t 7)))⟩, ⟨(some 28), none, (.q (.bin .add (.t 26) (.t 27)))⟩, ⟨(some 29), none, (.q (.mv (.t 0)))⟩, ⟨(some 30), none, (.capr (.t 29))⟩,
  ⟨(some 31), none, (.q (.bin .gtr (.t 28) (.t 30)))⟩] [] [0, 1, 2, 7, 8, 31] [0, 1067]) (.cond (.t 31) (.seq (.reg [⟨(some 32), none, (.q (.mv (.t 0)))⟩, ⟨(some 33), none, (.q (.mv (.t 1)))⟩,
  ⟨(some 34), none, (.q (.slc (.t 32) none (some (.t 33)) 5 false))⟩, ⟨(some 35), none, (.q (.mv (.t 8)))⟩, ⟨(some 36), none, (.q (.mv (.t 7)))⟩, ⟨(some 37), none, (.q (.bin .add (.t 35) (.t 36)))⟩,
  ⟨(some 38), none, (.q (.mv (.t 1)))⟩, ⟨(some 39), none, (.q (.bin .sub (.t 37) (.t 38)))⟩, ⟨(some 40), none, (.appz (.t 34) (.t 39) 5 64 (.agg [(.sc (.int .u64 0)), (.sc (.string ⟨#[]⟩)), (.lst []),
  (.sc (.int .i64 0)), (.sc (.int .i64 0))]))⟩, ⟨(some 9), none, (.q (.mv (.t 40)))⟩] [] [0, 1, 2, 7, 9] [0, 40, 1067]) (.seq (.reg [⟨(some 41), none, (.q (.mv (.t 9)))⟩, ⟨(some 42), none,
  (.q (.mv (.t 1)))⟩, ⟨(some 43), none, (.q (.slc (.t 41) (some (.t 42)) none 5 false))⟩, ⟨(some 44), none, (.q (.mv (.t 2)))⟩, ⟨(some 45), none, (.cpy (.t 43) (.t 44) 5)⟩] [] [0, 1, 7, 9] [0, 40,
  1067]) (.seq (.reg [⟨(some 46), none, (.q (.mv (.t 9)))⟩, ⟨(some 47), none, (.q (.mv (.t 1)))⟩, ⟨(some 48), none, (.q (.mv (.t 7)))⟩, ⟨(some 49), none, (.q (.bin .add (.t 47) (.t 48)))⟩, ⟨(some 50),
  none, (.q (.slc (.t 46) (some (.t 49)) none 5 false))⟩, ⟨(some 51), none, (.q (.mv (.t 0)))⟩, ⟨(some 52), none, (.q (.mv (.t 1)))⟩, ⟨(some 53), none, (.q (.slc (.t 51) (some (.t 52))
  none 5 false))⟩, ⟨(some 54), none, (.cpy (.t 50) (.t 53) 5)⟩] [] [9] [0, 40, 1067]) (.seq (.reg [⟨(some 55), none, (.q (.mv (.t 9)))⟩, ⟨(some 6), none, (.q (.mv (.t 55)))⟩] [] [6] [0, 25, 40, 1067])
  .ret)))) .skip)) (.seq (.reg [⟨(some 56), none, (.q (.mv (.t 0)))⟩, ⟨(some 57), none, (.q (.mv (.t 8)))⟩, ⟨(some 58), none, (.q (.mv (.t 7)))⟩, ⟨(some 59), none, (.q (.bin .add (.t 57) (.t 58)))⟩,
  ⟨(some 60), none, (.q (.slcx (.t 56) none (some (.t 59)) 5))⟩, ⟨(some 0), none, (.q (.mv (.t 60)))⟩] [] [0, 1, 2, 7, 8] [0, 1067]) (.seq (.seq (.reg [⟨(some 61), none, (.q (.mv (.t 2)))⟩,
  ⟨(some 62), none, (.q (.mv (.t 0)))⟩, ⟨(some 63), none, (.q (.mv (.t 1)))⟩, ⟨(some 64), none, (.q (.mv (.t 7)))⟩, ⟨(some 65), none, (.q (.bin .add (.t 63) (.t 64)))⟩, ⟨(some 66), none,
  (.q (.slc (.t 62) (some (.t 65)) none 5 false))⟩, ⟨(some 67), none, (.calls (.f 108) [(.t 61), (.t 66)])⟩, ⟨(some 68), none, (.q (.not (.t 67)))⟩] [] [0, 1, 2, 7, 8, 68] [0, 1067]) (.cond (.t 68)
  (.seq (.reg [⟨(some 69), none, (.q (.mv (.t 0)))⟩, ⟨(some 70), none, (.q (.mv (.t 1)))⟩, ⟨(some 71), none, (.q (.mv (.t 7)))⟩, ⟨(some 72), none, (.q (.bin .add (.t 70) (.t 71)))⟩, ⟨(some 73), none,
  (.q (.slc (.t 69) (some (.t 72)) none 5 false))⟩, ⟨(some 74), none, (.q (.mv (.t 0)))⟩, ⟨(some 75), none, (.q (.mv (.t 1)))⟩, ⟨(some 76), none, (.q (.slc (.t 74) (some (.t 75)) none 5 false))⟩,
  ⟨(some 77), none, (.cpy (.t 73) (.t 76) 5)⟩] [] [0, 1, 2] [0, 1067]) (.seq (.reg [⟨(some 78), none, (.q (.mv (.t 0)))⟩, ⟨(some 79), none, (.q (.mv (.t 1)))⟩, ⟨(some 80), none, (.q (.slc (.t 78)
  (some (.t 79)) none 5 false))⟩, ⟨(some 81), none, (.q (.mv (.t 2)))⟩, ⟨(some 82), none, (.cpy (.t 80) (.t 81) 5)⟩] [] [0] [0, 1067]) (.seq (.reg [⟨(some 83), none, (.q (.mv (.t 0)))⟩, ⟨(some 6),
  none, (.q (.mv (.t 83)))⟩] [] [6] [0, 25, 40, 1067]) .ret))) .skip)) (.seq (.reg [⟨(some 84), none, (.q (.mv (.t 0)))⟩, ⟨(some 85), none, (.q (.mv (.t 8)))⟩, ⟨(some 86), none, (.q (.slc (.t 84)
  (some (.t 85)) none 5 false))⟩, ⟨(some 87), none, (.q (.mv (.t 2)))⟩, ⟨(some 88), none, (.cpy (.t 86) (.t 87) 5)⟩] [] [0, 1, 7] [0, 1067]) (.seq (.reg [⟨(some 89), none, (.q (.mv (.t 0)))⟩,
  ⟨(some 90), none, (.q (.mv (.t 1)))⟩, ⟨(some 91), none, (.q (.slc (.t 89) (some (.t 90)) none 5 false))⟩, ⟨(some 92), none, (.q (.mv (.t 7)))⟩, ⟨(some 93), none, (.call (.f 109) [(.t 91),
  (.t 92)])⟩] [] [0] [0, 1067]) (.seq (.reg [⟨(some 94), none, (.q (.mv (.t 0)))⟩, ⟨(some 6), none, (.q (.mv (.t 94)))⟩] [] [6] [0, 25, 40, 1067]) .ret))))))))))))
theorem mc88 : ofCode Try.prog [60, 67] Try.f88.ntmps [(0, ⟨[0, 1, 2], [0, 1067], [], 0, [], none⟩),
    (1, ⟨[0, 1, 2], [0, 1067], [], 0, [], none⟩),
    (2, ⟨[0, 1, 2, 7], [0, 1067], [], 0, [], none⟩),
    (3, ⟨[0, 1, 2, 7, 16], [0, 1067], [], 0, [], none⟩),
    (4, ⟨[6], [0, 25, 40, 1067], [], 0, [], none⟩),
    (5, ⟨[0, 1, 2, 7, 8], [0, 1067], [], 0, [], none⟩),
    (6, ⟨[0, 1, 2, 7, 8, 22], [0, 1067], [], 0, [], none⟩),
    (7, ⟨[6], [0, 25, 40, 1067], [], 0, [], none⟩),
    (8, ⟨[0, 1, 2, 7, 8, 31], [0, 1067], [], 0, [], none⟩),
    (9, ⟨[0, 1, 2, 7, 9], [0, 40, 1067], [], 0, [], none⟩),
    (10, ⟨[0, 1, 7, 9], [0, 40, 1067], [], 0, [], none⟩),
    (11, ⟨[9], [0, 40, 1067], [(0, 273), (1, 282), (2, 284), (3, 280), (4, 272), (5, 416), (6, 448), (7, 384), (8, 0)], 255, [], none⟩),
    (12, ⟨[6], [0, 25, 40, 1067], [], 0, [], none⟩),
    (13, ⟨[0, 1, 2, 7, 8], [0, 1067], [], 0, [], none⟩),
    (14, ⟨[0, 1, 2, 7, 8, 68], [0, 1067], [], 0, [], none⟩),
    (15, ⟨[0, 1, 2], [0, 1067], [(0, 273), (1, 282), (2, 284), (3, 280), (4, 272), (5, 416), (6, 448), (7, 384), (8, 0)], 255, [], none⟩),
    (16, ⟨[0], [0, 1067], [], 0, [], none⟩),
    (17, ⟨[6], [0, 25, 40, 1067], [], 0, [], none⟩),
    (18, ⟨[0, 1, 7], [0, 1067], [], 0, [], none⟩),
    (19, ⟨[0], [0, 1067], [], 0, [], none⟩),
    (20, ⟨[6], [0, 25, 40, 1067], [], 0, [], none⟩)] (Try.f88.body.getD .skip) = some M88 := by kernel_rfl
theorem Run88 {args : List PV} {v : AV} {rs : List (Nat × List PV)} (ids : List Bool) (h : args.length ≤ 95) (hv : run Try.prog (retK [RV.tmp 6] ids v rs) M88 [] ⟨entry 0 args, []⟩) : Fn Try.prog 88 args v rs :=
  Fn_run ids (by kernel_rfl) Try.func88 (by decide) rfl mc88 (by kernel_rfl) (by rw [Try.ntmps88]; exact h) (by rw [Try.ntmps88]; decide) hv
theorem RunS88 {args : List AV} {st st' : List (Nat × Row)} {v : AV} (h : args.length ≤ 95) (hk : (st'.map (·.1)).Nodup) (hv : run Try.prog (retS [RV.tmp 6] v st') M88 [] ⟨entryA 0 args, st⟩) : FnS Try.prog 88 args st v st' :=
  FnS_run (by kernel_rfl) Try.func88 (by decide) rfl mc88 (by kernel_rfl) (by rw [Try.ntmps88]; exact h) (by rw [Try.ntmps88]; decide) hk hv

end Go.Vc

namespace Go.Vc
open Go.Proofs
set_option linter.unusedSimpArgs false
set_option linter.unusedVariables false

/-- a list with one more -/
def putL {α : Type} (l : List α) (i : Nat) (x : α) : List α := l.take i ++ x :: l.drop i
theorem putL_map {α β : Type} (f : α → β) (l : List α) (i : Nat) (x : α) : putL (l.map f) i (f x) = (putL l i x).map f := by simp [putL]
theorem putL_length {α : Type} {l : List α} {i : Nat} {x : α} (h : i ≤ l.length) : (putL l i x).length = l.length + 1 := by simp [putL]; omega
theorem ins_grow {xs sp : List PV} {i : Nat} (hi : i ≤ xs.length) (p z : PV) :
    (laidAt (laidAt ((xs ++ sp).take i ++ List.replicate (xs.length + 1 - i) z) i [p]) (i + 1) (((xs ++ sp).drop i).take (xs.length - i))).take (xs.length + 1) = putL xs i p := by
  obtain ⟨A, B, rfl, rfl⟩ : ∃ A B, xs = A ++ B ∧ A.length = i := ⟨xs.take i, xs.drop i, (List.take_append_drop i xs).symm, by simp; omega⟩
  have e1 : (A ++ B).length + 1 - A.length = B.length + 1 := by simp; omega
  have e2 : (A ++ B).length - A.length = B.length := by simp
  rw [e1, e2]
  simp [laidAt, putL, List.take_append, List.drop_append, List.replicate_succ, List.take_of_length_le, show A.length + B.length + 1 - A.length = B.length + 1 by omega]
  rw [List.take_of_length_le (by omega), List.drop_of_length_le (by omega), List.nil_append]
theorem ins_shift {xs sp : List PV} {i : Nat} (hi : i < xs.length) (hs : 0 < sp.length) (p : PV) :
    (laidAt (laidAt (xs ++ sp) (i + 1) ((((xs ++ sp).drop i).take (xs.length + 1 - i)).take (xs.length - i))) i [p]).take (xs.length + 1) = putL xs i p := by
  obtain ⟨A, B, rfl, rfl⟩ : ∃ A B, xs = A ++ B ∧ A.length = i := ⟨xs.take i, xs.drop i, (List.take_append_drop i xs).symm, by simp; omega⟩
  cases sp with
  | nil => simp at hs
  | cons q sp =>
    have e1 : (A ++ B).length + 1 - A.length = B.length + 1 := by simp; omega
    have e2 : (A ++ B).length - A.length = B.length := by simp
    cases B with
    | nil => simp at hi
    | cons b B =>
      rw [e1, e2]
      simp [laidAt, putL, List.take_append, List.drop_append, List.take_of_length_le, show A.length + (B.length + 1) + 1 - A.length = B.length + 1 + 1 by omega, show A.length + 1 + (B.length + 1) - A.length = B.length + 1 + 1 by omega]
      rw [List.take_of_length_le (by omega), List.drop_of_length_le (by omega), List.nil_append]
theorem ov105 {ps : List PV} {st : List (Nat × Row)} {r off n : Nat} {xs : List PV} (hst : (r, .slf 3 xs) ∈ st) (hw : WfL 3 ps) : FnX Try.prog 105 [.pv (.lst ps), .row r off n] st (vbool false) :=
  fnX_overlaps 56 58 4 Try.func105 (by decide) rfl (by kernel_rfl) (by kernel_rfl) (by kernel_rfl) (by kernel_rfl) hst hw (by decide)
/-- 'slices.Insert' -/
theorem fnS84 (xs : List PV) (hx : WfL 3 xs) (p : PV) (hp : WfL 3 [p]) (i : Nat) (hi : i ≤ xs.length) (hl : xs.length < 100000) :
    FnS Try.prog 84 [.row 0 0 xs.length, .pv (pI i), .pv (.lst [p])] [(0, .sl 3 xs)] (.pv (.lst (putL xs i p))) [] := by
  refine RunS84 (by simp) (by simp) ?_
  simp only [go_sem, Nat.reduceEqDiff, Nat.reduceBEq, Nat.reduceAdd, Nat.reduceMul, Nat.reduceSub, Nat.reduceLeDiff, Nat.reduceLT, reduceIte, reduceCtorEq, Int.reduceToNat, Int.reduceLE, Int.reduceLT, Int.reduceNeg, Bool.not_not, and_self, Bool.and_eq_false_iff, Int.cast_ofNat_Int, Int.reduceAdd, Int.reduceSub, Int.reduceMul, Int.reduceEq, Int.reduceNe, M84]
  refine ⟨⟨by omega, by omega⟩, fun he => ⟨⟨hp, by omega, by omega⟩, ?_⟩, fun hne => ⟨⟨by omega, by omega⟩, fun sp hsp => ⟨fun hg => ?_, fun hg => ?_⟩⟩⟩
  · have : i = xs.length := by omega
    subst this
    rw [List.take_of_length_le (by simp)]
    simp [putL]
  · have e1 : ((xs.length : Int) + 1 - i).toNat = xs.length + 1 - i := by omega
    have e2 : ((i : Int) + 1).toNat = i + 1 := by omega
    have e3 : (List.take (xs.length - i) (List.drop i (xs ++ sp))).length = xs.length - i := by simp; omega
    have e4 : i + (xs.length + 1 - i) = xs.length + 1 := by omega
    have e5 : (xs ++ sp).length = xs.length + sp.length := by simp
    simp only [e1, e2, e3, e4, e5, Nat.sub_zero]
    refine ⟨by omega, ⟨by omega, by omega⟩, ⟨by omega, by omega⟩, by omega, by omega, by omega, by omega, by omega, ⟨by omega, by omega⟩, by omega, hp, 1, by omega, ?_, ⟨by omega, by omega⟩, ⟨by omega, by omega, by omega⟩, ⟨by omega, by omega⟩, by omega,
      (WfL.append hx hsp).drop.take, xs.length - i, by omega, ?_, ?_⟩
    · show min _ _ = _; omega
    · show min _ _ = _; omega
    · have := ins_grow (sp := sp) hi p (PV.agg [PV.sc (Value.string { data := #[] }), PV.sc (Value.int IntKind.u64 0), PV.sc (Value.int IntKind.i64 0)])
      rw [List.take_take, Nat.min_self]
      rw [← this]
      rfl
  · have e1 : ((xs.length : Int) + 1).toNat = xs.length + 1 := by omega
    have e2 : ((i : Int) + 1).toNat = i + 1 := by omega
    simp only [e1, e2, Nat.sub_zero]
    refine ⟨⟨by omega, by omega⟩, ⟨by omega, by simp; omega⟩, ⟨by omega, by omega⟩, ⟨by omega, by omega, by omega⟩, runR_callx (by simp only [go_sem, Nat.reduceEqDiff, Nat.reduceBEq, Nat.reduceAdd, Nat.reduceMul, Nat.reduceSub, Nat.reduceLeDiff, Nat.reduceLT, reduceIte, reduceCtorEq, Int.reduceToNat, Int.reduceLE, Int.reduceLT, Int.reduceNeg, Bool.not_not, and_self, Bool.and_eq_false_iff, Int.cast_ofNat_Int, Int.reduceAdd, Int.reduceSub, Int.reduceMul, Int.reduceEq, Int.reduceNe]) (by simp only [go_sem, Nat.reduceEqDiff, Nat.reduceBEq, Nat.reduceAdd, Nat.reduceMul, Nat.reduceSub, Nat.reduceLeDiff, Nat.reduceLT, reduceIte, reduceCtorEq, Int.reduceToNat, Int.reduceLE, Int.reduceLT, Int.reduceNeg, Bool.not_not, and_self, Bool.and_eq_false_iff, Int.cast_ofNat_Int, Int.reduceAdd, Int.reduceSub, Int.reduceMul, Int.reduceEq, Int.reduceNe] <;> rfl) (ov105 (xs := xs ++ sp) (r := 0) (by simp) hp) ?_⟩
    simp only [go_sem, Nat.reduceEqDiff, Nat.reduceBEq, Nat.reduceAdd, Nat.reduceMul, Nat.reduceSub, Nat.reduceLeDiff, Nat.reduceLT, reduceIte, reduceCtorEq, Int.reduceToNat, Int.reduceLE, Int.reduceLT, Int.reduceNeg, Bool.not_not, and_self, Bool.and_eq_false_iff, Int.cast_ofNat_Int, Int.reduceAdd, Int.reduceSub, Int.reduceMul, Int.reduceEq, Int.reduceNe]
    have e3 : (List.take (xs.length + 1 - i) (List.drop i (xs ++ sp))).length = xs.length + 1 - i := by simp; omega
    simp only [e2, e3]
    refine ⟨⟨by omega, by omega⟩, ⟨by omega, by omega, by omega⟩, ⟨by omega, by omega⟩, by omega, (WfL.append hx hsp).drop.take, xs.length - i, by omega, ?_, ⟨by omega, by omega⟩, by omega, hp, 1, by omega, ?_, ?_⟩
    · show min _ _ = _; omega
    · show min _ _ = _; omega
    · have := ins_shift (sp := sp) (show i < xs.length by omega) (by omega) p
      rw [← this]
      rfl
theorem ov108 {ps : List PV} {st : List (Nat × Row)} {r off n : Nat} {xs : List PV} (hst : (r, .slf 5 xs) ∈ st) (hw : WfL 5 ps) : FnX Try.prog 108 [.pv (.lst ps), .row r off n] st (vbool false) :=
  fnX_overlaps 22 36 4 Try.func108 (by decide) rfl (by kernel_rfl) (by kernel_rfl) (by kernel_rfl) (by kernel_rfl) hst hw (by decide)
/-- 'slices.Insert' -/
theorem fnS88 (xs : List PV) (hx : WfL 5 xs) (p : PV) (hp : WfL 5 [p]) (i : Nat) (hi : i ≤ xs.length) (hl : xs.length < 100000) :
    FnS Try.prog 88 [.row 0 0 xs.length, .pv (pI i), .pv (.lst [p])] [(0, .sl 5 xs)] (.pv (.lst (putL xs i p))) [] := by
  refine RunS88 (by simp) (by simp) ?_
  simp only [go_sem, Nat.reduceEqDiff, Nat.reduceBEq, Nat.reduceAdd, Nat.reduceMul, Nat.reduceSub, Nat.reduceLeDiff, Nat.reduceLT, reduceIte, reduceCtorEq, Int.reduceToNat, Int.reduceLE, Int.reduceLT, Int.reduceNeg, Bool.not_not, and_self, Bool.and_eq_false_iff, Int.cast_ofNat_Int, Int.reduceAdd, Int.reduceSub, Int.reduceMul, Int.reduceEq, Int.reduceNe, M88]
  refine ⟨⟨by omega, by omega⟩, fun he => ⟨⟨hp, by omega, by omega⟩, ?_⟩, fun hne => ⟨⟨by omega, by omega⟩, fun sp hsp => ⟨fun hg => ?_, fun hg => ?_⟩⟩⟩
  · have : i = xs.length := by omega
    subst this
    rw [List.take_of_length_le (by simp)]
    simp [putL]
  · have e1 : ((xs.length : Int) + 1 - i).toNat = xs.length + 1 - i := by omega
    have e2 : ((i : Int) + 1).toNat = i + 1 := by omega
    have e3 : (List.take (xs.length - i) (List.drop i (xs ++ sp))).length = xs.length - i := by simp; omega
    have e4 : i + (xs.length + 1 - i) = xs.length + 1 := by omega
    have e5 : (xs ++ sp).length = xs.length + sp.length := by simp
    simp only [e1, e2, e3, e4, e5, Nat.sub_zero]
    refine ⟨by omega, ⟨by omega, by omega⟩, ⟨by omega, by omega⟩, by omega, by omega, by omega, by omega, by omega, ⟨by omega, by omega⟩, by omega, hp, 1, by omega, ?_, ⟨by omega, by omega⟩, ⟨by omega, by omega, by omega⟩, ⟨by omega, by omega⟩, by omega,
      (WfL.append hx hsp).drop.take, xs.length - i, by omega, ?_, ?_⟩
    · show min _ _ = _; omega
    · show min _ _ = _; omega
    · have := ins_grow (sp := sp) hi p (PV.agg [PV.sc (Value.int IntKind.u64 0), PV.sc (Value.string { data := #[] }), PV.lst [], PV.sc (Value.int IntKind.i64 0), PV.sc (Value.int IntKind.i64 0)])
      rw [List.take_take, Nat.min_self]
      rw [← this]
      rfl
  · have e1 : ((xs.length : Int) + 1).toNat = xs.length + 1 := by omega
    have e2 : ((i : Int) + 1).toNat = i + 1 := by omega
    simp only [e1, e2, Nat.sub_zero]
    refine ⟨⟨by omega, by omega⟩, ⟨by omega, by simp; omega⟩, ⟨by omega, by omega⟩, ⟨by omega, by omega, by omega⟩, runR_callx (by simp only [go_sem, Nat.reduceEqDiff, Nat.reduceBEq, Nat.reduceAdd, Nat.reduceMul, Nat.reduceSub, Nat.reduceLeDiff, Nat.reduceLT, reduceIte, reduceCtorEq, Int.reduceToNat, Int.reduceLE, Int.reduceLT, Int.reduceNeg, Bool.not_not, and_self, Bool.and_eq_false_iff, Int.cast_ofNat_Int, Int.reduceAdd, Int.reduceSub, Int.reduceMul, Int.reduceEq, Int.reduceNe]) (by simp only [go_sem, Nat.reduceEqDiff, Nat.reduceBEq, Nat.reduceAdd, Nat.reduceMul, Nat.reduceSub, Nat.reduceLeDiff, Nat.reduceLT, reduceIte, reduceCtorEq, Int.reduceToNat, Int.reduceLE, Int.reduceLT, Int.reduceNeg, Bool.not_not, and_self, Bool.and_eq_false_iff, Int.cast_ofNat_Int, Int.reduceAdd, Int.reduceSub, Int.reduceMul, Int.reduceEq, Int.reduceNe] <;> rfl) (ov108 (xs := xs ++ sp) (r := 0) (by simp) hp) ?_⟩
    simp only [go_sem, Nat.reduceEqDiff, Nat.reduceBEq, Nat.reduceAdd, Nat.reduceMul, Nat.reduceSub, Nat.reduceLeDiff, Nat.reduceLT, reduceIte, reduceCtorEq, Int.reduceToNat, Int.reduceLE, Int.reduceLT, Int.reduceNeg, Bool.not_not, and_self, Bool.and_eq_false_iff, Int.cast_ofNat_Int, Int.reduceAdd, Int.reduceSub, Int.reduceMul, Int.reduceEq, Int.reduceNe]
    have e3 : (List.take (xs.length + 1 - i) (List.drop i (xs ++ sp))).length = xs.length + 1 - i := by simp; omega
    simp only [e2, e3]
    refine ⟨⟨by omega, by omega⟩, ⟨by omega, by omega, by omega⟩, ⟨by omega, by omega⟩, by omega, (WfL.append hx hsp).drop.take, xs.length - i, by omega, ?_, ⟨by omega, by omega⟩, by omega, hp, 1, by omega, ?_, ?_⟩
    · show min _ _ = _; omega
    · show min _ _ = _; omega
    · have := ins_shift (sp := sp) (show i < xs.length by omega) (by omega) p
      rw [← this]
      rfl
end Go.Vc
