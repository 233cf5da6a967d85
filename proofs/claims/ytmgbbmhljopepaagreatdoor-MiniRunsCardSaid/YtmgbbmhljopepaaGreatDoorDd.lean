/- A part of the proofs of the seat YtmgbbmhljopepaaGreatDoor: the contracts of functions, each proved out of its code. -/
import Derived.Test.YtmgbbmhljopepaaGreatDoorVh
import Derived.Test.YtmgbbmhljopepaaGreatDoorProg
import Derived.Test.YtmgbbmhljopepaaGreatDoorDc
import Derived.Test.YtmgbbmhljopepaaGreatDoorVr
import Derived.Shelf.Sort.Plain
import Derived.Shelf.Slices.In.SortNone
namespace Go.Vc
open Go.Proofs
set_option maxRecDepth 100000
def B69_0 : MC := (.seq (.reg [⟨some 10, none, .nxtm (.t 9)⟩, ⟨some 11, none, .q (.ext (.t 10) 0)⟩] [] [3, 9, 11] [7, 9, 17, 1019, 200000]) (.seq (.cond (.t 11) .skip (.exit 0))
 (.block 1 (.seq (.reg [⟨some 12, none, .q (.ent (.t 9))⟩, ⟨some 13, none, .q (.ext (.t 12) 0)⟩, ⟨some 4, none, .q (.mv (.t 13))⟩] [] [3, 4, 9] [7, 9, 17, 1019, 200000])
 (.reg [⟨some 14, none, .q (.mv (.t 3))⟩, ⟨some 15, none, .q (.mv (.t 4))⟩, ⟨some 16, none, .lits [.t 15] 1⟩, ⟨some 17, none, .app (.t 14) (.t 16) 1 8⟩, ⟨some 3, none,
 .q (.mv (.t 17))⟩] [] [3, 9] [7, 9, 17, 1019, 200000])))))
def R69_0 : MC := (.seq (.reg [⟨some 18, none, .q (.mv (.t 3))⟩, ⟨some 19, none, .calls (.f 80) [.t 18]⟩] [] [3] [7, 17, 1019, 200000]) (.seq (.reg [⟨some 20, none, .q (.mv (.t 3))⟩,
 ⟨some 2, none, .q (.mv (.t 20))⟩] [] [2] [7, 17, 1019, 200000]) .ret))
def M69 : MC := (.seq (.reg [⟨some 2, none, .q (.mv .nil)⟩] [] [0] [200000]) (.seq (.reg [⟨some 5, none, .q (.mv (.t 0))⟩, ⟨some 6, none, .q (.mlen (.t 5))⟩, ⟨some 7, none,
 .mks (.c (.int .i64 0)) (.t 6) 1 8 (.sc (.int .i64 0))⟩, ⟨some 3, none, .q (.mv (.t 7))⟩] [] [0, 3] [7, 17, 1019, 200000]) (.seq (.seq (.reg [⟨some 8, none, .q (.mv (.t 0))⟩, ⟨some 9,
 none, .rngm (.t 8)⟩] [] [3, 9] [7, 9, 17, 1019, 200000]) (.block 0 (.loop B69_0))) R69_0)))
theorem mc69 : ofCode Tryz.prog [19] Tryz.f69.ntmps [(0, ⟨[0], [200000], [], 0, [], none⟩),
  (1, ⟨[0, 3], [7, 17, 1019, 200000], [], 0, [], none⟩),
  (2, ⟨[3, 9], [7, 9, 17, 1019, 200000], [], 0, [], none⟩),
  (3, ⟨[3, 9, 11], [7, 9, 17, 1019, 200000], [], 0, [], none⟩),
  (4, ⟨[3, 4, 9], [7, 9, 17, 1019, 200000], [], 0, [], none⟩),
  (5, ⟨[3, 9], [7, 9, 17, 1019, 200000], [], 0, [], none⟩),
  (6, ⟨[3], [7, 17, 1019, 200000], [], 0, [], none⟩),
  (7, ⟨[2], [7, 17, 1019, 200000], [], 0, [], none⟩)] (Tryz.f69.body.getD .skip) = some M69 := by kernel_rfl
theorem RunS69 {args : List AV} {st st' : List (Nat × Row)} {v : AV} (h : args.length ≤ 21) (hk : (st'.map (·.1)).Nodup) (hv : run Tryz.prog (retS [RV.tmp 2] v st') M69 [] ⟨entryA 0 args, st⟩) : FnS Tryz.prog 69 args st v st' :=
 FnS_run (by kernel_rfl) Tryz.func69 (by decide) rfl mc69 (by kernel_rfl) (by rw [Tryz.ntmps69]; exact h) (by rw [Tryz.ntmps69]; decide) hk hv
def B76_1 : MC := (.seq (.seq (.reg [⟨some 29, none, .q (.mv (.t 5))⟩, ⟨some 30, none, .q (.mv (.t 4))⟩, ⟨some 31, none, .q (.len (.t 30) false)⟩, ⟨some 32, none, .q (.bin .lss (.t 29)
 (.t 31))⟩] [] [0, 3, 4, 5, 32] [200000]) (.cond (.t 32) .skip (.exit 2))) (.seq (.block 3 (.seq (.reg [⟨some 35, none, .q (.mv (.t 4))⟩, ⟨some 36, none, .q (.mv (.t 5))⟩, ⟨some 37, none,
 .q (.ia (.t 35) (.t 36) 1)⟩, ⟨some 38, none, .q (.ld (.t 37) 1 false)⟩, ⟨some 39, none, .q (.mv (.t 4))⟩, ⟨some 40, none, .q (.mv (.t 5))⟩, ⟨some 41, none, .q (.bin .sub (.t 40)
 (.c (.int .i64 1)))⟩, ⟨some 42, none, .q (.ia (.t 39) (.t 41) 1)⟩, ⟨some 43, none, .q (.ld (.t 42) 1 false)⟩, ⟨some 44, none, .q (.bin .neq (.t 38) (.t 43))⟩] [] [0, 3, 4, 5,
 44] [200000]) (.cond (.t 44) (.seq (.reg [⟨some 45, none, .q (.mv (.t 0))⟩, ⟨some 46, none, .q (.mv (.t 3))⟩, ⟨some 47, none, .q (.mv (.t 4))⟩, ⟨some 48, none, .q (.mv (.t 5))⟩,
 ⟨some 49, none, .q (.ia (.t 47) (.t 48) 1)⟩, ⟨some 50, none, .q (.ld (.t 49) 1 false)⟩, ⟨some 51, none, .q (.ia (.t 45) (.t 46) 1)⟩, ⟨none, none, .st (.t 51) (.t 50) 1⟩] [] [0, 3, 4,
 5] [200000]) (.reg [⟨some 52, none, .q (.mv (.t 3))⟩, ⟨some 53, none, .q (.bin .add (.t 52) (.c (.int .i64 1)))⟩, ⟨some 3, none, .q (.mv (.t 53))⟩] [] [0, 3, 4, 5] [200000])) .skip)))
 (.reg [⟨some 33, none, .q (.mv (.t 5))⟩, ⟨some 34, none, .q (.bin .add (.t 33) (.c (.int .i64 1)))⟩, ⟨some 5, none, .q (.mv (.t 34))⟩] [] [0, 3, 4, 5] [200000])))
def R76_1 : MC := (.seq (.reg [⟨some 54, none, .q (.mv (.t 0))⟩, ⟨some 55, none, .q (.mv (.t 3))⟩, ⟨some 56, none, .q (.slc (.t 54) (some (.t 55)) none 1 false)⟩, ⟨none, none,
 .clr (.t 56) 1 (.sc (.string ⟨#[]⟩))⟩] [] [0, 3] [200000]) (.seq (.reg [⟨some 57, none, .q (.mv (.t 0))⟩, ⟨some 58, none, .q (.mv (.t 3))⟩, ⟨some 59, none, .q (.slc (.t 57)
 none (some (.t 58)) 1 false)⟩, ⟨some 2, none, .q (.mv (.t 59))⟩] [] [2] [200000]) .ret))
def B76_0 : MC := (.seq (.seq (.reg [⟨some 10, none, .q (.mv (.t 3))⟩, ⟨some 11, none, .q (.mv (.t 0))⟩, ⟨some 12, none, .q (.len (.t 11) false)⟩, ⟨some 13, none, .q (.bin .lss (.t 10)
 (.t 12))⟩] [] [0, 3, 13] [200000]) (.cond (.t 13) .skip (.exit 0))) (.seq (.block 1 (.seq (.reg [⟨some 16, none, .q (.mv (.t 0))⟩, ⟨some 17, none, .q (.mv (.t 3))⟩, ⟨some 18, none,
 .q (.ia (.t 16) (.t 17) 1)⟩, ⟨some 19, none, .q (.ld (.t 18) 1 false)⟩, ⟨some 20, none, .q (.mv (.t 0))⟩, ⟨some 21, none, .q (.mv (.t 3))⟩, ⟨some 22, none, .q (.bin .sub (.t 21)
 (.c (.int .i64 1)))⟩, ⟨some 23, none, .q (.ia (.t 20) (.t 22) 1)⟩, ⟨some 24, none, .q (.ld (.t 23) 1 false)⟩, ⟨some 25, none, .q (.bin .eql (.t 19) (.t 24))⟩] [] [0, 3, 25] [200000])
 (.cond (.t 25) (.seq (.reg [⟨some 26, none, .q (.mv (.t 0))⟩, ⟨some 27, none, .q (.mv (.t 3))⟩, ⟨some 28, none, .q (.slc (.t 26) (some (.t 27)) none 1 false)⟩, ⟨some 4, none,
 .q (.mv (.t 28))⟩] [] [0, 3, 4] [200000]) (.seq (.seq (.reg [⟨some 5, none, .q (.mv (.c (.int .i64 1)))⟩] [] [0, 3, 4, 5] [200000]) (.block 2 (.loop B76_1))) R76_1)) .skip)))
 (.reg [⟨some 14, none, .q (.mv (.t 3))⟩, ⟨some 15, none, .q (.bin .add (.t 14) (.c (.int .i64 1)))⟩, ⟨some 3, none, .q (.mv (.t 15))⟩] [] [0, 3] [200000])))
def R76_0 : MC := (.seq (.reg [⟨some 60, none, .q (.mv (.t 0))⟩, ⟨some 2, none, .q (.mv (.t 60))⟩] [] [2] [200000]) .ret)
def M76 : MC := (.seq (.reg [⟨some 2, none, .q (.mv .nil)⟩] [] [0] [200000]) (.seq (.seq (.reg [⟨some 6, none, .q (.mv (.t 0))⟩, ⟨some 7, none, .q (.len (.t 6) false)⟩, ⟨some 8, none,
 .q (.bin .lss (.t 7) (.c (.int .i64 2)))⟩] [] [0, 8] [200000]) (.cond (.t 8) (.seq (.reg [⟨some 9, none, .q (.mv (.t 0))⟩, ⟨some 2, none, .q (.mv (.t 9))⟩] [] [2] [200000]) .ret) .skip))
 (.seq (.seq (.reg [⟨some 3, none, .q (.mv (.c (.int .i64 1)))⟩] [] [0, 3] [200000]) (.block 0 (.loop B76_0))) R76_0)))
theorem mc76 : ofCode Tryz.prog [] Tryz.f76.ntmps [(0, ⟨[0], [200000], [], 0, [], none⟩),
  (1, ⟨[0, 8], [200000], [], 0, [], none⟩),
  (2, ⟨[2], [200000], [], 0, [], none⟩),
  (3, ⟨[0, 3], [200000], [], 0, [], none⟩),
  (4, ⟨[0, 3, 13], [200000], [], 0, [], none⟩),
  (5, ⟨[0, 3], [200000], [], 0, [], none⟩),
  (6, ⟨[0, 3, 25], [200000], [(0, 525), (1, 526), (2, 524), (3, 520), (4, 912), (5, 992), (6, 960), (7, 896), (8, 768), (9, 512)], 1023, [], none⟩),
  (7, ⟨[0, 3, 4], [200000], [], 0, [], none⟩),
  (8, ⟨[0, 3, 4, 5], [200000], [], 0, [], none⟩),
  (9, ⟨[0, 3, 4, 5, 32], [200000], [], 0, [], none⟩),
  (10, ⟨[0, 3, 4, 5], [200000], [], 0, [], none⟩),
  (11, ⟨[0, 3, 4, 5, 44], [200000], [(0, 525), (1, 526), (2, 524), (3, 520), (4, 912), (5, 992), (6, 960), (7, 896), (8, 768), (9, 512)], 1023, [], none⟩),
  (12, ⟨[0, 3, 4, 5], [200000], [], 0, [], none⟩),
  (13, ⟨[0, 3, 4, 5], [200000], [], 0, [], none⟩),
  (14, ⟨[0, 3], [200000], [], 0, [], none⟩),
  (15, ⟨[2], [200000], [], 0, [], none⟩),
  (16, ⟨[2], [200000], [], 0, [], none⟩)] (Tryz.f76.body.getD .skip) = some M76 := by kernel_rfl
theorem RunS76 {args : List AV} {st st' : List (Nat × Row)} {v : AV} (h : args.length ≤ 61) (hk : (st'.map (·.1)).Nodup) (hv : run Tryz.prog (retS [RV.tmp 2] v st') M76 [] ⟨entryA 0 args, st⟩) : FnS Tryz.prog 76 args st v st' :=
 FnS_run (by kernel_rfl) Tryz.func76 (by decide) rfl mc76 (by kernel_rfl) (by rw [Tryz.ntmps76]; exact h) (by rw [Tryz.ntmps76]; decide) hk hv
def B40_1 : MC := (.seq (.reg [⟨some 18, none, .q (.bin .lss (.t 17) (.t 16))⟩] [] [3, 8, 9, 10, 15, 16, 17, 18] [30, 1015, 1034, 1036, 2003]) (.seq (.cond (.t 18) .skip (.exit 2))
 (.seq (.block 3 (.seq (.reg [⟨some 19, none, .q (.ia (.t 15) (.t 17) 1)⟩, ⟨some 20, none, .q (.ld (.t 19) 1 false)⟩, ⟨some 7, none, .q (.mv (.t 20))⟩] [] [3, 7, 8, 9, 10, 15, 16,
 17] [30, 1015, 1034, 1036, 2003]) (.seq (.reg [⟨some 21, none, .q (.mv (.t 7))⟩, ⟨some 22, none, .q (.bin .neq (.t 21) (.c (.string ⟨#[42]⟩)))⟩, ⟨some 23, none, .q (.mv (.t 22))⟩,
 ⟨some 24, some (23, true), .q (.mv (.t 7))⟩, ⟨some 25, some (23, true), .q (.bin .neq (.t 24) (.c (.string ⟨#[42, 42]⟩)))⟩, ⟨some 26, none, .q (.pick (.t 23) (.t 25)
 (.c (.bool false)))⟩] [] [3, 7, 8, 9, 10, 15, 16, 17, 26] [30, 1015, 1034, 1036, 2003]) (.cond (.t 26) (.reg [⟨some 27, none, .q (.mv (.t 3))⟩, ⟨some 28, none, .q (.mv (.t 7))⟩, ⟨some 29,
 none, .lits [.t 28] 1⟩, ⟨some 30, none, .app (.t 27) (.t 29) 1 16⟩, ⟨some 3, none, .q (.mv (.t 30))⟩] [] [3, 8, 9, 10, 15, 16, 17] [30, 1015, 1034, 1036, 2003]) .skip))))
 (.reg [⟨some 31, none, .q (.bin .add (.t 17) (.c (.int .i64 1)))⟩, ⟨some 17, none, .q (.mv (.t 31))⟩] [] [3, 8, 9, 10, 15, 16, 17] [30, 1015, 1034, 1036, 2003]))))
def B40_0 : MC := (.seq (.reg [⟨some 11, none, .q (.bin .lss (.t 10) (.t 9))⟩] [] [3, 8, 9, 10, 11] [30, 1034, 1036, 2003]) (.seq (.cond (.t 11) .skip (.exit 0))
 (.seq (.block 1 (.seq (.reg [⟨some 12, none, .q (.ia (.t 8) (.t 10) 1)⟩, ⟨some 13, none, .q (.ld (.t 12) 1 false)⟩, ⟨some 5, none, .q (.mv (.t 13))⟩] [] [3, 5, 8, 9, 10] [30, 1034, 1036,
 2003]) (.seq (.reg [⟨some 14, none, .q (.mv (.t 5))⟩, ⟨some 15, none, .call (.f 41) [.t 14]⟩, ⟨some 16, none, .q (.len (.t 15) false)⟩, ⟨some 17, none,
 .q (.mv (.c (.int .i64 0)))⟩] [] [3, 8, 9, 10, 15, 16, 17] [30, 1015, 1034, 1036, 2003]) (.block 2 (.loop B40_1))))) (.reg [⟨some 32, none, .q (.bin .add (.t 10) (.c (.int .i64 1)))⟩,
 ⟨some 10, none, .q (.mv (.t 32))⟩] [] [3, 8, 9, 10] [30, 1034, 1036, 2003]))))
def R40_0 : MC := (.seq (.reg [⟨some 33, none, .q (.mv (.t 3))⟩, ⟨some 34, none, .calls (.f 75) [.t 33]⟩] [] [3] [30, 1034, 1036, 2003]) (.seq (.reg [⟨some 35, none, .q (.mv (.t 3))⟩,
 ⟨some 36, none, .calls (.f 76) [.t 35]⟩, ⟨some 2, none, .q (.mv (.t 36))⟩] [(2003, 2003, 0)] [2] [30, 1034, 1036]) .ret))
def M40 : MC := (.seq (.reg [⟨some 2, none, .q (.mv .nil)⟩] [] [0] []) (.seq (.reg [⟨some 3, none, .q (.mv .nil)⟩] [(3, 2003, 1)] [0, 3] [30, 1034, 1036, 2003]) (.seq (.seq (.reg [⟨some 8,
 none, .q (.mv (.t 0))⟩, ⟨some 9, none, .q (.len (.t 8) false)⟩, ⟨some 10, none, .q (.mv (.c (.int .i64 0)))⟩] [] [3, 8, 9, 10] [30, 1034, 1036, 2003]) (.block 0 (.loop B40_0))) R40_0)))
theorem mc40 : ofCode Tryz.prog [34, 36] Tryz.f40.ntmps [(0, ⟨[0], [], [], 0, [], none⟩),
  (1, ⟨[0, 3], [30, 1034, 1036, 2003], [], 0, [(3, 2003, 1)], none⟩),
  (2, ⟨[3, 8, 9, 10], [30, 1034, 1036, 2003], [], 0, [], none⟩),
  (3, ⟨[3, 8, 9, 10, 11], [30, 1034, 1036, 2003], [], 0, [], none⟩),
  (4, ⟨[3, 5, 8, 9, 10], [30, 1034, 1036, 2003], [], 0, [], none⟩),
  (5, ⟨[3, 8, 9, 10, 15, 16, 17], [30, 1015, 1034, 1036, 2003], [], 0, [], none⟩),
  (6, ⟨[3, 8, 9, 10, 15, 16, 17, 18], [30, 1015, 1034, 1036, 2003], [], 0, [], none⟩),
  (7, ⟨[3, 7, 8, 9, 10, 15, 16, 17], [30, 1015, 1034, 1036, 2003], [], 0, [], none⟩),
  (8, ⟨[3, 7, 8, 9, 10, 15, 16, 17, 26], [30, 1015, 1034, 1036, 2003], [], 0, [], none⟩),
  (9, ⟨[3, 8, 9, 10, 15, 16, 17], [30, 1015, 1034, 1036, 2003], [], 0, [], none⟩),
  (10, ⟨[3, 8, 9, 10, 15, 16, 17], [30, 1015, 1034, 1036, 2003], [], 0, [], none⟩),
  (11, ⟨[3, 8, 9, 10], [30, 1034, 1036, 2003], [], 0, [], none⟩),
  (12, ⟨[3], [30, 1034, 1036, 2003], [], 0, [], none⟩),
  (13, ⟨[2], [30, 1034, 1036], [], 0, [(2003, 2003, 0)], none⟩)] (Tryz.f40.body.getD .skip) = some M40 := by kernel_rfl
theorem Run40 {args : List PV} {v : AV} {rs : List (Nat × List PV)} (ids : List Bool) (h : args.length ≤ 37) (hv : run Tryz.prog (retK [RV.tmp 2] ids v rs) M40 [] ⟨entry 0 args, []⟩) : Fn Tryz.prog 40 args v rs :=
 Fn_run ids (by kernel_rfl) Tryz.func40 (by decide) rfl mc40 (by kernel_rfl) (by rw [Tryz.ntmps40]; exact h) (by rw [Tryz.ntmps40]; decide) hv
end Go.Vc

namespace Go.Vc
open Go.Proofs Go.Shelf Go.RowKit Go.Sort
set_option linter.unusedSimpArgs false
set_option linter.unusedVariables false
def ren189 : Ren := ⟨fun n => if n = 189 then 80 else if n = 125 then 105 else if n = 257 then 106 else if n = 128 then 127 else if n = 129 then 128 else if n = 294 then 129 else if n = 295 then 130 else if n = 296 then 131 else if n = 297 then 132 else if n = 298 then 133 else if n = 299 then 134 else if n = 216 then 135 else if n = 300 then 136 else if n = 301 then 137 else if n = 328 then 156 else if n = 329 then 152 else if n = 330 then 153 else if n = 331 then 157 else if n = 332 then 158 else if n = 215 then 159 else if n = 343 then 175 else n,
 fun t => if t = 28 then 31 else if t = 46 then 130 else if t = 51 then 161 else if t = 53 then 56 else if t = 183 then 155 else if t = 182 then 154 else if t = 131 then 87 else if t = 218 then 178 else if t = 222 then 182 else if t = 228 then 195 else if t = 229 then 196 else t,
 fun g => g⟩
def ren190 : Ren := ⟨fun n => if n = 190 then 75 else if n = 125 then 105 else if n = 258 then 104 else if n = 128 then 127 else if n = 129 then 128 else if n = 302 then 119 else if n = 303 then 120 else if n = 304 then 121 else if n = 305 then 122 else if n = 306 then 123 else if n = 307 then 124 else if n = 308 then 108 else if n = 309 then 125 else if n = 310 then 126 else if n = 333 then 151 else if n = 329 then 152 else if n = 330 then 153 else if n = 334 then 154 else if n = 335 then 155 else if n = 336 then 139 else if n = 344 then 174 else n,
 fun t => if t = 31 then 22 else if t = 46 then 130 else if t = 51 then 161 else if t = 53 then 56 else if t = 183 then 155 else if t = 182 then 154 else if t = 131 then 87 else if t = 218 then 178 else if t = 222 then 182 else if t = 228 then 195 else if t = 229 then 196 else t,
 fun g => g⟩
theorem lays189 : Lays.n189 Tryz.prog ren189 where
 mixed := by kernel_rfl
 f125 := by kernel_rfl
 f128 := by kernel_rfl
 f129 := by kernel_rfl
 f189 := by kernel_rfl
 f215 := by kernel_rfl
 f216 := by kernel_rfl
 f257 := by kernel_rfl
 f294 := by kernel_rfl
 f295 := by kernel_rfl
 f296 := by kernel_rfl
 f297 := by kernel_rfl
 f298 := by kernel_rfl
 f299 := by kernel_rfl
 f300 := by kernel_rfl
 f301 := by kernel_rfl
 f328 := by kernel_rfl
 f329 := by kernel_rfl
 f330 := by kernel_rfl
 f331 := by kernel_rfl
 f332 := by kernel_rfl
 f343 := by kernel_rfl
 t0 := by kernel_rfl
 a0 := fun w => by kernel_rfl
 z0 := fun w => by kernel_rfl
 v0 := fun w => by kernel_rfl
 t3 := by kernel_rfl
 a3 := fun w => by kernel_rfl
 z3 := fun w => by kernel_rfl
 v3 := fun w => by kernel_rfl
 t4 := by kernel_rfl
 a4 := fun w => by kernel_rfl
 z4 := fun w => by kernel_rfl
 v4 := fun w => by kernel_rfl
 t5 := by kernel_rfl
 a5 := fun w => by kernel_rfl
 z5 := fun w => by kernel_rfl
 v5 := fun w => by kernel_rfl
 t9 := by kernel_rfl
 a9 := fun w => by kernel_rfl
 z9 := fun w => by kernel_rfl
 v9 := fun w => by kernel_rfl
 t28 := by kernel_rfl
 a28 := fun w => by kernel_rfl
 z28 := fun w => by kernel_rfl
 v28 := fun w => by kernel_rfl
 t46 := by kernel_rfl
 a46 := fun w => by kernel_rfl
 z46 := fun w => by kernel_rfl
 v46 := fun w => by kernel_rfl
 t51 := by kernel_rfl
 a51 := fun w => by kernel_rfl
 z51 := fun w => by kernel_rfl
 v51 := fun w => by kernel_rfl
 t53 := by kernel_rfl
 a53 := fun w => by kernel_rfl
 z53 := fun w => by kernel_rfl
 v53 := fun w => by kernel_rfl
 t131 := by kernel_rfl
 a131 := fun w => by kernel_rfl
 z131 := fun w => by kernel_rfl
 v131 := fun w => by kernel_rfl
 t182 := by kernel_rfl
 a182 := fun w => by kernel_rfl
 z182 := fun w => by kernel_rfl
 v182 := fun w => by kernel_rfl
 t183 := by kernel_rfl
 a183 := fun w => by kernel_rfl
 z183 := fun w => by kernel_rfl
 v183 := fun w => by kernel_rfl
 t218 := by kernel_rfl
 a218 := fun w => by kernel_rfl
 z218 := fun w => by kernel_rfl
 v218 := fun w => by kernel_rfl
 t222 := by kernel_rfl
 a222 := fun w => by kernel_rfl
 z222 := fun w => by kernel_rfl
 v222 := fun w => by kernel_rfl
 t228 := by kernel_rfl
 a228 := fun w => by kernel_rfl
 z228 := fun w => by kernel_rfl
 v228 := fun w => by kernel_rfl
 t229 := by kernel_rfl
 a229 := fun w => by kernel_rfl
 z229 := fun w => by kernel_rfl
 v229 := fun w => by kernel_rfl
theorem lays190 : Lays.n190 Tryz.prog ren190 where
 mixed := by kernel_rfl
 f125 := by kernel_rfl
 f128 := by kernel_rfl
 f129 := by kernel_rfl
 f190 := by kernel_rfl
 f258 := by kernel_rfl
 f302 := by kernel_rfl
 f303 := by kernel_rfl
 f304 := by kernel_rfl
 f305 := by kernel_rfl
 f306 := by kernel_rfl
 f307 := by kernel_rfl
 f308 := by kernel_rfl
 f309 := by kernel_rfl
 f310 := by kernel_rfl
 f329 := by kernel_rfl
 f330 := by kernel_rfl
 f333 := by kernel_rfl
 f334 := by kernel_rfl
 f335 := by kernel_rfl
 f336 := by kernel_rfl
 f344 := by kernel_rfl
 t0 := by kernel_rfl
 a0 := fun w => by kernel_rfl
 z0 := fun w => by kernel_rfl
 v0 := fun w => by kernel_rfl
 t3 := by kernel_rfl
 a3 := fun w => by kernel_rfl
 z3 := fun w => by kernel_rfl
 v3 := fun w => by kernel_rfl
 t4 := by kernel_rfl
 a4 := fun w => by kernel_rfl
 z4 := fun w => by kernel_rfl
 v4 := fun w => by kernel_rfl
 t5 := by kernel_rfl
 a5 := fun w => by kernel_rfl
 z5 := fun w => by kernel_rfl
 v5 := fun w => by kernel_rfl
 t9 := by kernel_rfl
 a9 := fun w => by kernel_rfl
 z9 := fun w => by kernel_rfl
 v9 := fun w => by kernel_rfl
 t31 := by kernel_rfl
 a31 := fun w => by kernel_rfl
 z31 := fun w => by kernel_rfl
 v31 := fun w => by kernel_rfl
 t46 := by kernel_rfl
 a46 := fun w => by kernel_rfl
 z46 := fun w => by kernel_rfl
 v46 := fun w => by kernel_rfl
 t51 := by kernel_rfl
 a51 := fun w => by kernel_rfl
 z51 := fun w => by kernel_rfl
 v51 := fun w => by kernel_rfl
 t53 := by kernel_rfl
 a53 := fun w => by kernel_rfl
 z53 := fun w => by kernel_rfl
 v53 := fun w => by kernel_rfl
 t131 := by kernel_rfl
 a131 := fun w => by kernel_rfl
 z131 := fun w => by kernel_rfl
 v131 := fun w => by kernel_rfl
 t182 := by kernel_rfl
 a182 := fun w => by kernel_rfl
 z182 := fun w => by kernel_rfl
 v182 := fun w => by kernel_rfl
 t183 := by kernel_rfl
 a183 := fun w => by kernel_rfl
 z183 := fun w => by kernel_rfl
 v183 := fun w => by kernel_rfl
 t218 := by kernel_rfl
 a218 := fun w => by kernel_rfl
 z218 := fun w => by kernel_rfl
 v218 := fun w => by kernel_rfl
 t222 := by kernel_rfl
 a222 := fun w => by kernel_rfl
 z222 := fun w => by kernel_rfl
 v222 := fun w => by kernel_rfl
 t228 := by kernel_rfl
 a228 := fun w => by kernel_rfl
 z228 := fun w => by kernel_rfl
 v228 := fun w => by kernel_rfl
 t229 := by kernel_rfl
 a229 := fun w => by kernel_rfl
 z229 := fun w => by kernel_rfl
 v229 := fun w => by kernel_rfl
def srtI (l : List Int) : List Int := l.mergeSort fun a b => decide (a ≤ b)
theorem fnS80 (d : List Int) (hd : d.length < 1000000) (nm : Nat) : FnS Tryz.prog 80 [.row nm 0 d.length] [(nm, .sl 1 (d.map fun n => pI n))] (.tup []) [(nm, .sl 1 ((srtI d).map fun n => pI n))] :=
 fnS_sort1 (pv := fun n => pI n) (enc := Value.int .i64) (enters_of (fn := Tryz.f80) Tryz.func80 (by decide) rfl) (fun _ => rfl) (fun _ => rfl) srtI (fun d => by simp [srtI]) (by simp [srtI])
  (fun blk off cap zs w h1 h2 h3 => Any.slices_Sort_int lays189 blk off cap zs w h1 h2 h3) (fun p cap w => Any.slices_Sort_int_none lays189 p cap w) d hd nm
theorem map_srt (l : List ByteArray) : l.map pS = (l.map octs).map (fun x => PV.sc (encStr x)) := by
 rw [List.map_map]; rfl
theorem fnS75 (d : List ByteArray) (hd : d.length < 1000000) (nm : Nat) : FnS Tryz.prog 75 [.row nm 0 d.length] [(nm, .sl 1 (d.map pS))] (.tup []) [(nm, .sl 1 ((srtB d).map pS))] := by
 have := fnS_sort1 (P := Tryz.prog) (f := 75) (pv := fun x => PV.sc (encStr x)) (enc := encStr) (enters_of (fn := Tryz.f75) Tryz.func75 (by decide) rfl) (fun _ => rfl) (fun _ => rfl) srtL (fun d => by simp [srtL]) (by simp [srtL])
  (fun blk off cap zs w h1 h2 h3 => Any.slices_Sort_string lays190 blk off cap zs w h1 h2 h3) (fun p cap w => Any.slices_Sort_string_none lays190 p cap w) (d.map octs) (by simpa using hd) nm
 rw [List.length_map, ← map_srt] at this
 rw [show (srtB d).map pS = (srtL (d.map octs)).map (fun x => PV.sc (encStr x)) from by
  unfold srtB
  rw [List.map_map]; rfl]
 exact this
abbrev enN (k : Nat) : PV × PV := (pI (k : Int), .agg [])
theorem pick_perm {met got : List Nat} (h : got.Perm (List.range met.length)) : (got.map fun i => met.getD i 0).Perm met := by
 refine (h.map _).trans ?_
 rw [show (List.range met.length).map (fun i => met.getD i 0) = met from ?_]
 refine List.ext_getElem (by simp) fun i h1 h2 => ?_
 simp [List.getD_eq_getElem?_getD, h2]
theorem enN_get {met : List Nat} {i : Nat} (h : i < met.length) : (met.map enN).getD i default = enN (met.getD i 0) := by
 simp [List.getD_eq_getElem?_getD, h]
theorem fnS69 (met l : List Nat) (hm : met.Nodup) (hl : l.Pairwise (· < ·)) (hml : ∀ y, y ∈ met ↔ y ∈ l) (hlen : met.length ≤ 1000) :
  FnS Tryz.prog 69 [.mp 200000] [(200000, .mp (met.map enN))] (.pv (pNs l)) [(200000, .mp (met.map enN))] := by
 refine RunS69 (by simp) (by simp) ?_
 simp only [go_sem, Nat.reduceEqDiff, Nat.reduceBEq, reduceCtorEq, Int.reduceToNat, Int.reduceLE, and_self, Int.cast_ofNat_Int, M69]
 refine ⟨⟨by omega, by omega⟩, by decide, ?_⟩
 refine run_loop (T := List Nat × Option Nat × List Nat) (fun t => ⟨[(3, .row 7 0 t.2.2.length), (9, .it 9)], [(7, .sl 1 ((toI (t.2.2.map fun i => met.getD i 0)).map fun n => pI n)), (9, .mit 200000 met.length t.1 t.2.1), (200000, .mp (met.map enN))]⟩)
  (fun t => (t.2.2 ++ t.1).Perm (List.range met.length)) (fun t => t.1.length) ⟨List.range met.length, none, []⟩ ?_ ?_ ?_
 ·rfl
 ·simp
 rintro ⟨rem, cur, got⟩ hp
 simp only at hp
 have hgl : got.length + rem.length = met.length := by
  have := hp.length_eq
  simpa using this
 simp only [go_sem, Nat.reduceEqDiff, Nat.reduceBEq, Nat.reduceAdd, Nat.reduceLeDiff, Nat.reduceLT, and_self, B69_0, R69_0]
 refine ⟨fun h => ?_, fun i hi => ?_⟩
 ·subst h
  rw [List.append_nil] at hp
  have hpp := pick_perm hp
  have hS := fnS80 (toI (got.map fun i => met.getD i 0)) (by simp [toI]; simp at hgl; omega) 200001
  rw [show (toI (got.map fun i => met.getD i 0)).length = got.length by simp [toI]] at hS
  have hsr : srtI (toI (got.map fun i => met.getD i 0)) = toI l := sort_ris (hpp.nodup_iff.2 hm) hl fun y => (hpp.mem_iff).trans (hml y)
  rw [hsr] at hS
  have hll : l.length = got.length := by
   have h1 := ((List.perm_ext_iff_of_nodup hm (hl.imp fun hab => Nat.ne_of_lt hab)).2 hml).length_eq
   simp at hgl
   omega
  have tk : ((toI l).map fun n => pI n).take got.length = (toI l).map fun n => pI n := List.take_of_length_le (by simp [toI, hll])
  refine runR_calls (fun n => if n = 200001 then 7 else n) (by simp only [go_sem, Nat.reduceEqDiff, and_self]) (by simp only [go_sem, Nat.reduceEqDiff] <;> rfl) hS rfl (by intro e he; simp only [List.mem_cons, List.not_mem_nil, or_false] at he; rcases he with rfl <;> simp only [go_sem]) (by simp) (by simp) (by simp) (by intro e he h9; simp only [List.mem_cons, List.not_mem_nil, or_false] at he; rcases he with rfl <;> simp) ?_
  simp only [go_sem, Nat.reduceEqDiff, Nat.reduceBEq, Nat.reduceLT, and_self, tk]
 ·have hin : i < met.length := by
   have := hp.mem_iff.1 (List.mem_append_right got hi)
   simpa using this
  rw [enN_get hin]
  have hre := List.length_erase_of_mem hi
  have hpos := List.length_pos_of_mem hi
  have tk : ((toI (got.map fun i => met.getD i 0)).map fun n => pI n).take got.length = (toI (got.map fun i => met.getD i 0)).map fun n => pI n := List.take_of_length_le (by simp [toI])
  refine ⟨⟨rfl, rfl⟩, ⟨wf_ints [((met.getD i 0 : Nat) : Int)], by omega, by omega⟩, ⟨rem.erase i, some i, got ++ [i]⟩, ?_, ?_, by simp only; omega⟩
  ·rw [tk, List.map_append, toI_app, List.map_append, List.length_append]; rfl
  ·simp only
   refine List.Perm.trans ?_ hp
   rw [List.append_assoc]
   exact List.Perm.append_left _ (List.perm_cons_erase hi).symm
end Go.Vc

namespace Go.Vc
open Go.Proofs
set_option linter.unusedSimpArgs false
set_option linter.unusedVariables false
theorem keepB_not {d : List ByteArray} {j : Nat} (h : 1 ≤ j) : keepB d j = false ↔ d.getD j ⟨#[]⟩ = d.getD (j - 1) ⟨#[]⟩ := by
 simp [keepB]; omega
theorem keepB_yes {d : List ByteArray} {j : Nat} (h : 1 ≤ j) : keepB d j = true ↔ d.getD j ⟨#[]⟩ ≠ d.getD (j - 1) ⟨#[]⟩ := by
 simp [keepB]; omega
abbrev compR (d : List ByteArray) : List PV := (cupB d d.length).map pS ++ List.replicate (d.length - (cupB d d.length).length) (pS ⟨#[]⟩)
theorem fnS76 (d : List ByteArray) (hd : d.length ≤ 100000) :
  FnS Tryz.prog 76 [.row 200000 0 d.length] [(200000, .sl 1 (d.map pS))] (.row 200000 0 (cupB d d.length).length) [(200000, .sl 1 (compR d))] := by
 have all : (∀ j, j < d.length → keepB d j = true) → (cupB d d.length).length = d.length ∧ compR d = d.map pS := fun h => by
  have e := cupB_all d.length (Nat.le_refl _) h
  rw [List.take_length] at e
  unfold compR
  rw [e]
  exact ⟨rfl, by simp⟩
 refine RunS76 (by simp) (by simp) ?_
 simp only [go_sem, Nat.reduceEqDiff, reduceCtorEq, and_self, M76]
 refine ⟨fun h => ?_, fun h => ?_⟩
 ·obtain ⟨e1, e2⟩ := all (fun j hj => by
   have : j = 0 := by omega
   subst this; rfl)
  rw [e1, e2]
  exact ⟨rfl, rfl⟩
 refine run_loop (T := Nat) (fun k => ⟨[(0, .row 200000 0 d.length), (3, .pv (pI k))], [(200000, .sl 1 (d.map pS))]⟩) (fun k => 1 ≤ k ∧ k ≤ d.length ∧ ∀ j, j < k → keepB d j = true) (fun k => d.length - k) 1 rfl ⟨by omega, by omega, fun j hj => by
  have : j = 0 := by omega
  subst this; rfl⟩ ?_
 rintro k ⟨h1, h2, h3⟩
 by_cases hlt : k < d.length
 ·have e1 : ((k : Int) - 1).toNat = k - 1 := by omega
  simp only [go_sem, Nat.reduceEqDiff, reduceCtorEq, Int.reduceNeg, and_self, B76_0, R76_0, show (k : Int) < (d.length : Int) by omega, getD_map hlt, e1, getD_map (show k - 1 < d.length by omega)]
  have gk : ∀ j (h : j < d.length), d.getD j ⟨#[]⟩ = d[j] := fun j h => by simp [List.getD_eq_getElem?_getD, h]
  refine ⟨hlt, ⟨by omega, by omega⟩, ⟨by omega, by omega⟩, by omega, fun heq => ⟨⟨by omega, by omega⟩, ?_⟩, fun hne => ⟨⟨by omega, by omega⟩, k + 1, rfl, ⟨by omega, by omega, fun j hj => ?_⟩, by omega⟩⟩
  ·have hkn : keepB d k = false := (keepB_not h1).2 (by rw [gk k hlt, gk (k - 1) (by omega)]; exact heq)
   have hck : cupB d (k + 1) = cupB d k := by rw [cupB_succ, hkn]; rfl
   have hcl : (cupB d k).length = k := by rw [cupB_all k h2 h3]; simp; omega
   refine run_loop (T := Nat × List ByteArray) (fun t => ⟨[(0, .row 200000 0 d.length), (3, .pv (pI (cupB d (k + t.1)).length)), (4, .row 200000 k (d.length - k)), (5, .pv (pI t.1))], [(200000, .sl 1 (t.2.map pS))]⟩)
    (fun t => 1 ≤ t.1 ∧ k + t.1 ≤ d.length ∧ t.2.length = d.length ∧ (cupB d (k + t.1)).length < k + t.1 ∧ t.2.take (cupB d (k + t.1)).length = cupB d (k + t.1) ∧ ∀ j, k + t.1 ≤ j + 1 → t.2.getD j ⟨#[]⟩ = d.getD j ⟨#[]⟩)
    (fun t => d.length - t.1) (1, d) (by simp only; rw [hck, hcl]; rfl) ⟨by simp, by simp only; omega, rfl, by simp only; rw [hck, hcl]; omega, by simp only; rw [hck, hcl]; exact (cupB_all k h2 h3).symm, fun _ _ => rfl⟩ ?_
   rintro ⟨q, L⟩ ⟨q1, q2, q3, q4, q5, q6⟩
   simp only at q1 q2 q3 q4 q5 q6
   have gl : ∀ j (h : j < L.length), L.getD j ⟨#[]⟩ = L[j] := fun j h => by simp [List.getD_eq_getElem?_getD, h]
   by_cases hql : k + q < d.length
   ·have e3 : ((q : Int) - 1).toNat = q - 1 := by omega
    have hcL : (cupB d (k + q)).length < L.length := by omega
    have hj1 : L[k + q]'(by omega) = d[k + q] := by rw [← gl, ← gk]; exact q6 _ (by omega)
    have hj0 : L[k + (q - 1)]'(by omega) = d[k + (q - 1)]'(by omega) := by rw [← gl, ← gk]; exact q6 _ (by omega)
    have hsc := cupB_succ d (k + q)
    simp only [go_sem, Nat.reduceEqDiff, Nat.reduceLT, reduceCtorEq, Int.reduceNeg, and_self, B76_1, show (q : Int) < ((d.length - k : Nat) : Int) by omega, q3, e3, getD_map (show k + q < L.length by omega), getD_map (show k + (q - 1) < L.length by omega), getD_map hcL]
    refine ⟨hql, ⟨by omega, by omega⟩, ⟨by omega, by omega⟩, by omega, fun hne => ⟨hql, by omega, by omega, ⟨by omega, by omega⟩, ⟨by omega, by omega⟩, ⟨q + 1, L.set (cupB d (k + q)).length (L[k + q]'(by omega))⟩, ?_, ⟨by simp only; omega, by simp only; omega, by simp [q3], ?_, ?_, fun j hj => ?_⟩, by simp only; omega⟩, fun heq2 => ⟨⟨by omega, by omega⟩, ⟨q + 1, L⟩, ?_, ⟨by simp only; omega, by simp only; omega, q3, ?_, ?_, fun j hj => ?_⟩, by simp only; omega⟩⟩
    ·have hk : keepB d (k + q) = true := (keepB_yes (by omega)).2 (by rw [gk _ hql, show k + q - 1 = k + (q - 1) by omega, gk _ (by omega), ← hj1, ← hj0]; exact hne)
     rw [if_pos hk] at hsc
     simp only
     rw [show k + (q + 1) = k + q + 1 by omega, hsc, List.length_append, List.map_set]; rfl
    ·have hk : keepB d (k + q) = true := (keepB_yes (by omega)).2 (by rw [gk _ hql, show k + q - 1 = k + (q - 1) by omega, gk _ (by omega), ← hj1, ← hj0]; exact hne)
     rw [if_pos hk] at hsc
     simp only
     rw [show k + (q + 1) = k + q + 1 by omega, hsc, List.length_append, List.length_singleton]; omega
    ·have hk : keepB d (k + q) = true := (keepB_yes (by omega)).2 (by rw [gk _ hql, show k + q - 1 = k + (q - 1) by omega, gk _ (by omega), ← hj1, ← hj0]; exact hne)
     rw [if_pos hk] at hsc
     simp only
     rw [show k + (q + 1) = k + q + 1 by omega, hsc, List.length_append, List.length_singleton, List.take_succ_eq_append_getElem (by simp; omega), List.take_set_of_le (Nat.le_refl _), q5, List.getElem_set_self, gk _ hql, hj1]
    ·simp only at hj ⊢
     rw [← q6 j (by omega), List.getD_eq_getElem?_getD, List.getElem?_set_ne (by omega), ← List.getD_eq_getElem?_getD]
    ·have hk : keepB d (k + q) = false := (keepB_not (by omega)).2 (by rw [gk _ hql, show k + q - 1 = k + (q - 1) by omega, gk _ (by omega), ← hj1, ← hj0]; exact heq2)
     rw [hk] at hsc
     simp only [Bool.false_eq_true, if_false] at hsc
     simp only
     rw [show k + (q + 1) = k + q + 1 by omega, hsc]; rfl
    ·have hk : keepB d (k + q) = false := (keepB_not (by omega)).2 (by rw [gk _ hql, show k + q - 1 = k + (q - 1) by omega, gk _ (by omega), ← hj1, ← hj0]; exact heq2)
     rw [hk] at hsc
     simp only [Bool.false_eq_true, if_false] at hsc
     simp only
     rw [show k + (q + 1) = k + q + 1 by omega, hsc]; omega
    ·have hk : keepB d (k + q) = false := (keepB_not (by omega)).2 (by rw [gk _ hql, show k + q - 1 = k + (q - 1) by omega, gk _ (by omega), ← hj1, ← hj0]; exact heq2)
     rw [hk] at hsc
     simp only [Bool.false_eq_true, if_false] at hsc
     simp only
     rw [show k + (q + 1) = k + q + 1 by omega, hsc]; exact q5
    ·simp only at hj ⊢
     exact q6 j (by omega)
   ·have hkq : k + q = d.length := by omega
    rw [hkq] at q4 q5
    simp only [go_sem, Nat.reduceEqDiff, Nat.reduceLT, reduceCtorEq, Int.reduceToNat, Int.reduceLE, Int.reduceNeg, and_self, B76_1, R76_1, show ¬ (q : Int) < ((d.length - k : Nat) : Int) by omega, q3, hkq]
    refine ⟨⟨by omega, by omega⟩, by omega, by omega, by omega, rfl, ?_⟩
    have e : (L.map pS).take (cupB d d.length).length = (cupB d d.length).map pS := by rw [← List.map_take, q5]
    unfold laidAt compR
    rw [e, List.drop_of_length_le (by simp; omega), List.append_nil]
  ·by_cases hj2 : j < k
   ·exact h3 j hj2
   ·have : j = k := by omega
    subst this
    exact (keepB_yes h1).2 (by rw [gk j hlt, gk (j - 1) (by omega)]; exact hne)
 ·simp only [go_sem, Nat.reduceEqDiff, reduceCtorEq, Int.reduceNeg, and_self, B76_0, R76_0, show ¬ (k : Int) < (d.length : Int) by omega]
  obtain ⟨e1, e2⟩ := all (fun j hj => h3 j (by omega))
  rw [e1, e2]
  exact ⟨rfl, rfl⟩
end Go.Vc

namespace Go.Vc
open Go.Proofs
set_option linter.unusedSimpArgs false
set_option linter.unusedVariables false
theorem parts_le (s : ByteArray) (hs : s.size ≤ 1000) : (partsB s).length ≤ 1001 := by
 unfold partsB
 split
 ·have l1 := cutS_count s
  have d1 := dots_le s
  omega
 ·simp
def sgK (bs : List ByteArray) (i : Nat) (k : Nat) : List ByteArray := ((bs.take i).map partsB).flatMap realB ++ realB ((partsB (bs.getD i ⟨#[]⟩)).take k)
theorem sgK_zero (bs : List ByteArray) (i : Nat) : sgK bs i 0 = ((bs.take i).map partsB).flatMap realB := by simp [sgK, realB]
theorem sgK_succ {bs : List ByteArray} {i k : Nat} {ps : List ByteArray} (he : partsB (bs.getD i ⟨#[]⟩) = ps) (h : k < ps.length) : sgK bs i (k + 1) = sgK bs i k ++ (if ps[k] ≠ sAny ∧ ps[k] ≠ sAll then [ps[k]] else []) := by
 unfold sgK
 rw [he, realK_succ h, List.append_assoc]
theorem sgK_end {bs : List ByteArray} {i : Nat} (h : i < bs.length) : sgK bs i (partsB (bs.getD i ⟨#[]⟩)).length = sgK bs (i + 1) 0 := by
 rw [sgK_zero]
 unfold sgK
 rw [List.take_length, List.take_succ_eq_append_getElem h, List.map_append, List.flatMap_append]
 simp [List.getD_eq_getElem?_getD, h]
theorem sgK_len {bs : List ByteArray} (hs : ∀ b ∈ bs, b.size ≤ 1000) : ∀ {i k : Nat}, i < bs.length → k ≤ (partsB (bs.getD i ⟨#[]⟩)).length → (sgK bs i k).length ≤ 1001 * i + k := by
 intro i k hi hk
 have h1 : ∀ j, j ≤ bs.length → (((bs.take j).map partsB).flatMap realB).length ≤ 1001 * j := by
  intro j
  induction j with
  | zero => intro _; simp
  | succ j ih =>
   intro hj
   rw [List.take_succ_eq_append_getElem (by omega), List.map_append, List.flatMap_append, List.length_append]
   have := ih (by omega)
   have h3 : (realB (partsB bs[j])).length ≤ (partsB bs[j]).length := List.length_filter_le _ _
   have h4 := parts_le bs[j] (hs _ (List.getElem_mem _))
   simp only [List.map_cons, List.map_nil, List.flatMap_cons, List.flatMap_nil, List.append_nil]
   omega
 unfold sgK
 rw [List.length_append]
 have := h1 i (by omega)
 have h3 : (realB ((partsB (bs.getD i ⟨#[]⟩)).take k)).length ≤ ((partsB (bs.getD i ⟨#[]⟩)).take k).length := List.length_filter_le _ _
 rw [List.length_take] at h3
 omega
theorem fn40 (bs : List ByteArray) (hb : bs.length ≤ 30) (hs : ∀ b ∈ bs, b.size ≤ 1000) : Fn Tryz.prog 40 [ss bs] (.pv (ss (signsOf (bs.map partsB)))) [] := by
 refine Run40 [] (by simp) ?_
 simp only [go_sem, Nat.reduceEqDiff, Nat.reduceLT, reduceCtorEq, and_self, M40]
 refine run_loop (T := Nat) (fun i => ⟨[(3, .row 2003 0 (sgK bs i 0).length), (8, .pv (ss bs)), (9, .pv (pI bs.length)), (10, .pv (pI i))], [(2003, .sl 1 ((sgK bs i 0).map pS))]⟩) (fun i => i ≤ bs.length) (fun i => bs.length - i) 0 (by simp [sgK_zero]) (Nat.zero_le _) ?_
 intro i hi
 by_cases hlt : i < bs.length
 ·simp only [go_sem, Nat.reduceEqDiff, and_self, B40_0, show (i : Int) < (bs.length : Int) by omega, wf_ss, getD_map hlt]
  refine runR_call (by simp only [go_sem, Nat.reduceEqDiff, and_self]) rfl (fn41 bs[i] (hs _ (List.getElem_mem hlt))) (.inl rfl) trivial ?_
  have hgi : bs.getD i ⟨#[]⟩ = bs[i] := by simp [List.getD_eq_getElem?_getD, hlt]
  obtain ⟨ps, hps⟩ : ∃ ps, ps = partsB bs[i] := ⟨_, rfl⟩
  have hpl := parts_le bs[i] (hs _ (List.getElem_mem hlt))
  rw [← hps] at hpl ⊢
  simp only [go_sem, Nat.reduceEqDiff, and_self]
  refine run_loop (T := Nat) (fun k => ⟨[(3, .row 2003 0 (sgK bs i k).length), (8, .pv (ss bs)), (9, .pv (pI bs.length)), (10, .pv (pI i)), (15, .pv (ss ps)), (16, .pv (pI ps.length)), (17, .pv (pI k))], [(2003, .sl 1 ((sgK bs i k).map pS))]⟩) (fun k => k ≤ ps.length) (fun k => ps.length - k) 0 rfl (Nat.zero_le _) ?_
  intro k hk
  have hkl := sgK_len hs hlt (show k ≤ (partsB (bs.getD i ⟨#[]⟩)).length by rw [hgi, ← hps]; exact hk)
  have tk : ((sgK bs i k).map pS).take (sgK bs i k).length = (sgK bs i k).map pS := List.take_of_length_le (by simp)
  by_cases hkk : k < ps.length
  ·have hsc := sgK_succ (bs := bs) (i := i) (by rw [hgi, hps]) hkk
   by_cases h1 : ps[k] = sAny
   ·rw [if_neg (by simp [h1]), List.append_nil] at hsc
    simp only [go_sem, Nat.reduceEqDiff, Nat.reduceLeDiff, Nat.reduceLT, reduceCtorEq, Int.reduceNeg, and_self, B40_1, show (k : Int) < (ps.length : Int) by omega, wf_ss, getD_map hkk, h1]
    exact ⟨⟨by omega, by omega⟩, k + 1, by rw [hsc]; rfl, hkk, by omega⟩
   ·by_cases h2 : ps[k] = sAll
    ·rw [if_neg (by simp [h2]), List.append_nil] at hsc
     simp only [go_sem, Nat.reduceEqDiff, Nat.reduceLeDiff, Nat.reduceLT, reduceCtorEq, Int.reduceNeg, and_self, B40_1, show (k : Int) < (ps.length : Int) by omega, wf_ss, getD_map hkk, h2]
     exact ⟨⟨by omega, by omega⟩, k + 1, by rw [hsc]; rfl, hkk, by omega⟩
    ·rw [if_pos ⟨h1, h2⟩] at hsc
     simp only [go_sem, Nat.reduceEqDiff, Nat.reduceLeDiff, Nat.reduceLT, reduceCtorEq, Int.reduceNeg, and_self, B40_1, show (k : Int) < (ps.length : Int) by omega, wf_ss, getD_map hkk, h1, h2, tk]
     exact ⟨⟨wf_ss [ps[k]], by omega, by omega⟩, ⟨by omega, by omega⟩, k + 1, by rw [hsc, List.map_append, List.length_append]; rfl, hkk, by omega⟩
  ·have hke : k = ps.length := by omega
   subst hke
   have he := sgK_end hlt
   rw [hgi, ← hps] at he
   simp only [go_sem, Nat.reduceEqDiff, Nat.reduceLeDiff, Nat.reduceLT, reduceCtorEq, Int.reduceNeg, and_self, B40_1, show ¬ (ps.length : Int) < (ps.length : Int) by omega]
   exact ⟨⟨by omega, by omega⟩, i + 1, by rw [he]; rfl, hlt, by omega⟩
 ·have hie : i = bs.length := by omega
  subst hie
  have hlen : (sgK bs bs.length 0).length ≤ 40000 := by
   rw [sgK_zero, List.take_length]
   by_cases h0 : bs.length = 0
   ·rw [List.eq_nil_of_length_eq_zero h0]; simp
   ·have h1 := sgK_len (bs := bs) hs (i := bs.length - 1) (k := (partsB (bs.getD (bs.length - 1) ⟨#[]⟩)).length) (by omega) (Nat.le_refl _)
    rw [sgK_end (by omega), show bs.length - 1 + 1 = bs.length by omega, sgK_zero, List.take_length] at h1
    have h2 := parts_le (bs.getD (bs.length - 1) ⟨#[]⟩) (by
     rw [show bs.getD (bs.length - 1) ⟨#[]⟩ = bs[bs.length - 1]'(by omega) by simp [List.getD_eq_getElem?_getD, show bs.length - 1 < bs.length by omega]]
     exact hs _ (List.getElem_mem _))
    omega
  have hfin : cupB (srtB (sgK bs bs.length 0)) (srtB (sgK bs bs.length 0)).length = signsOf (bs.map partsB) := by
   rw [srtB_len, cup_srt, sgK_zero, List.take_length]; rfl
  simp only [go_sem, Nat.reduceEqDiff, and_self, B40_0, R40_0, show ¬ (bs.length : Int) < (bs.length : Int) by omega]
  have hS := fnS75 (sgK bs bs.length 0) (by omega) 200001
  have hC := fnS76 (srtB (sgK bs bs.length 0)) (by rw [srtB_len]; omega)
  unfold compR at hC
  rw [hfin, srtB_len] at hC
  refine runR_calls (fun n => if n = 200001 then 2003 else n) (by simp only [go_sem, Nat.reduceEqDiff, and_self]) (by simp only [go_sem, Nat.reduceEqDiff] <;> rfl) hS rfl (by intro e he; simp only [List.mem_cons, List.not_mem_nil, or_false] at he; rcases he with rfl <;> simp only [go_sem]) (by simp) (by simp) (by simp) (by intro e he h9; simp only [List.mem_cons, List.not_mem_nil, or_false] at he; rcases he with rfl <;> simp) ?_
  simp only [go_sem, Nat.reduceEqDiff, Nat.reduceLT, and_self]
  refine runR_calls (fun n => if n = 200000 then 2003 else n) (by simp only [go_sem, Nat.reduceEqDiff, and_self]) (by simp only [go_sem, Nat.reduceEqDiff] <;> rfl) hC rfl (by intro e he; simp only [List.mem_cons, List.not_mem_nil, or_false] at he; rcases he with rfl <;> simp only [go_sem]) (by simp) (by simp) (by simp) (by intro e he h9; simp only [List.mem_cons, List.not_mem_nil, or_false] at he; rcases he with rfl <;> simp) ?_
  simp only [go_sem, Nat.reduceEqDiff, and_self]
  rw [List.take_left' (by simp)]
end Go.Vc
