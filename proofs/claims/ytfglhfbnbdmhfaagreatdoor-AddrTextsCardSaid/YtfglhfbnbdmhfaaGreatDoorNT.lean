/- The functions that the laws reach: how they are compiled and read. Definitions alone. -/
import Derived.Test.YtfglhfbnbdmhfaaGreatDoorTC
import Derived.Test.YtfglhfbnbdmhfaaGreatDoorProg
import Derived.KernelRfl
namespace Go.Proofs.YtfglhfbnbdmhfaaGreatDoor
open Go.VM
set_option maxRecDepth 100000
abbrev t0 : Ty := .pair (.int .u64) (.int .u64)
abbrev t1 : Ty := .st (.pair .bool t0)
abbrev t2 : Ty := .pair (.sl (.int .i64)) (.int .i64)
abbrev t3 : Ty := .pair (.int .u64) t0
abbrev t4 : Ty := .pair (.int .u64) t3
abbrev t5 : Ty := .pair (.int .u64) t4
abbrev t6 : Ty := .pair (.int .u64) t5
abbrev t7 : Ty := .pair (.int .u64) t6
abbrev t8 : Ty := .pair (.int .u64) t7
abbrev t9 : Ty := .st (.av .u8 24)
abbrev t10 : Ty := .st (.av .u8 65)
/- exchangepoint/exchangepointlaw01.AddrTexts -/
noncomputable def hh3 : Hints := ⟨[], [(6, .r 6), (12, .r 12), (60, .e []), (16, .r 16), (18, .r 18)], [], [23, 31, 33, 37, 39, 44, 46, 50, 54, 55, 64, 69, 81], [], []⟩
noncomputable def vf3 : VF := vfOf Tryz.prog hh3 [0, 1, 2, 3, 4, 6, 10, 11, 12, 13, 15, 16, 17, 18, 19, 22, 41, 56, 57, 58, 59, 79] [] Tryz.f3
noncomputable def fi3 : FI := ⟨[(0, .d .str), (1, .d t1), (2, .d (.sl (.int .i64))), (3, .d (.int .i64)), (4, .d (.int .i64)), (6, .reg t1), (10, .d .bool), (20, .d .str), (21, .d (.int .i64)), (22, .d .bool), (23, .d .bool), (24, .d (.sl (.int .i64))), (25, .ptr 100025 0), (100025, .box (.st t2)), (11, .ptr 100025 0), (26, .ptr 100025 0), (27, .d t1), (12, .reg t1), (28, .ptr 100025 0), (29, .d .str), (13, .d .str), (30, .d t1), (31, .d .str), (32, .d t1), (33, .d .str), (34, .d .bool), (35, .d .bool), (36, .d t1), (37, .d .str), (38, .d t1), (39, .d .str), (40, .d .bool), (41, .d .bool), (42, .d .str), (43, .d t1), (44, .d .str), (45, .d t1), (46, .d .str), (47, .d (.sl (.int .u8))), (48, .d (.int .i64)), (49, .d (.int .i64)), (50, .d (.sl (.int .u8))), (51, .d .str), (52, .d .str), (53, .d t1), (54, .d .str), (55, .d .str), (56, .d (.sl .str)), (57, .d (.int .i64)), (58, .d (.int .i64)), (59, .d .bool), (60, .ep .str 0 (some (56, none))), (61, .d .str), (15, .d .str), (63, .d .str), (64, .tup [t1, .int .i64]), (62, .tup [t1, .int .i64]), (65, .d t1), (66, .d (.int .i64)), (16, .reg t1), (17, .d (.int .i64)), (68, .d .str), (69, .tup [t1, .int .i64]), (67, .tup [t1, .int .i64]), (70, .d t1), (71, .d (.int .i64)), (18, .reg t1), (19, .d (.int .i64)), (72, .d t1), (73, .d t1), (74, .d .bool), (75, .d .bool), (76, .d (.int .i64)), (77, .d (.int .i64)), (78, .d .bool), (79, .d .bool), (80, .d (.int .i64)), (81, .d .bool)],
  [.n, .n, .j [], .l [56, 57, 58] none, .n, .n, .n]⟩
/- exchangepoint/exchangepointlaw01.awake -/
noncomputable def hh4 : Hints := ⟨[], [(1, .r 1), (3, .r 3)], [], [6, 10, 17, 26], [], []⟩
noncomputable def vf4 : VF := vfOf Tryz.prog hh4 [0, 1, 2, 4] [] Tryz.f4
noncomputable def fi4 : FI := ⟨[(0, .d .bool), (6, .tup [t1, .int .i64]), (5, .tup [t1, .int .i64]), (7, .d t1), (8, .d (.int .i64)), (1, .reg t1), (2, .d (.int .i64)), (10, .tup [t1, .int .i64]), (9, .tup [t1, .int .i64]), (11, .d t1), (12, .d (.int .i64)), (3, .reg t1), (4, .d (.int .i64)), (13, .d (.int .i64)), (14, .d .bool), (15, .d .bool), (16, .d t1), (17, .d .str), (18, .d .bool), (19, .d .bool), (20, .d .bool), (21, .d (.int .i64)), (22, .d .bool), (23, .d .bool), (24, .d .bool), (25, .d t1), (26, .d .str), (27, .d .bool), (28, .d .bool)],
  []⟩
/- exchangepoint/exchangepointmake.New -/
noncomputable def hh5 : Hints := ⟨[5], [], [], [], [], []⟩
noncomputable def vf5 : VF := vfOf Tryz.prog hh5 [0, 2] [] Tryz.f5
noncomputable def fi5 : FI := ⟨[(0, .d (.sl (.int .i64))), (3, .d (.sl (.int .i64))), (4, .d (.st t2)), (5, .ptr 100005 0), (100005, .box (.st t2)), (2, .ptr 100005 0)],
  []⟩
/- (*exchangepoint/exchangepointmake.Deck).Addr -/
noncomputable def hh6 : Hints := ⟨[], [(2, .r 2), (31, .e []), (39, .e []), (44, .e [])], [], [], [], []⟩
noncomputable def vf6 : VF := vfOf Tryz.prog hh6 [0, 2, 4, 5, 16, 26, 34, 47] [] Tryz.f6
noncomputable def fi6 : FI := ⟨[(0, .ptr 200000 0), (200000, .box (.st t2)), (2, .reg t1), (3, .ptr 200000 0), (4, .d (.int .i64)), (6, .d .bool), (5, .d .bool), (7, .ptr 200000 0), (8, .d (.int .i64)), (9, .d (.int .i64)), (10, .d (.int .i64)), (11, .ptr 200000 0), (12, .d (.int .i64)), (13, .d (.int .i64)), (14, .d (.int .u64)), (15, .d t1), (17, .d .bool), (16, .d .bool), (18, .ptr 200000 0), (19, .d (.int .i64)), (20, .d (.int .u64)), (21, .d (.int .u64)), (22, .ptr 200000 0), (23, .d (.int .i64)), (24, .d (.int .u64)), (25, .d t1), (27, .d .bool), (26, .d .bool), (28, .d (.sl (.int .u64))), (29, .ptr 200000 0), (30, .d (.int .i64)), (31, .ep (.int .u64) 0 (some (28, none))), (32, .d (.int .u64)), (33, .d t1), (35, .d .bool), (34, .d .bool), (36, .d (.sl (.int .u64))), (37, .ptr 200000 0), (38, .d (.int .i64)), (39, .ep (.int .u64) 0 (some (36, none))), (40, .d (.int .u64)), (41, .d (.sl (.int .u64))), (42, .ptr 200000 0), (43, .d (.int .i64)), (44, .ep (.int .u64) 0 (some (41, none))), (45, .d (.int .u64)), (46, .d t1), (48, .d .bool), (47, .d .bool), (49, .ptr 200000 0), (50, .d (.int .i64)), (51, .d (.int .u64)), (52, .ptr 200000 0), (53, .d (.int .i64)), (54, .d (.int .i64)), (55, .d (.int .u64)), (56, .d (.int .u64)), (57, .ptr 200000 0), (58, .d (.int .i64)), (59, .d (.int .u64)), (60, .ptr 200000 0), (61, .d (.int .i64)), (62, .d (.int .i64)), (63, .d (.int .u64)), (64, .d (.int .u64)), (65, .d t1), (66, .ptr 200000 0), (67, .d (.int .i64)), (68, .d (.int .u64)), (69, .d t1)],
  [.n, .n, .n, .n, .n, .n]⟩
/- exchangepoint/exchangepointlaw01.text -/
noncomputable def hh7 : Hints := ⟨[], [(18, .e []), (34, .e [])], [], [24, 40, 58], [], []⟩
noncomputable def vf7 : VF := vfOf Tryz.prog hh7 [0, 2, 3, 4, 5, 8, 11, 12, 13, 27, 28, 29, 42, 43, 47, 51, 55] [] Tryz.f7
noncomputable def fi7 : FI := ⟨[(0, .ptr 200000 0), (200000, .box (.st t2)), (2, .d .str), (6, .ptr 200000 0), (7, .d (.int .i64)), (8, .d .bool), (3, .d (.sl .str)), (9, .ptr 200000 0), (10, .d (.int .i64)), (11, .d (.int .i64)), (12, .d (.int .i64)), (13, .d .bool), (14, .d (.sl .str)), (15, .d (.sl .str)), (16, .ptr 200000 0), (17, .d (.int .i64)), (18, .ep .str 0 (some (15, none))), (19, .d .str), (20, .d (.sl .str)), (21, .d (.sl .str)), (22, .d (.int .i64)), (23, .d (.sl .str)), (24, .d .str), (4, .d (.sl .str)), (25, .ptr 200000 0), (26, .d (.int .i64)), (27, .d (.int .i64)), (28, .d (.int .i64)), (29, .d .bool), (30, .d (.sl .str)), (31, .d (.sl .str)), (32, .ptr 200000 0), (33, .d (.int .i64)), (34, .ep .str 0 (some (31, none))), (35, .d .str), (36, .d (.sl .str)), (37, .d (.sl .str)), (38, .d (.int .i64)), (39, .d (.sl .str)), (40, .d .str), (5, .d .str), (41, .ptr 200000 0), (42, .d (.int .i64)), (44, .d .bool), (43, .d .bool), (45, .d .str), (46, .d .str), (48, .d .bool), (47, .d .bool), (49, .d .str), (50, .d .str), (52, .d .bool), (51, .d .bool), (53, .d .str), (54, .d .str), (56, .d .bool), (55, .d .bool), (57, .d .str), (58, .d .str), (59, .d .str)],
  [.n, .j [3, 200000], .l [3, 11, 12, 200000] (some [(12, ⟨[], none⟩), (11, ⟨[], none⟩), (3, ⟨[(0, ⟨[1408], true, true, true, true, none⟩)], none⟩), (0, ⟨[], none⟩), (200000, ⟨[], none⟩)]), .n, .n, .j [4, 200000], .l [4, 27, 28, 200000] (some [(28, ⟨[], none⟩), (27, ⟨[], none⟩), (4, ⟨[(0, ⟨[2432], true, true, true, true, none⟩)], none⟩), (0, ⟨[], none⟩), (200000, ⟨[], none⟩)]), .n, .n, .j [5, 200000], .j [5, 200000], .j [5, 200000], .j [5, 200000], .j [5, 200000]]⟩
/- exchangepoint/addr.Print -/
noncomputable def hh8 : Hints := ⟨[], [(1, .r 1), (9, .r 1), (17, .e []), (6, .r 6)], [], [13, 22, 27, 29, 32, 38, 41, 47], [], []⟩
noncomputable def vf8 : VF := vfOf Tryz.prog hh8 [0, 1, 2, 3, 5, 6, 7, 8, 11, 13, 14, 15, 16, 36] [] Tryz.f8
noncomputable def fi8 : FI := ⟨[(0, .d t1), (1, .reg t1), (2, .d .str), (9, .rp 1 0), (10, .d .bool), (11, .d .bool), (3, .d (.sl .str)), (12, .d t1), (13, .d (.sl (.int .u8))), (14, .d (.int .i64)), (15, .d (.int .i64)), (16, .d .bool), (17, .ep (.int .u8) 0 (some (13, none))), (18, .d (.int .u8)), (5, .d (.int .u8)), (19, .d (.sl .str)), (20, .d (.int .u8)), (21, .d (.int .i64)), (22, .d .str), (23, .d (.sl .str)), (24, .d (.sl .str)), (25, .d (.int .i64)), (26, .d (.sl .str)), (27, .d .str), (28, .d t1), (29, .d (.st t8)), (6, .reg (.st t8)), (31, .d (.st t8)), (32, .tup [.int .i64, .int .i64]), (30, .tup [.int .i64, .int .i64]), (33, .d (.int .i64)), (34, .d (.int .i64)), (7, .d (.int .i64)), (8, .d (.int .i64)), (35, .d (.int .i64)), (36, .d .bool), (37, .d (.sl (.int .u64))), (38, .d .str), (39, .d (.int .i64)), (40, .d (.sl (.int .u64))), (41, .d .str), (42, .d .str), (43, .d (.int .i64)), (44, .d (.int .i64)), (45, .d (.int .i64)), (46, .d (.sl (.int .u64))), (47, .d .str), (48, .d .str)],
  [.n, .j [3], .l [3, 13, 14, 15] (some [(15, ⟨[], none⟩), (14, ⟨[], none⟩), (13, ⟨[(0, ⟨[896], true, true, true, true, none⟩)], none⟩), (3, ⟨[(0, ⟨[1600], true, true, true, true, none⟩)], none⟩)]), .n, .n, .n]⟩
/- exchangepoint/exchangepointref01.Print -/
noncomputable def hh9 : Hints := ⟨[], [(1, .r 1), (15, .r 1), (19, .e []), (25, .e []), (32, .e []), (39, .e []), (57, .e []), (68, .e []), (106, .e []), (114, .e [])], [], [11, 22, 28, 35, 42, 97, 118], [], []⟩
noncomputable def vf9 : VF := vfOf Tryz.prog hh9 [0, 1, 2, 3, 4, 5, 6, 7, 8, 9, 14, 17, 44, 45, 71, 76, 81, 86, 99] [] Tryz.f9
noncomputable def fi9 : FI := ⟨[(0, .d t1), (1, .reg t1), (2, .d .str), (10, .d t1), (11, .d (.sl (.int .u8))), (3, .d (.sl (.int .u8))), (12, .d (.sl (.int .u8))), (13, .d (.int .i64)), (14, .d .bool), (15, .rp 1 0), (16, .d .bool), (17, .d .bool), (18, .d (.sl (.int .u8))), (19, .ep (.int .u8) 0 (some (3, none))), (20, .d (.int .u8)), (21, .d (.int .i64)), (22, .d .str), (23, .d .str), (24, .d (.sl (.int .u8))), (25, .ep (.int .u8) 0 (some (3, none))), (26, .d (.int .u8)), (27, .d (.int .i64)), (28, .d .str), (29, .d .str), (30, .d .str), (31, .d (.sl (.int .u8))), (32, .ep (.int .u8) 0 (some (3, none))), (33, .d (.int .u8)), (34, .d (.int .i64)), (35, .d .str), (36, .d .str), (37, .d .str), (38, .d (.sl (.int .u8))), (39, .ep (.int .u8) 0 (some (3, none))), (40, .d (.int .u8)), (41, .d (.int .i64)), (42, .d .str), (43, .d .str), (4, .d (.int .i64)), (5, .d (.int .i64)), (44, .d (.int .i64)), (45, .d .bool), (46, .d (.int .i64)), (6, .d (.int .i64)), (7, .d (.int .i64)), (47, .d (.int .i64)), (48, .d (.int .i64)), (49, .d (.int .i64)), (50, .d .bool), (51, .d .bool), (52, .d (.sl (.int .u8))), (53, .d (.int .i64)), (54, .d (.int .i64)), (55, .d (.int .i64)), (56, .d (.int .i64)), (57, .ep (.int .u8) 0 (some (3, none))), (58, .d (.int .u8)), (59, .d .bool), (60, .d .bool), (61, .d .bool), (62, .d (.sl (.int .u8))), (63, .d (.int .i64)), (64, .d (.int .i64)), (65, .d (.int .i64)), (66, .d (.int .i64)), (67, .d (.int .i64)), (68, .ep (.int .u8) 0 (some (3, none))), (69, .d (.int .u8)), (70, .d .bool), (71, .d .bool), (72, .d (.int .i64)), (73, .d (.int .i64)), (74, .d (.int .i64)), (75, .d (.int .i64)), (76, .d .bool), (77, .d (.int .i64)), (78, .d (.int .i64)), (79, .d (.int .i64)), (8, .d .str), (9, .d (.int .i64)), (80, .d (.int .i64)), (81, .d .bool), (84, .d (.int .i64)), (85, .d (.int .i64)), (86, .d .bool), (87, .d .str), (88, .d .str), (89, .d (.int .i64)), (90, .d (.int .i64)), (91, .d (.int .i64)), (92, .d (.int .i64)), (93, .d .str), (94, .d .bool), (95, .d .bool), (96, .d .str), (97, .d .bool), (98, .d .bool), (99, .d .bool), (100, .d .str), (101, .d .str), (102, .d .str), (103, .d (.sl (.int .u8))), (104, .d (.int .i64)), (105, .d (.int .i64)), (106, .ep (.int .u8) 0 (some (3, none))), (107, .d (.int .u8)), (108, .d (.int .u64)), (109, .d (.int .u64)), (110, .d (.sl (.int .u8))), (111, .d (.int .i64)), (112, .d (.int .i64)), (113, .d (.int .i64)), (114, .ep (.int .u8) 0 (some (3, none))), (115, .d (.int .u8)), (116, .d (.int .u64)), (117, .d
  (.int .u64)), (118, .d .str), (119, .d .str), (82, .d (.int .i64)), (83, .d (.int .i64)), (120, .d .str)],
  [.n, .n, .j [3, 4, 5], .l [3, 4, 5, 44] none, .n, .j [3, 4, 5, 44], .j [3, 4, 5, 6, 7, 44], .l [3, 4, 5, 6, 7, 44] none, .n, .n, .j [3, 4, 5, 44], .j [8], .l [3, 4, 5, 8, 9] none, .n, .j [3, 4, 5, 8, 9], .n, .j [3, 4, 5, 8, 9]]⟩
/- exchangepoint/exchangepointmake.Spoilt -/
noncomputable def hh10 : Hints := ⟨[], [(33, .e [])], [43], [20, 23], [], []⟩
noncomputable def vf10 : VF := vfOf Tryz.prog hh10 [0, 1, 2, 6, 7, 8, 13, 23, 27, 34, 44] [] Tryz.f10
noncomputable def fi10 : FI := ⟨[(0, .d (.sl (.int .u8))), (1, .d (.int .i64)), (2, .d (.int .i64)), (6, .d (.sl (.int .u8))), (9, .d (.sl (.int .u8))), (10, .d (.sl (.int .u8))), (7, .d (.sl (.int .u8))), (11, .d (.sl (.int .u8))), (12, .d (.int .i64)), (13, .d .bool), (14, .d (.int .i64)), (15, .d (.int .u8)), (16, .d (.sl (.int .u8))), (17, .d (.int .i64)), (18, .d (.sl (.int .u8))), (19, .d (.int .i64)), (20, .d (.int .i64)), (8, .d (.int .i64)), (21, .d (.int .i64)), (22, .d (.int .i64)), (23, .d (.int .i64)), (28, .d .bool), (27, .d .bool), (29, .d (.sl (.int .u8))), (30, .d (.int .i64)), (31, .d (.int .i64)), (32, .d (.int .u8)), (33, .ep (.int .u8) 0 (some (7, none))), (35, .d .bool), (34, .d .bool), (36, .d (.sl (.int .u8))), (37, .d (.int .i64)), (38, .d (.sl (.int .u8))), (39, .d (.sl (.int .u8))), (40, .d (.int .i64)), (41, .d (.int .i64)), (42, .d (.sl (.int .u8))), (43, .d (.sl (.int .u8))), (45, .d .bool), (44, .d .bool), (46, .d (.sl (.int .u8))), (47, .d (.int .i64)), (48, .d (.sl (.int .u8))), (49, .d (.sl (.int .u8))), (50, .d (.int .i64)), (51, .d (.int .u8)), (52, .d (.sl (.int .u8))), (53, .d (.sl (.int .u8))), (54, .d (.sl (.int .u8))), (55, .d (.int .i64)), (56, .d (.sl (.int .u8))), (57, .d (.sl (.int .u8))), (24, .d (.sl (.int .u8))), (25, .d (.int .i64)), (26, .d (.sl (.int .u8))), (58, .d (.sl (.int .u8)))],
  [.n, .n, .n, .n, .n]⟩
/- exchangepoint/addr.Parse -/
noncomputable def hh12 : Hints := ⟨[], [(2, .r 2), (4, .r 4), (8, .r 8), (36, .e []), (38, .r 8), (41, .r 8), (45, .r 8), (46, .r 8), (51, .r 8)], [], [12, 16, 25], [], []⟩
noncomputable def vf12 : VF := vfOf Tryz.prog hh12 [0, 2, 3, 4, 5, 6, 7, 8, 10, 13, 20, 29, 32, 33, 34, 35] [] Tryz.f12
noncomputable def fi12 : FI := ⟨[(0, .d .str), (2, .reg t1), (3, .d (.int .i64)), (11, .d .str), (12, .d .bool), (13, .d .bool), (15, .d .str), (16, .tup [t1, .bool]), (14, .tup [t1, .bool]), (17, .d t1), (18, .d .bool), (4, .reg t1), (5, .d .bool), (19, .d .bool), (20, .d .bool), (21, .d t1), (22, .d t1), (24, .d .str), (25, .tup [.sl (.int .u64), .bool]), (23, .tup [.sl (.int .u64), .bool]), (26, .d (.sl (.int .u64))), (27, .d .bool), (6, .d (.sl (.int .u64))), (7, .d .bool), (28, .d .bool), (29, .d .bool), (30, .d t1), (31, .d t1), (8, .reg t1), (32, .d (.sl (.int .u64))), (33, .d (.int .i64)), (34, .d (.int .i64)), (35, .d .bool), (36, .ep (.int .u64) 0 (some (6, none))), (37, .d (.int .u64)), (10, .d (.int .u64)), (38, .rp 8 1), (39, .d (.int .u64)), (40, .d (.int .u64)), (41, .rp 8 2), (42, .d (.int .u64)), (43, .d (.int .u64)), (44, .d (.int .u64)), (45, .rp 8 1), (46, .rp 8 2), (47, .d (.int .u64)), (48, .d (.int .u64)), (49, .d (.int .u64)), (50, .d (.int .u64)), (51, .rp 8 2), (52, .d (.int .i64)), (53, .d t1)],
  [.n, .n, .n, .j [2, 8], .l [2, 8, 32, 33, 34] none, .n, .n]⟩
/- exchangepoint/exchangepointref01.Parse -/
noncomputable def hh13 : Hints := ⟨[], [(2, .r 2)], [], [14, 18, 25, 29, 34, 46, 53, 61, 74, 97], [], []⟩
noncomputable def vf13 : VF := vfOf Tryz.prog hh13 [0, 2, 3, 4, 5, 6, 7, 8, 9, 10, 11, 12, 15, 22, 31, 43, 83, 90] [] Tryz.f13
noncomputable def fi13 : FI := ⟨[(0, .d .str), (2, .reg t1), (3, .d (.int .i64)), (13, .d .str), (14, .d .bool), (15, .d .bool), (17, .d .str), (18, .tup [.sl (.int .u8), .bool]), (16, .tup [.sl (.int .u8), .bool]), (19, .d (.sl (.int .u8))), (20, .d .bool), (4, .d (.sl (.int .u8))), (5, .d .bool), (21, .d .bool), (22, .d .bool), (23, .d t1), (24, .d (.sl (.int .u8))), (25, .tup [t1, .int .i64]), (26, .d t1), (27, .d (.int .i64)), (28, .d .str), (29, .d (.int .i64)), (6, .d (.int .i64)), (30, .d (.int .i64)), (31, .d .bool), (33, .d .str), (34, .tup [.sl (.int .u8), .bool]), (32, .tup [.sl (.int .u8), .bool]), (35, .d (.sl (.int .u8))), (36, .d .bool), (7, .d (.sl (.int .u8))), (8, .d .bool), (37, .d .bool), (38, .d .bool), (39, .d .bool), (40, .d (.sl (.int .u8))), (41, .d (.int .i64)), (42, .d .bool), (43, .d .bool), (44, .d t1), (45, .d (.sl (.int .u8))), (46, .tup [t1, .int .i64]), (47, .d t1), (48, .d (.int .i64)), (50, .d .str), (51, .d (.int .i64)), (52, .d .str), (53, .tup [.sl (.int .u8), .bool]), (49, .tup [.sl (.int .u8), .bool]), (54, .d (.sl (.int .u8))), (55, .d .bool), (9, .d (.sl (.int .u8))), (10, .d .bool), (57, .d .str), (58, .d (.int .i64)), (59, .d (.int .i64)), (60, .d .str), (61, .tup [.sl (.int .u8), .bool]), (56, .tup [.sl (.int .u8), .bool]), (62, .d (.sl (.int .u8))), (63, .d .bool), (11, .d (.sl (.int .u8))), (12, .d .bool), (64, .d .bool), (65, .d .bool), (66, .d .bool), (67, .d .bool), (68, .d .bool), (69, .d .bool), (70, .d .bool), (71, .d .str), (72, .d (.int .i64)), (73, .d .str), (74, .d .bool), (75, .d .bool), (76, .d .bool), (77, .d (.sl (.int .u8))), (78, .d (.int .i64)), (79, .d (.sl (.int .u8))), (80, .d (.int .i64)), (81, .d (.int .i64)), (82, .d .bool), (83, .d .bool), (84, .d t1), (85, .d (.sl (.int .u8))), (86, .d (.int .i64)), (87, .d (.sl (.int .u8))), (88, .d (.int .i64)), (89, .d (.int .i64)), (90, .d .bool), (91, .d (.sl (.int .u8))), (92, .d (.sl (.int .u8))), (93, .d (.sl (.int .u8))), (94, .d (.sl (.int .u8))), (95, .d (.sl (.int .u8))), (96, .d (.sl (.int .u8))), (97, .tup [t1, .int .i64]), (98, .d t1), (99, .d (.int .i64))],
  [.n, .n, .n, .n, .n, .j [2, 9, 11], .l [2, 9, 11] (some [(11, ⟨[(0, ⟨[3968, 3969], true, true, true, true, none⟩)], none⟩), (9, ⟨[(0, ⟨[3456, 3457, 6016], true, true, true, true, none⟩)], none⟩), (2, ⟨[], none⟩)]), .n, .n]⟩
/- (*exchangepoint/exchangepointmake.Deck).Next -/
noncomputable def hh14 : Hints := ⟨[], [(31, .e [])], [], [34], [], []⟩
noncomputable def vf14 : VF := vfOf Tryz.prog hh14 [0, 1, 4, 14] [] Tryz.f14
noncomputable def fi14 : FI := ⟨[(0, .ptr 200000 0), (200000, .box (.st t2)), (1, .d (.int .i64)), (4, .d (.int .i64)), (5, .ptr 200000 0), (6, .ptr 200000 0), (7, .ptr 200000 1), (8, .d (.int .i64)), (9, .ptr 200000 0), (10, .ptr 200000 0), (11, .ptr 200000 0), (12, .d (.sl (.int .i64))), (13, .d (.int .i64)), (14, .d .bool), (15, .ptr 200000 0), (16, .ptr 200000 0), (17, .ptr 200000 1), (18, .d (.int .i64)), (19, .d (.int .i64)), (20, .ptr 200000 0), (21, .ptr 200000 1), (22, .ptr 200000 0), (23, .ptr 200000 0), (24, .ptr 200000 0), (25, .d (.sl (.int .i64))), (26, .ptr 200000 0), (27, .ptr 200000 0), (28, .ptr 200000 1), (29, .d (.int .i64)), (30, .d (.int .i64)), (31, .ep (.int .i64) 0 (some (25, none))), (32, .d (.int .i64)), (33, .d (.int .i64)), (34, .d (.int .i64))],
  [.n]⟩
/- exchangepoint/addr.Bytes -/
noncomputable def hh17 : Hints := ⟨[], [(1, .r 1), (9, .r 1), (21, .r 1), (24, .e []), (25, .r 1), (28, .r 1), (32, .r 1), (33, .r 1), (36, .r 1)], [], [7], [], []⟩
noncomputable def vf17 : VF := vfOf Tryz.prog hh17 [0, 1, 2, 3, 4, 5, 8, 10, 16] [] Tryz.f17
noncomputable def fi17 : FI := ⟨[(0, .d t1), (1, .reg t1), (2, .d (.sl (.int .u8))), (6, .d t1), (7, .d .bool), (8, .d .bool), (3, .d (.int .i64)), (9, .rp 1 0), (10, .d .bool), (11, .d (.int .i64)), (12, .d (.sl (.int .u8))), (4, .d (.sl (.int .u8))), (13, .d (.int .i64)), (14, .d (.int .i64)), (5, .d (.int .i64)), (15, .d (.int .i64)), (16, .d .bool), (19, .d (.sl (.int .u8))), (20, .d (.int .i64)), (21, .rp 1 2), (22, .d (.int .u64)), (23, .d (.int .u8)), (24, .ep (.int .u8) 0 (some (4, none))), (25, .rp 1 2), (26, .d (.int .u64)), (27, .d (.int .u64)), (28, .rp 1 1), (29, .d (.int .u64)), (30, .d (.int .u64)), (31, .d (.int .u64)), (32, .rp 1 2), (33, .rp 1 1), (34, .d (.int .u64)), (35, .d (.int .u64)), (36, .rp 1 1), (17, .d (.int .i64)), (18, .d (.int .i64)), (37, .d (.sl (.int .u8)))],
  [.n, .j [1, 3], .j [4], .l [1, 4, 5] none, .n, .n]⟩
/- exchangepoint/addr.groups -/
noncomputable def hh19 : Hints := ⟨[], [(2, .r 2), (9, .r 1), (12, .r 2), (13, .r 1), (16, .r 1), (20, .r 1), (21, .r 1), (24, .r 1)], [], [], [], []⟩
noncomputable def vf19 : VF := vfOf Tryz.prog hh19 [0, 1, 2, 3, 5] [] Tryz.f19
noncomputable def fi19 : FI := ⟨[(0, .d t1), (1, .reg t1), (2, .reg (.st t8)), (3, .d (.int .i64)), (4, .d (.int .i64)), (5, .d .bool), (8, .d (.int .i64)), (9, .rp 1 2), (10, .d (.int .u64)), (11, .d (.int .u64)), (12, .rx 2 0 8 (.int .u64)), (13, .rp 1 2), (14, .d (.int .u64)), (15, .d (.int .u64)), (16, .rp 1 1), (17, .d (.int .u64)), (18, .d (.int .u64)), (19, .d (.int .u64)), (20, .rp 1 2), (21, .rp 1 1), (22, .d (.int .u64)), (23, .d (.int .u64)), (24, .rp 1 1), (6, .d (.int .i64)), (7, .d (.int .i64)), (25, .d (.st t8))],
  [.j [2], .l [1, 2, 3] none, .n, .n]⟩
/- exchangepoint/addr.longest -/
noncomputable def hh20 : Hints := ⟨[], [(15, .r 1)], [], [], [], []⟩
noncomputable def vf20 : VF := vfOf Tryz.prog hh20 [0, 1, 2, 3, 4, 5, 7, 18, 26] [] Tryz.f20
noncomputable def fi20 : FI := ⟨[(0, .d (.st t8)), (1, .reg (.st t8)), (2, .d (.int .i64)), (3, .d (.int .i64)), (4, .d (.int .i64)), (6, .d (.int .i64)), (7, .d .bool), (10, .d (.int .i64)), (5, .d (.int .i64)), (11, .d (.int .i64)), (12, .d .bool), (13, .d .bool), (14, .d (.int .i64)), (15, .rx 1 0 8 (.int .u64)), (16, .d (.int .u64)), (17, .d .bool), (18, .d .bool), (19, .d (.int .i64)), (20, .d (.int .i64)), (21, .d (.int .i64)), (22, .d (.int .i64)), (23, .d (.int .i64)), (24, .d (.int .i64)), (25, .d (.int .i64)), (26, .d .bool), (27, .d (.int .i64)), (28, .d (.int .i64)), (29, .d (.int .i64)), (30, .d (.int .i64)), (8, .d (.int .i64)), (9, .d (.int .i64)), (31, .d (.int .i64)), (32, .d (.int .i64))],
  [.j [2, 3], .l [1, 2, 3, 4] none, .n, .j [1, 2, 3, 4], .j [1, 2, 3, 4, 5], .l [1, 2, 3, 4, 5] (some [(5, ⟨[], none⟩), (4, ⟨[], none⟩), (3, ⟨[], none⟩), (2, ⟨[], none⟩), (1, ⟨[], none⟩)]), .n, .n, .j [1, 2, 3, 4]]⟩
/- exchangepoint/addr.hex -/
noncomputable def hh21 : Hints := ⟨[], [(10, .e [])], [], [14, 19], [], []⟩
noncomputable def vf21 : VF := vfOf Tryz.prog hh21 [0, 2, 3, 5, 6, 7, 8, 9] [] Tryz.f21
noncomputable def fi21 : FI := ⟨[(0, .d (.sl (.int .u64))), (2, .d .str), (3, .d (.sl .str)), (6, .d (.sl (.int .u64))), (7, .d (.int .i64)), (8, .d (.int .i64)), (9, .d .bool), (10, .ep (.int .u64) 0 (some (0, none))), (11, .d (.int .u64)), (5, .d (.int .u64)), (12, .d (.sl .str)), (13, .d (.int .u64)), (14, .d .str), (15, .d (.sl .str)), (16, .d (.sl .str)), (17, .d (.int .i64)), (18, .d (.sl .str)), (19, .d .str)],
  [.j [3], .l [3, 6, 7, 8] (some [(8, ⟨[], none⟩), (7, ⟨[], none⟩), (6, ⟨[], some (0, none)⟩), (3, ⟨[(0, ⟨[1088], true, true, true, true, none⟩)], none⟩)]), .n, .n]⟩
/- exchangepoint/exchangepointref01.Bytes -/
noncomputable def hh22 : Hints := ⟨[], [(1, .r 1), (10, .r 1), (18, .r 1), (22, .r 1)], [], [8], [], []⟩
noncomputable def vf22 : VF := vfOf Tryz.prog hh22 [0, 1, 2, 3, 4, 5, 6, 9, 11, 15, 21] [] Tryz.f22
noncomputable def fi22 : FI := ⟨[(0, .d t1), (1, .reg t1), (2, .d (.sl (.int .u8))), (7, .d t1), (8, .d .bool), (9, .d .bool), (3, .d (.int .i64)), (10, .rp 1 0), (11, .d .bool), (4, .d (.sl (.int .u8))), (12, .d (.int .i64)), (13, .d (.int .i64)), (5, .d (.int .i64)), (14, .d (.int .i64)), (15, .d .bool), (18, .rp 1 2), (19, .d (.int .u64)), (6, .d (.int .u64)), (20, .d (.int .i64)), (21, .d .bool), (22, .rp 1 1), (23, .d (.int .u64)), (24, .d (.sl (.int .u8))), (25, .d (.int .u64)), (26, .d (.int .i64)), (27, .d (.int .i64)), (28, .d (.int .u64)), (29, .d (.int .u64)), (30, .d (.int .u64)), (31, .d (.int .u8)), (32, .d (.sl (.int .u8))), (33, .d (.sl (.int .u8))), (16, .d (.int .i64)), (17, .d (.int .i64)), (34, .d (.sl (.int .u8)))],
  [.n, .j [1, 3], .j [4], .l [1, 4, 5] (some [(5, ⟨[], none⟩), (4, ⟨[(0, ⟨[2176], true, true, true, true, none⟩)], none⟩), (1, ⟨[], none⟩)]), .n, .n, .j [1, 4, 5, 6]]⟩
/- strconv.FormatUint -/
noncomputable def hh24 : Hints := ⟨[], [], [], [7], [], []⟩
noncomputable def vf24 : VF := vfOf Tryz.prog hh24 [0, 1, 4] [] Tryz.f24
noncomputable def fi24 : FI := ⟨[(0, .d (.int .u64)), (1, .d (.int .i64)), (4, .d .str), (5, .d (.int .u64)), (6, .d (.int .i64)), (7, .d .str)],
  []⟩
/- exchangepoint/exchangepointmake.Mod -/
noncomputable def hh25 : Hints := ⟨[], [], [], [], [], []⟩
noncomputable def vf25 : VF := vfOf Tryz.prog hh25 [0, 1, 4, 5, 10] [] Tryz.f25
noncomputable def fi25 : FI := ⟨[(0, .d (.int .i64)), (1, .d (.int .i64)), (4, .d (.int .i64)), (6, .d (.int .i64)), (7, .d (.int .i64)), (8, .d (.int .i64)), (5, .d (.int .i64)), (9, .d (.int .i64)), (10, .d .bool), (11, .d (.int .i64)), (12, .d (.int .i64)), (13, .d (.int .i64)), (14, .d (.int .i64))],
  [.j [5]]⟩
/- exchangepoint/addr.four -/
noncomputable def hh33 : Hints := ⟨[], [(2, .r 2), (5, .r 5), (20, .e []), (44, .r 5), (50, .r 5)], [], [11, 24, 39], [], []⟩
noncomputable def vf33 : VF := vfOf Tryz.prog hh33 [0, 2, 3, 4, 5, 7, 8, 9, 14, 16, 17, 18, 19, 42] [] Tryz.f33
noncomputable def fi33 : FI := ⟨[(0, .d .str), (2, .reg t1), (3, .d .bool), (10, .d .str), (11, .d (.sl .str)), (4, .d (.sl .str)), (12, .d (.sl .str)), (13, .d (.int .i64)), (14, .d .bool), (15, .d t1), (5, .reg t1), (16, .d (.sl .str)), (17, .d (.int .i64)), (18, .d (.int .i64)), (19, .d .bool), (20, .ep .str 0 (some (4, none))), (21, .d .str), (7, .d .str), (23, .d .str), (24, .tup [.int .i64, .err]), (22, .tup [.int .i64, .err]), (25, .d (.int .i64)), (26, .d .err), (8, .d (.int .i64)), (9, .d .err), (27, .d .err), (28, .d .bool), (29, .d .bool), (30, .d (.int .i64)), (31, .d .bool), (32, .d .bool), (33, .d .bool), (34, .d (.int .i64)), (35, .d .bool), (36, .d .bool), (37, .d .bool), (38, .d (.int .i64)), (39, .d .str), (40, .d .str), (41, .d .bool), (42, .d .bool), (43, .d t1), (44, .rp 5 2), (45, .d (.int .u64)), (46, .d (.int .u64)), (47, .d (.int .i64)), (48, .d (.int .u64)), (49, .d (.int .u64)), (50, .rp 5 2), (51, .d (.int .i64)), (52, .d t1)],
  [.n, .j [2, 5], .l [2, 5, 16, 17, 18] none, .n, .n, .n]⟩
/- exchangepoint/addr.sixteen -/
noncomputable def hh34 : Hints := ⟨[], [], [], [15, 23, 35, 40], [], []⟩
noncomputable def vf34 : VF := vfOf Tryz.prog hh34 [0, 2, 3, 4, 5, 6, 7, 8, 9, 10, 11, 12, 20, 56] [] Tryz.f34
noncomputable def fi34 : FI := ⟨[(0, .d .str), (2, .d (.sl (.int .u64))), (3, .d .bool), (14, .d .str), (15, .tup [.str, .str, .bool]), (13, .tup [.str, .str, .bool]), (16, .d .str), (17, .d .str), (18, .d .bool), (4, .d .str), (5, .d .str), (6, .d .bool), (19, .d .bool), (20, .d .bool), (22, .d .str), (23, .tup [.sl (.int .u64), .bool]), (21, .tup [.sl (.int .u64), .bool]), (24, .d (.sl (.int .u64))), (25, .d .bool), (7, .d (.sl (.int .u64))), (8, .d .bool), (26, .d (.sl (.int .u64))), (27, .d .bool), (28, .d .bool), (29, .d (.sl (.int .u64))), (30, .d (.int .i64)), (31, .d .bool), (32, .d .bool), (34, .d .str), (35, .tup [.sl (.int .u64), .bool]), (33, .tup [.sl (.int .u64), .bool]), (36, .d (.sl (.int .u64))), (37, .d .bool), (9, .d (.sl (.int .u64))), (10, .d .bool), (39, .d .str), (40, .tup [.sl (.int .u64), .bool]), (38, .tup [.sl (.int .u64), .bool]), (41, .d (.sl (.int .u64))), (42, .d .bool), (11, .d (.sl (.int .u64))), (12, .d .bool), (43, .d .bool), (44, .d .bool), (45, .d .bool), (46, .d .bool), (47, .d .bool), (48, .d .bool), (49, .d .bool), (50, .d (.sl (.int .u64))), (51, .d (.int .i64)), (52, .d (.sl (.int .u64))), (53, .d (.int .i64)), (54, .d (.int .i64)), (55, .d .bool), (56, .d .bool), (57, .d (.sl (.int .u64))), (58, .d (.sl (.int .u64))), (59, .d (.int .i64)), (60, .d (.int .i64)), (61, .d (.sl (.int .u64))), (62, .d (.int .i64)), (63, .d (.int .i64)), (64, .d (.sl (.int .u64))), (65, .d (.sl (.int .u64))), (66, .d (.sl (.int .u64)))],
  [.n, .n]⟩
/- exchangepoint/exchangepointref01.four -/
noncomputable def hh35 : Hints := ⟨[], [(19, .e [])], [], [11, 23, 34], [], []⟩
noncomputable def vf35 : VF := vfOf Tryz.prog hh35 [0, 2, 3, 4, 5, 7, 8, 9, 14, 15, 16, 17, 18, 37] [] Tryz.f35
noncomputable def fi35 : FI := ⟨[(0, .d .str), (2, .d (.sl (.int .u8))), (3, .d .bool), (10, .d .str), (11, .d (.sl .str)), (4, .d (.sl .str)), (12, .d (.sl .str)), (13, .d (.int .i64)), (14, .d .bool), (5, .d (.sl (.int .u8))), (15, .d (.sl .str)), (16, .d (.int .i64)), (17, .d (.int .i64)), (18, .d .bool), (19, .ep .str 0 (some (4, none))), (20, .d .str), (7, .d .str), (22, .d .str), (23, .tup [.int .i64, .bool]), (21, .tup [.int .i64, .bool]), (24, .d (.int .i64)), (25, .d .bool), (8, .d (.int .i64)), (9, .d .bool), (26, .d .bool), (27, .d .bool), (28, .d .bool), (29, .d (.int .i64)), (30, .d .bool), (31, .d .bool), (32, .d .bool), (33, .d (.int .i64)), (34, .d .str), (35, .d .str), (36, .d .bool), (37, .d .bool), (38, .d (.sl (.int .u8))), (39, .d (.int .i64)), (40, .d (.int .u8)), (41, .d (.sl (.int .u8))), (42, .d (.sl (.int .u8))), (43, .d (.int .i64)), (44, .d (.sl (.int .u8)))],
  [.n, .j [5], .l [5, 15, 16, 17] (some [(17, ⟨[], none⟩), (16, ⟨[], none⟩), (15, ⟨[(0, ⟨[768], true, false, false, false, none⟩)], some (4, none)⟩), (5, ⟨[(0, ⟨[2752], true, true, true, true, none⟩)], none⟩)]), .n, .n, .n]⟩
/- exchangepoint/exchangepointref01.FromBytes -/
noncomputable def hh36 : Hints := ⟨[], [(2, .r 2), (4, .r 4), (24, .e []), (26, .r 4), (29, .r 4), (33, .r 4), (34, .r 4), (40, .r 4)], [], [], [], []⟩
noncomputable def vf36 : VF := vfOf Tryz.prog hh36 [0, 2, 3, 4, 6, 14, 20, 21, 22, 23] [] Tryz.f36
noncomputable def fi36 : FI := ⟨[(0, .d (.sl (.int .u8))), (2, .reg t1), (3, .d (.int .i64)), (7, .d (.sl (.int .u8))), (8, .d (.int .i64)), (9, .d .bool), (10, .d .bool), (11, .d (.sl (.int .u8))), (12, .d (.int .i64)), (13, .d .bool), (14, .d .bool), (15, .d t1), (16, .d (.sl (.int .u8))), (17, .d (.int .i64)), (18, .d .bool), (19, .d t1), (4, .reg t1), (20, .d (.sl (.int .u8))), (21, .d (.int .i64)), (22, .d (.int .i64)), (23, .d .bool), (24, .ep (.int .u8) 0 (some (0, none))), (25, .d (.int .u8)), (6, .d (.int .u8)), (26, .rp 4 1), (27, .d (.int .u64)), (28, .d (.int .u64)), (29, .rp 4 2), (30, .d (.int .u64)), (31, .d (.int .u64)), (32, .d (.int .u64)), (33, .rp 4 1), (34, .rp 4 2), (35, .d (.int .u64)), (36, .d (.int .u64)), (37, .d (.int .u8)), (38, .d (.int .u64)), (39, .d (.int .u64)), (40, .rp 4 2), (41, .d (.int .i64)), (42, .d t1)],
  [.n, .j [2, 4], .l [2, 4, 20, 21, 22] none, .n, .n]⟩
/- exchangepoint/exchangepointref01.groups -/
noncomputable def hh38 : Hints := ⟨[], [(23, .e []), (57, .e [])], [], [17, 32, 36, 60], [], []⟩
noncomputable def vf38 : VF := vfOf Tryz.prog hh38 [0, 2, 3, 4, 5, 6, 7, 8, 9, 10, 12, 13, 15, 18, 19, 20, 21, 33, 40, 51, 53, 54, 55, 56, 62] [] Tryz.f38
noncomputable def fi38 : FI := ⟨[(0, .d .str), (2, .d (.sl (.int .u8))), (3, .d .bool), (14, .d .str), (15, .d .bool), (4, .d (.sl (.int .u8))), (16, .d .str), (17, .d (.sl .str)), (5, .d (.sl .str)), (18, .d (.sl .str)), (19, .d (.int .i64)), (20, .d (.int .i64)), (21, .d .bool), (22, .d (.int .i64)), (23, .ep .str 0 (some (5, none))), (24, .d .str), (6, .d (.int .i64)), (7, .d .str), (25, .d (.int .i64)), (26, .d (.sl .str)), (27, .d (.int .i64)), (28, .d (.int .i64)), (29, .d .bool), (30, .d .bool), (31, .d .str), (32, .d .bool), (33, .d .bool), (35, .d .str), (36, .tup [.sl (.int .u8), .bool]), (34, .tup [.sl (.int .u8), .bool]), (37, .d (.sl (.int .u8))), (38, .d .bool), (8, .d (.sl (.int .u8))), (9, .d .bool), (39, .d .bool), (40, .d .bool), (41, .d (.sl (.int .u8))), (42, .d (.sl (.int .u8))), (43, .d (.sl (.int .u8))), (44, .d .str), (45, .d (.int .i64)), (46, .d .bool), (47, .d .bool), (48, .d .str), (49, .d (.int .i64)), (50, .d .bool), (51, .d .bool), (10, .d (.int .i64)), (52, .d .str), (53, .d (.sl (.int .u8))), (54, .d (.int .i64)), (55, .d (.int .i64)), (56, .d .bool), (57, .ep (.int .u8) 0 (some (53, none))), (58, .d (.int .u8)), (12, .d (.int .u8)), (59, .d (.int .u8)), (60, .d (.int .i64)), (13, .d (.int .i64)), (61, .d (.int .i64)), (62, .d .bool), (63, .d (.int .i64)), (64, .d (.int .i64)), (65, .d (.int .i64)), (66, .d (.int .i64)), (67, .d (.int .i64)), (68, .d (.sl (.int .u8))), (69, .d (.int .i64)), (70, .d (.int .i64)), (71, .d (.int .u8)), (72, .d (.int .i64)), (73, .d (.int .u8)), (74, .d (.sl (.int .u8))), (75, .d (.sl (.int .u8))), (76, .d (.int .i64)), (77, .d (.sl (.int .u8)))],
  [.n, .j [4], .l [4, 5, 18, 19, 20] (some [(20, ⟨[], none⟩), (19, ⟨[], none⟩), (18, ⟨[(0, ⟨[1152], true, false, false, false, none⟩)], some (5, none)⟩), (5, ⟨[(0, ⟨[1152], true, false, false, false, none⟩)], none⟩), (4, ⟨[(0, ⟨[4864, 2816], true, true, true, true, none⟩)], none⟩)]), .n, .j [4, 5, 18, 19, 20], .n, .n, .n, .j [4, 5, 10, 18, 19, 20], .l [4, 5, 10, 18, 19, 20, 53, 54, 55] none, .n, .n, .n]⟩
/- exchangepoint/addr.Valid -/
noncomputable def hh41 : Hints := ⟨[], [(3, .r 1), (6, .r 1), (10, .r 1)], [], [], [], []⟩
noncomputable def vf41 : VF := vfOf Tryz.prog hh41 [0, 1, 2] [] Tryz.f41
noncomputable def fi41 : FI := ⟨[(0, .d t1), (1, .reg t1), (2, .d .bool), (3, .rp 1 0), (4, .d .bool), (5, .d .bool), (6, .rp 1 1), (7, .d (.int .u64)), (8, .d .bool), (9, .d .bool), (10, .rp 1 2), (11, .d (.int .u64)), (12, .d .bool), (13, .d .bool), (14, .d .bool)],
  []⟩
/- exchangepoint/exchangepointref01.Valid -/
noncomputable def hh43 : Hints := ⟨[], [(3, .r 1), (6, .r 1), (10, .r 1)], [], [], [], []⟩
noncomputable def vf43 : VF := vfOf Tryz.prog hh43 [0, 1, 2] [] Tryz.f43
noncomputable def fi43 : FI := ⟨[(0, .d t1), (1, .reg t1), (2, .d .bool), (3, .rp 1 0), (4, .d .bool), (5, .d .bool), (6, .rp 1 1), (7, .d (.int .u64)), (8, .d .bool), (9, .d .bool), (10, .rp 1 2), (11, .d (.int .u64)), (12, .d .bool), (13, .d .bool), (14, .d .bool)],
  []⟩
/- internal/strconv.FormatUint -/
noncomputable def hh45 : Hints := ⟨[], [(5, .r 5)], [], [15, 17, 21, 28], [], [63, 64, 65]⟩
noncomputable def vf45 : VF := vfOf Tryz.prog hh45 [0, 1, 4, 5, 6, 8, 10, 12] [] Tryz.f45
noncomputable def fi45 : FI := ⟨[(0, .d (.int .u64)), (1, .d (.int .i64)), (4, .d .str), (9, .d (.int .i64)), (10, .d .bool), (11, .d (.int .u64)), (12, .d .bool), (13, .d (.int .u64)), (14, .d (.int .i64)), (15, .d .str), (5, .reg t9), (16, .d (.int .u64)), (17, .d (.int .i64)), (6, .d (.int .i64)), (18, .d (.int .i64)), (19, .d (.sl (.int .u8))), (20, .d (.int .u64)), (21, .tup []), (22, .d (.int .i64)), (23, .d (.sl (.int .u8))), (24, .d .str), (26, .d (.int .u64)), (27, .d (.int .i64)), (28, .tup [.sl (.int .u8), .str]), (25, .tup [.sl (.int .u8), .str]), (29, .d (.sl (.int .u8))), (30, .d .str), (7, .d (.sl (.int .u8))), (8, .d .str), (31, .d .str)],
  [.n, .n]⟩
/- exchangepoint/addr.list -/
noncomputable def hh55 : Hints := ⟨[], [(23, .e []), (10, .r 10), (42, .r 10), (45, .r 10)], [], [17, 27, 52], [], []⟩
noncomputable def vf55 : VF := vfOf Tryz.prog hh55 [0, 1, 4, 5, 6, 7, 8, 9, 10, 11, 12, 13, 15, 18, 19, 20, 21, 40, 56] [] Tryz.f55
noncomputable def fi55 : FI := ⟨[(0, .d .str), (1, .d .bool), (4, .d (.sl (.int .u64))), (5, .d .bool), (14, .d .str), (15, .d .bool), (6, .d (.sl (.int .u64))), (16, .d .str), (17, .d (.sl .str)), (7, .d (.sl .str)), (18, .d (.sl .str)), (19, .d (.int .i64)), (20, .d (.int .i64)), (21, .d .bool), (22, .d (.int .i64)), (23, .ep .str 0 (some (7, none))), (24, .d .str), (8, .d (.int .i64)), (9, .d .str), (26, .d .str), (27, .tup [t1, .bool]), (25, .tup [t1, .bool]), (28, .d t1), (29, .d .bool), (10, .reg t1), (11, .d .bool), (30, .d .bool), (31, .d .bool), (32, .d .bool), (33, .d .bool), (34, .d .bool), (35, .d (.int .i64)), (36, .d (.sl .str)), (37, .d (.int .i64)), (38, .d (.int .i64)), (39, .d .bool), (40, .d .bool), (41, .d (.sl (.int .u64))), (42, .rp 10 2), (43, .d (.int .u64)), (44, .d (.int .u64)), (45, .rp 10 2), (46, .d (.int .u64)), (47, .d (.int .u64)), (48, .d (.sl (.int .u64))), (49, .d (.sl (.int .u64))), (51, .d .str), (52, .tup [.int .u64, .bool]), (50, .tup [.int .u64, .bool]), (53, .d (.int .u64)), (54, .d .bool), (12, .d (.int .u64)), (13, .d .bool), (55, .d .bool), (56, .d .bool), (57, .d (.sl (.int .u64))), (58, .d (.int .u64)), (59, .d (.sl (.int .u64))), (60, .d (.sl (.int .u64))), (61, .d (.int .i64)), (62, .d (.sl (.int .u64)))],
  [.n, .j [6], .l [1, 6, 7, 18, 19, 20] (some [(20, ⟨[], none⟩), (19, ⟨[], none⟩), (18, ⟨[(0, ⟨[1152], true, false, false, false, none⟩)], some (7, none)⟩), (7, ⟨[(0, ⟨[1152], true, false, false, false, none⟩)], none⟩), (6, ⟨[(0, ⟨[3904, 3200], true, true, true, true, none⟩)], none⟩), (1, ⟨[], none⟩)]), .n, .j [1, 6, 7, 18, 19, 20], .n, .n]⟩
/- exchangepoint/exchangepointref01.decimal -/
noncomputable def hh56 : Hints := ⟨[], [], [], [], [], []⟩
noncomputable def vf56 : VF := vfOf Tryz.prog hh56 [0, 2, 3, 4, 5, 7, 8, 9, 24] [] Tryz.f56
noncomputable def fi56 : FI := ⟨[(0, .d .str), (2, .d (.int .i64)), (3, .d .bool), (4, .d (.int .i64)), (6, .d .str), (7, .d (.int .i64)), (8, .d (.int .i64)), (9, .d .bool), (10, .d (.int .i64)), (5, .d (.int .i64)), (11, .d .str), (12, .d (.int .i64)), (13, .d (.int .u8)), (14, .d .bool), (15, .d .bool), (16, .d .str), (17, .d (.int .i64)), (18, .d (.int .u8)), (19, .d .bool), (20, .d .bool), (21, .d .bool), (22, .d (.int .i64)), (23, .d .bool), (24, .d .bool), (25, .d (.int .i64)), (26, .d (.int .i64)), (27, .d .str), (28, .d (.int .i64)), (29, .d (.int .u8)), (30, .d (.int .u8)), (31, .d (.int .i64)), (32, .d (.int .i64)), (33, .d (.int .i64)), (34, .d (.int .i64)), (35, .d .str), (36, .d .bool), (37, .d .bool), (38, .d (.int .i64)), (39, .d .bool), (40, .d .bool)],
  [.j [0, 4], .l [0, 4, 7, 8] none, .n, .n, .n]⟩
/- exchangepoint/exchangepointref01.digit -/
noncomputable def hh58 : Hints := ⟨[], [], [], [], [], []⟩
noncomputable def vf58 : VF := vfOf Tryz.prog hh58 [0, 2, 3, 13, 24] [] Tryz.f58
noncomputable def fi58 : FI := ⟨[(0, .d (.int .u8)), (2, .d (.int .i64)), (4, .d (.int .u8)), (5, .d .bool), (6, .d .bool), (7, .d (.int .u8)), (8, .d .bool), (9, .d .bool), (3, .d .bool), (10, .d (.int .u8)), (11, .d (.int .u8)), (12, .d (.int .i64)), (14, .d (.int .u8)), (15, .d .bool), (16, .d .bool), (17, .d (.int .u8)), (18, .d .bool), (19, .d .bool), (13, .d .bool), (20, .d (.int .u8)), (21, .d (.int .u8)), (22, .d (.int .i64)), (23, .d (.int .i64)), (25, .d (.int .u8)), (26, .d .bool), (27, .d .bool), (28, .d (.int .u8)), (29, .d .bool), (30, .d .bool), (24, .d .bool), (31, .d (.int .u8)), (32, .d (.int .u8)), (33, .d (.int .i64)), (34, .d (.int .i64))],
  [.n, .n, .n, .n]⟩
/- internal/strconv.formatBits -/
noncomputable def hh66 : Hints := ⟨[], [(12, .r 12), (54, .r 12), (63, .r 12), (81, .r 12), (88, .r 12), (93, .r 12)], [], [34, 37], [], []⟩
noncomputable def vf66 : VF := vfOf Tryz.prog hh66 [0, 1, 2, 3, 4, 10, 11, 12, 13, 14, 15, 16, 17, 18, 28, 30, 34, 46, 68, 89, 94] [0] Tryz.f66
noncomputable def fi66 : FI := ⟨[(0, .d (.sl (.int .u8))), (1, .d (.int .u64)), (2, .d (.int .i64)), (3, .d .bool), (4, .d .bool), (10, .d (.sl (.int .u8))), (11, .d .str), (19, .d (.int .i64)), (20, .d .bool), (21, .d .bool), (22, .d (.int .i64)), (23, .d .bool), (24, .d .bool), (25, .d .bool), (26, .d (.int .i64)), (27, .d .bool), (28, .d .bool), (29, .d .err), (12, .reg t10), (13, .d (.int .i64)), (30, .d .bool), (31, .d (.int .u64)), (32, .d (.int .u64)), (33, .d (.int .i64)), (34, .d .bool), (35, .d (.int .i64)), (36, .d (.int .u64)), (37, .d (.int .i64)), (38, .d (.int .u64)), (14, .d (.int .u64)), (39, .d (.int .i64)), (40, .d (.int .u64)), (15, .d (.int .u64)), (41, .d (.int .i64)), (42, .d (.int .u64)), (43, .d (.int .u64)), (16, .d (.int .u64)), (44, .d (.int .u64)), (45, .d (.int .u64)), (46, .d .bool), (47, .d (.int .i64)), (48, .d (.int .i64)), (49, .d (.int .i64)), (50, .d (.int .u64)), (51, .d (.int .u64)), (52, .d (.int .u64)), (53, .d (.int .u8)), (54, .rx 12 0 65 (.int .u8)), (55, .d (.int .u64)), (56, .d (.int .u64)), (57, .d (.int .u64)), (58, .d (.int .i64)), (59, .d (.int .i64)), (60, .d (.int .i64)), (61, .d (.int .u64)), (62, .d (.int .u8)), (63, .rx 12 0 65 (.int .u8)), (64, .d (.int .i64)), (65, .d (.int .u64)), (17, .d (.int .u64)), (66, .d (.int .u64)), (67, .d (.int .u64)), (68, .d .bool), (69, .d (.int .i64)), (70, .d (.int .i64)), (71, .d (.int .u64)), (72, .d (.int .u64)), (73, .d (.int .u64)), (18, .d (.int .u64)), (74, .d (.int .i64)), (75, .d (.int .u64)), (76, .d (.int .u64)), (77, .d (.int .u64)), (78, .d (.int .u64)), (79, .d (.int .u64)), (80, .d (.int .u8)), (81, .rx 12 0 65 (.int .u8)), (82, .d (.int .u64)), (83, .d (.int .i64)), (84, .d (.int .i64)), (85, .d (.int .i64)), (86, .d (.int .u64)), (87, .d (.int .u8)), (88, .rx 12 0 65 (.int .u8)), (89, .d .bool), (90, .d (.int .i64)), (91, .d (.int .i64)), (92, .d (.int .i64)), (93, .rx 12 0 65 (.int .u8)), (94, .d .bool), (95, .d (.sl (.int .u8))), (96, .d (.int .i64)), (97, .d (.sl (.int .u8))), (98, .d (.sl (.int .u8))), (99, .d (.int .i64)), (100, .d (.sl (.int .u8))), (101, .d .str)],
  [.j [0, 1, 2, 3, 4, 10, 11], .j [0, 1, 2, 3, 4, 10, 11, 12, 13], .j [0, 3, 4, 10, 11, 12, 13], .j [0, 1, 3, 4, 10, 11, 12, 13], .l [0, 1, 3, 4, 10, 11, 12, 13, 14, 15, 16] none, .n, .n, .j [0, 1, 3, 4, 10, 11, 12, 13], .l [0, 1, 3, 4, 10, 11, 12, 13, 17] none, .n, .n, .j [0, 4, 10, 11, 12, 13], .n]⟩
/- exchangepoint/addr.digits -/
noncomputable def hh75 : Hints := ⟨[], [(21, .e [])], [], [24], [], []⟩
noncomputable def vf75 : VF := vfOf Tryz.prog hh75 [0, 2, 3, 4, 6, 7, 15, 17, 18, 19, 20, 30, 36] [] Tryz.f75
noncomputable def fi75 : FI := ⟨[(0, .d .str), (2, .d (.int .u64)), (3, .d .bool), (8, .d .str), (9, .d (.int .i64)), (10, .d .bool), (11, .d .bool), (12, .d .str), (13, .d (.int .i64)), (14, .d .bool), (15, .d .bool), (4, .d (.int .u64)), (16, .d .str), (17, .d (.sl (.int .u8))), (18, .d (.int .i64)), (19, .d (.int .i64)), (20, .d .bool), (21, .ep (.int .u8) 0 (some (17, none))), (22, .d (.int .u8)), (6, .d (.int .u8)), (23, .d (.int .u8)), (24, .d (.int .i64)), (7, .d (.int .i64)), (25, .d (.int .u8)), (26, .d .bool), (27, .d .bool), (28, .d (.int .u8)), (29, .d .bool), (30, .d .bool), (31, .d (.int .u8)), (32, .d (.int .u8)), (33, .d (.int .i64)), (34, .d (.int .i64)), (35, .d (.int .i64)), (36, .d .bool), (37, .d (.int .u64)), (38, .d (.int .u64)), (39, .d (.int .i64)), (40, .d (.int .u64)), (41, .d (.int .u64)), (42, .d (.int .i64)), (43, .d (.int .u64))],
  [.n, .j [4], .l [4, 17, 18, 19] none, .n, .n, .j [4, 7, 17, 18, 19], .n]⟩
/- internal/strconv.isPowerOfTwo -/
noncomputable def hh83 : Hints := ⟨[], [], [], [], [], []⟩
noncomputable def vf83 : VF := vfOf Tryz.prog hh83 [0, 2] [] Tryz.f83
noncomputable def fi83 : FI := ⟨[(0, .d (.int .i64)), (2, .d .bool), (3, .d (.int .i64)), (4, .d (.int .i64)), (5, .d (.int .i64)), (6, .d (.int .i64)), (7, .d .bool)],
  []⟩
noncomputable def FT : Nat → Option Entry
  | 3 => some (.code vf3)
  | 4 => some (.code vf4)
  | 5 => some (.code vf5)
  | 6 => some (.code vf6)
  | 7 => some (.code vf7)
  | 8 => some (.code vf8)
  | 9 => some (.code vf9)
  | 10 => some (.code vf10)
  | 12 => some (.code vf12)
  | 13 => some (.code vf13)
  | 14 => some (.code vf14)
  | 17 => some (.code vf17)
  | 19 => some (.code vf19)
  | 20 => some (.code vf20)
  | 21 => some (.code vf21)
  | 22 => some (.code vf22)
  | 24 => some (.code vf24)
  | 25 => some (.code vf25)
  | 33 => some (.code vf33)
  | 34 => some (.code vf34)
  | 35 => some (.code vf35)
  | 36 => some (.code vf36)
  | 38 => some (.code vf38)
  | 41 => some (.code vf41)
  | 43 => some (.code vf43)
  | 45 => some (.code vf45)
  | 55 => some (.code vf55)
  | 56 => some (.code vf56)
  | 58 => some (.code vf58)
  | 66 => some (.code vf66)
  | 75 => some (.code vf75)
  | 83 => some (.code vf83)
  | 11 => some (.prim [] (pF gUpper))
  | 15 => some (.prim [] pJoin)
  | 16 => some (.prim [] (pF gReplace))
  | 18 => some (.prim [] (pF gItoa))
  | 23 => some (.prim [] (pF gHasSuffix))
  | 32 => some (.prim [] (pF gContains))
  | 37 => some (.prim [] (pF gIndex))
  | 52 => some (.prim [] (pF gSplit))
  | 53 => some (.prim [] (pF (gAtoi 128)))
  | 54 => some (.prim [] (pF gCut))
  | 84 => some (.prim [] (pF gTZ))
  | 94 => some (.prim [] pIndexByte)
  | _ => none
noncomputable def sgN : Nat → Sg
  | 11 => ⟨[.d .str], [(.str, [])], none⟩
  | 15 => ⟨[.d (.sl .str), .d .str], [(.str, [])], none⟩
  | 16 => ⟨[.d .str, .d .str, .d .str, .d (.int .i64)], [(.str, [])], none⟩
  | 18 => ⟨[.d (.int .i64)], [(.str, [])], none⟩
  | 23 => ⟨[.d .str, .d .str], [(.bool, [])], none⟩
  | 32 => ⟨[.d .str, .d .str], [(.bool, [])], none⟩
  | 37 => ⟨[.d .str, .d .str], [(.int .i64, [])], none⟩
  | 52 => ⟨[.d .str, .d .str], [(.sl .str, [])], none⟩
  | 53 => ⟨[.d .str], [(.int .i64, []), (.err, [])], none⟩
  | 54 => ⟨[.d .str, .d .str], [(.str, []), (.str, []), (.bool, [])], none⟩
  | 84 => ⟨[.d (.int .u64)], [(.int .i64, [])], none⟩
  | 94 => ⟨[.d .str, .d (.int .u8)], [(.int .i64, [])], none⟩
  | 3 => ⟨[.d .str, .d t1, .d (.sl (.int .i64)), .d (.int .i64), .d (.int .i64)], [(.bool, [])], none⟩
  | 4 => ⟨[], [(.bool, [])], none⟩
  | 5 => ⟨[.d (.sl (.int .i64))], [], some (.st t2)⟩
  | 6 => ⟨[.p (.st t2)], [(t1, [])], none⟩
  | 7 => ⟨[.p (.st t2)], [(.str, [])], none⟩
  | 8 => ⟨[.d t1], [(.str, [])], none⟩
  | 9 => ⟨[.d t1], [(.str, [])], none⟩
  | 10 => ⟨[.d (.sl (.int .u8)), .d (.int .i64), .d (.int .i64)], [(.sl (.int .u8), [])], none⟩
  | 12 => ⟨[.d .str], [(t1, []), (.int .i64, [])], none⟩
  | 13 => ⟨[.d .str], [(t1, []), (.int .i64, [])], none⟩
  | 14 => ⟨[.p (.st t2), .d (.int .i64)], [(.int .i64, [])], none⟩
  | 17 => ⟨[.d t1], [(.sl (.int .u8), [(0, true)])], none⟩
  | 19 => ⟨[.d t1], [(.st t8, [])], none⟩
  | 20 => ⟨[.d (.st t8)], [(.int .i64, []), (.int .i64, [])], none⟩
  | 21 => ⟨[.d (.sl (.int .u64))], [(.str, [])], none⟩
  | 22 => ⟨[.d t1], [(.sl (.int .u8), [(0, true)])], none⟩
  | 24 => ⟨[.d (.int .u64), .d (.int .i64)], [(.str, [])], none⟩
  | 25 => ⟨[.d (.int .i64), .d (.int .i64)], [(.int .i64, [])], none⟩
  | 33 => ⟨[.d .str], [(t1, []), (.bool, [])], none⟩
  | 34 => ⟨[.d .str], [(.sl (.int .u64), [(0, true)]), (.bool, [])], none⟩
  | 35 => ⟨[.d .str], [(.sl (.int .u8), [(0, true)]), (.bool, [])], none⟩
  | 36 => ⟨[.d (.sl (.int .u8))], [(t1, []), (.int .i64, [])], none⟩
  | 38 => ⟨[.d .str], [(.sl (.int .u8), [(0, true)]), (.bool, [])], none⟩
  | 41 => ⟨[.d t1], [(.bool, [])], none⟩
  | 43 => ⟨[.d t1], [(.bool, [])], none⟩
  | 45 => ⟨[.d (.int .u64), .d (.int .i64)], [(.str, [])], none⟩
  | 55 => ⟨[.d .str, .d .bool], [(.sl (.int .u64), [(0, true)]), (.bool, [])], none⟩
  | 56 => ⟨[.d .str], [(.int .i64, []), (.bool, [])], none⟩
  | 58 => ⟨[.d (.int .u8)], [(.int .i64, [])], none⟩
  | 66 => ⟨[.d (.sl (.int .u8)), .d (.int .u64), .d (.int .i64), .d .bool, .d .bool], [(.sl (.int .u8), [(0, false)]), (.str, [])], none⟩
  | 75 => ⟨[.d .str], [(.int .u64, []), (.bool, [])], none⟩
  | 83 => ⟨[.d (.int .i64)], [(.bool, [])], none⟩
  | _ => ⟨[], [], none⟩
noncomputable def vsN : Nat → Sig
  | 3 => ⟨[], false⟩
  | 4 => ⟨[], true⟩
  | 5 => ⟨[], true⟩
  | 6 => ⟨[], false⟩
  | 7 => ⟨[], false⟩
  | 8 => ⟨[], true⟩
  | 9 => ⟨[], true⟩
  | 10 => ⟨[], true⟩
  | 12 => ⟨[], true⟩
  | 13 => ⟨[], true⟩
  | 14 => ⟨[], false⟩
  | 17 => ⟨[], true⟩
  | 19 => ⟨[], true⟩
  | 20 => ⟨[], true⟩
  | 21 => ⟨[], true⟩
  | 22 => ⟨[], true⟩
  | 24 => ⟨[], true⟩
  | 25 => ⟨[], true⟩
  | 33 => ⟨[], true⟩
  | 34 => ⟨[], true⟩
  | 35 => ⟨[], true⟩
  | 36 => ⟨[], true⟩
  | 38 => ⟨[], true⟩
  | 41 => ⟨[], true⟩
  | 43 => ⟨[], true⟩
  | 45 => ⟨[], true⟩
  | 55 => ⟨[], true⟩
  | 56 => ⟨[], true⟩
  | 58 => ⟨[], true⟩
  | 66 => ⟨[0], true⟩
  | 75 => ⟨[], true⟩
  | 83 => ⟨[], true⟩
  | 11 => ⟨[], true⟩
  | 15 => ⟨[], true⟩
  | 16 => ⟨[], true⟩
  | 18 => ⟨[], true⟩
  | 23 => ⟨[], true⟩
  | 32 => ⟨[], true⟩
  | 37 => ⟨[], true⟩
  | 52 => ⟨[], true⟩
  | 53 => ⟨[], true⟩
  | 54 => ⟨[], true⟩
  | 84 => ⟨[], true⟩
  | 94 => ⟨[], true⟩
  | _ => ⟨[], false⟩
noncomputable def TN : (f : Nat) → NE (sgN f)
  | 3 => .code fi3 vf3
  | 4 => .code fi4 vf4
  | 5 => .code fi5 vf5
  | 6 => .code fi6 vf6
  | 7 => .code fi7 vf7
  | 8 => .code fi8 vf8
  | 9 => .code fi9 vf9
  | 10 => .code fi10 vf10
  | 12 => .code fi12 vf12
  | 13 => .code fi13 vf13
  | 14 => .code fi14 vf14
  | 17 => .code fi17 vf17
  | 19 => .code fi19 vf19
  | 20 => .code fi20 vf20
  | 21 => .code fi21 vf21
  | 22 => .code fi22 vf22
  | 24 => .code fi24 vf24
  | 25 => .code fi25 vf25
  | 33 => .code fi33 vf33
  | 34 => .code fi34 vf34
  | 35 => .code fi35 vf35
  | 36 => .code fi36 vf36
  | 38 => .code fi38 vf38
  | 41 => .code fi41 vf41
  | 43 => .code fi43 vf43
  | 45 => .code fi45 vf45
  | 55 => .code fi55 vf55
  | 56 => .code fi56 vf56
  | 58 => .code fi58 vf58
  | 66 => .code fi66 vf66
  | 75 => .code fi75 vf75
  | 83 => .code fi83 vf83
  | 11 => .prim (qF gUpper _)
  | 15 => .prim qJoin
  | 16 => .prim (qF gReplace _)
  | 18 => .prim (qF gItoa _)
  | 23 => .prim (qF gHasSuffix _)
  | 32 => .prim (qF gContains _)
  | 37 => .prim (qF gIndex _)
  | 52 => .prim (qF gSplit _)
  | 53 => .prim (qF (gAtoi 128) _)
  | 54 => .prim (qF gCut _)
  | 84 => .prim (qF gTZ _)
  | 94 => .prim qIndexByte
  | _ => .no
end Go.Proofs.YtfglhfbnbdmhfaaGreatDoor
