/- The functions that the laws reach: how they are compiled and read. Definitions alone. -/
import Derived.Test.YtndaipcfahfkkaaTC
import Derived.Test.YtndaipcfahfkkaaProg
import Derived.KernelRfl
namespace Go.Proofs.Ytndaipcfahfkkaa
open Go.VM
set_option maxRecDepth 100000
abbrev t0 : Ty := .pair (.int .u8) (.int .u8)
abbrev t1 : Ty := .pair (.int .u8) t0
abbrev t2 : Ty := .pair (.int .u8) t1
abbrev t3 : Ty := .pair (.int .u8) t2
abbrev t4 : Ty := .pair (.int .u8) t3
abbrev t5 : Ty := .pair (.int .u64) (.int .u64)
abbrev t6 : Ty := .st (.pair .bool t5)
abbrev t7 : Ty := .pair (.int .i64) (.sl (.int .u8))
abbrev t8 : Ty := .pair (.int .i64) t7
abbrev t9 : Ty := .pair (.st t4) t8
abbrev t10 : Ty := .pair (.st t4) t9
abbrev t11 : Ty := .pair (.sl (.int .i64)) (.int .i64)
/- exchangepoint/exchangepointlaw04.EtherAddresses -/
noncomputable def hh3 : Hints := ⟨[], [(5, .r 5), (7, .r 7), (11, .r 11), (44, .e []), (13, .r 13), (88, .e []), (16, .r 16), (18, .r 18)], [], [23, 25, 28, 34, 47, 49, 53, 55, 60, 62, 66, 69, 76, 78, 82, 92, 97, 111, 113, 116], []⟩
noncomputable def vf3 : VF := vfOf Try.prog hh3 [0, 1, 2, 3, 4, 5, 7, 10, 11, 13, 15, 16, 17, 18, 19, 22, 40, 41, 42, 43, 73, 84, 85, 86, 87, 107] [] Try.f3
noncomputable def fi3 : FI := ⟨[(0, .d (.st t4)), (1, .d .str), (2, .d t6), (3, .d (.int .i64)), (4, .d (.int .i64)), (5, .reg (.st t4)), (7, .reg t6), (10, .d .bool), (20, .d .str), (21, .d (.int .i64)), (22, .d .bool), (23, .d .bool), (24, .d (.int .i64)), (25, .d (.int .i64)), (26, .d (.int .u8)), (27, .d (.int .i64)), (28, .d (.int .i64)), (29, .d (.int .u8)), (30, .d (.st t4)), (11, .reg (.st t4)), (31, .d (.st t4)), (32, .d (.st t4)), (33, .d (.int .i64)), (34, .d (.int .i64)), (35, .d (.int .u8)), (36, .d (.st t4)), (37, .d (.int .i64)), (38, .d (.int .u8)), (39, .d (.st t4)), (40, .d (.sl (.st t4))), (41, .d (.int .i64)), (42, .d (.int .i64)), (43, .d .bool), (44, .ep (.st t4) 0 (some (40, none))), (45, .d (.st t4)), (13, .reg (.st t4)), (46, .d (.st t4)), (47, .d .str), (48, .d (.st t4)), (49, .d .str), (50, .d .bool), (51, .d .bool), (52, .d (.st t4)), (53, .d .bool), (54, .d (.st t4)), (55, .d .bool), (56, .d .bool), (57, .d .bool), (58, .d .bool), (59, .d (.st t4)), (60, .d .bool), (61, .d (.st t4)), (62, .d .bool), (63, .d .bool), (64, .d .bool), (65, .d .bool), (66, .d (.st t4)), (67, .d (.st t4)), (68, .d .bool), (69, .d (.st t4)), (70, .d (.st t4)), (71, .d .bool), (72, .d .bool), (73, .d .bool), (74, .d .str), (75, .d (.st t4)), (76, .d .str), (77, .d (.st t4)), (78, .d .str), (79, .d (.sl (.int .u8))), (80, .d (.int .i64)), (81, .d (.int .i64)), (82, .d (.sl (.int .u8))), (83, .d .str), (84, .d (.sl .str)), (85, .d (.int .i64)), (86, .d (.int .i64)), (87, .d .bool), (88, .ep .str 0 (some (84, none))), (89, .d .str), (15, .d .str), (91, .d .str), (92, .tup [.st t4, .int .i64]), (90, .tup [.st t4, .int .i64]), (93, .d (.st t4)), (94, .d (.int .i64)), (16, .reg (.st t4)), (17, .d (.int .i64)), (96, .d .str), (97, .tup [.st t4, .int .i64]), (95, .tup [.st t4, .int .i64]), (98, .d (.st t4)), (99, .d (.int .i64)), (18, .reg (.st t4)), (19, .d (.int .i64)), (100, .d (.st t4)), (101, .d (.st t4)), (102, .d .bool), (103, .d .bool), (104, .d (.int .i64)), (105, .d (.int .i64)), (106, .d .bool), (107, .d .bool), (108, .d (.int .i64)), (109, .d (.int .i64)), (110, .d t6), (111, .d (.st t4)), (112, .d t6), (113, .d (.st t4)), (114, .d .bool), (115, .d .bool), (116, .d .bool), (117, .d .bool)],
  [.n, .j [7], .l [1, 3, 4, 7, 40, 41, 42] none, .n, .j [1, 3, 4, 7, 40, 41, 42], .n, .j [1, 3, 4, 7, 40, 41, 42], .l [1, 3, 4, 7, 40, 41, 42, 84, 85, 86] none, .n, .n, .n]⟩
/- exchangepoint/exchangepointlaw04.EtherGroups -/
noncomputable def hh4 : Hints := ⟨[], [(4, .r 4), (5, .r 5), (11, .r 4), (12, .r 5), (9, .r 9), (10, .r 10), (43, .r 4), (46, .r 5)], [], [14, 16, 18, 20, 21, 25, 29, 30, 35, 36, 56, 60, 65], [(13, [9, 10]), (14, [9, 10]), (15, [9, 10]), (16, [9, 10])]⟩
noncomputable def vf4 : VF := vfOf Try.prog hh4 [0, 1, 2, 3, 4, 5, 8, 9, 10] [] Try.f4
noncomputable def fi4 : FI := ⟨[(0, .d t6), (1, .d t6), (2, .d (.int .i64)), (3, .d (.int .u8)), (4, .reg t6), (5, .reg t6), (8, .d .bool), (11, .rp 4 0), (12, .rp 5 0), (13, .d t6), (14, .d (.st t4)), (15, .d t6), (16, .d (.st t4)), (9, .reg (.st t4)), (10, .reg (.st t4)), (17, .d (.st t4)), (18, .d .bool), (19, .d .bool), (20, .d (.st t4)), (21, .d .bool), (22, .d .bool), (23, .d .bool), (24, .d (.st t4)), (25, .d .bool), (26, .d .bool), (27, .d .bool), (28, .d .bool), (29, .d (.st t4)), (30, .d .bool), (31, .d .bool), (32, .d .bool), (33, .d .bool), (34, .d (.int .i64)), (35, .d (.st t4)), (36, .d .bool), (37, .d .bool), (38, .d .bool), (39, .d .bool), (40, .d (.st t4)), (41, .d (.st t4)), (42, .d .bool), (43, .rp 4 2), (44, .d (.int .u64)), (45, .d (.int .u64)), (46, .rp 5 2), (47, .d (.int .u64)), (48, .d (.int .u64)), (49, .d .bool), (50, .d .bool), (51, .d .bool), (52, .d .bool), (53, .d (.int .u8)), (54, .d (.int .u8)), (55, .d (.st t4)), (56, .d .bool), (57, .d .bool), (58, .d .bool), (59, .d t6), (60, .d (.st t4)), (61, .d (.st t4)), (62, .d .bool), (63, .d .bool), (64, .d .bool), (65, .d .bool), (66, .d .bool)],
  []⟩
/- exchangepoint/exchangepointlaw04.EtherFrames -/
noncomputable def hh5 : Hints := ⟨[], [(5, .r 5), (31, .r 5), (11, .r 11), (46, .e []), (13, .r 13), (114, .e []), (23, .r 23), (25, .r 25)], [], [28, 33, 36, 50, 55, 59, 61, 78, 98, 105, 118, 123, 128, 136], []⟩
noncomputable def vf5 : VF := vfOf Try.prog hh5 [0, 1, 2, 3, 4, 5, 10, 11, 13, 14, 15, 16, 17, 18, 20, 22, 23, 24, 25, 26, 35, 42, 43, 44, 45, 74, 110, 111, 112, 113, 134] [] Try.f5
noncomputable def fi5 : FI := ⟨[(0, .d (.st t10)), (1, .d (.sl (.int .u8))), (2, .d (.sl (.int .i64))), (3, .d (.int .i64)), (4, .d (.int .i64)), (5, .reg (.st t10)), (10, .d .bool), (27, .d (.sl (.int .u8))), (28, .d .bool), (29, .d .bool), (30, .d .bool), (31, .rp 5 14), (32, .d (.sl (.int .u8))), (33, .d .bool), (34, .d .bool), (35, .d .bool), (36, .d .bool), (37, .d (.sl (.int .i64))), (38, .ptr 100038 0), (100038, .box (.st t11)), (39, .d (.st t10)), (11, .reg (.st t10)), (40, .d (.st t10)), (41, .d (.st t10)), (42, .d (.sl (.st t10))), (43, .d (.int .i64)), (44, .d (.int .i64)), (45, .d .bool), (46, .ep (.st t10) 0 (some (42, none))), (47, .d (.st t10)), (13, .reg (.st t10)), (49, .d (.st t10)), (50, .tup [.sl (.int .u8), .int .i64]), (48, .tup [.sl (.int .u8), .int .i64]), (51, .d (.sl (.int .u8))), (52, .d (.int .i64)), (14, .d (.sl (.int .u8))), (15, .d (.int .i64)), (54, .d (.st t10)), (55, .tup [.sl (.int .u8), .int .i64]), (53, .tup [.sl (.int .u8), .int .i64]), (56, .d (.sl (.int .u8))), (57, .d (.int .i64)), (16, .d (.sl (.int .u8))), (17, .d (.int .i64)), (58, .d (.st t10)), (59, .d .bool), (60, .d (.st t10)), (61, .d .bool), (62, .d .bool), (63, .d .bool), (64, .d (.sl (.int .u8))), (65, .d .str), (66, .d (.sl (.int .u8))), (67, .d .str), (68, .d .bool), (69, .d .bool), (70, .d .bool), (71, .d (.int .i64)), (72, .d (.int .i64)), (73, .d .bool), (74, .d .bool), (75, .d (.int .i64)), (77, .d (.st t10)), (78, .tup [.sl (.int .u8), .int .i64]), (76, .tup [.sl (.int .u8), .int .i64]), (79, .d (.sl (.int .u8))), (80, .d (.int .i64)), (18, .d (.sl (.int .u8))), (19, .d (.int .i64)), (81, .d (.sl (.int .u8))), (82, .d (.int .i64)), (83, .d (.int .u8)), (84, .d (.int .i64)), (85, .d (.int .u8)), (86, .d (.int .i64)), (87, .d (.int .i64)), (88, .d (.int .u8)), (89, .d (.sl (.int .u8))), (90, .d (.sl (.int .u8))), (91, .d (.sl (.int .u8))), (92, .d (.sl (.int .u8))), (20, .d (.sl (.int .u8))), (93, .d (.sl (.int .u8))), (94, .d (.sl (.int .u8))), (95, .d (.sl (.int .u8))), (96, .d (.int .i64)), (97, .d (.int .i64)), (98, .d (.sl (.int .u8))), (99, .d (.sl (.int .u8))), (100, .d (.sl (.int .u8))), (101, .d (.int .i64)), (102, .d (.sl (.int .u8))), (103, .d (.int .i64)), (104, .d (.int .i64)), (105, .d (.int .i64)), (106, .d (.sl (.int .u8))), (107, .d (.sl (.int .u8))), (108, .d (.sl (.int .u8))), (109, .d (.sl (.int .u8))), (110, .d (.sl (.sl (.int .u8)))), (111, .d (.int .i64)), (112, .d (.int .i64)), (113, .d .bool), (114, .ep (.sl (.int .u8)) 0
  (some (110, none))), (115, .d (.sl (.int .u8))), (22, .d (.sl (.int .u8))), (117, .d (.sl (.int .u8))), (118, .tup [.st t10, .int .i64]), (116, .tup [.st t10, .int .i64]), (119, .d (.st t10)), (120, .d (.int .i64)), (23, .reg (.st t10)), (24, .d (.int .i64)), (122, .d (.sl (.int .u8))), (123, .tup [.st t10, .int .i64]), (121, .tup [.st t10, .int .i64]), (124, .d (.st t10)), (125, .d (.int .i64)), (25, .reg (.st t10)), (26, .d (.int .i64)), (126, .d (.st t10)), (127, .d (.st t10)), (128, .d .bool), (129, .d .bool), (130, .d .bool), (131, .d (.int .i64)), (132, .d (.int .i64)), (133, .d .bool), (134, .d .bool), (135, .d (.int .i64)), (136, .d .bool)],
  [.n, .j [1, 3, 4, 11], .l [1, 3, 4, 11, 42, 43, 44] none, .n, .n, .n, .j [], .l [110, 111, 112] none, .n, .n, .n]⟩
/- exchangepoint/exchangepointlaw04.EtherBack -/
noncomputable def hh6 : Hints := ⟨[], [(5, .r 5), (11, .r 11), (13, .r 13), (16, .r 16), (18, .r 18), (100, .e []), (104, .e []), (111, .r 18), (118, .e []), (122, .e [])], [], [24, 26, 29, 30, 44, 47, 52, 64, 70, 73, 78, 81, 129], []⟩
noncomputable def vf6 : VF := vfOf Try.prog hh6 [0, 1, 2, 3, 4, 5, 10, 11, 12, 13, 14, 15, 16, 17, 18, 19, 20, 21, 22, 25, 39, 44, 66, 77, 92, 94, 95, 96, 127] [] Try.f6
noncomputable def fi6 : FI := ⟨[(0, .d (.st t4)), (1, .d (.sl (.int .u8))), (2, .d (.sl (.int .i64))), (3, .d (.int .i64)), (4, .d (.int .i64)), (5, .reg (.st t4)), (10, .d .bool), (23, .d (.sl (.int .u8))), (24, .d .bool), (25, .d .bool), (26, .d .bool), (28, .d (.st t4)), (29, .d .str), (30, .tup [.st t4, .int .i64]), (27, .tup [.st t4, .int .i64]), (31, .d (.st t4)), (32, .d (.int .i64)), (11, .reg (.st t4)), (12, .d (.int .i64)), (33, .d (.int .i64)), (34, .d .bool), (35, .d .bool), (36, .d (.st t4)), (37, .d (.st t4)), (38, .d .bool), (39, .d .bool), (40, .d (.sl (.int .i64))), (41, .ptr 100041 0), (100041, .box (.st t11)), (42, .d (.st t10)), (13, .reg (.st t10)), (43, .d (.st t10)), (44, .d .bool), (46, .d (.st t10)), (47, .tup [.sl (.int .u8), .int .i64]), (45, .tup [.sl (.int .u8), .int .i64]), (48, .d (.sl (.int .u8))), (49, .d (.int .i64)), (14, .d (.sl (.int .u8))), (15, .d (.int .i64)), (51, .d (.sl (.int .u8))), (52, .tup [.st t10, .int .i64]), (50, .tup [.st t10, .int .i64]), (53, .d (.st t10)), (54, .d (.int .i64)), (16, .reg (.st t10)), (17, .d (.int .i64)), (55, .d (.int .i64)), (56, .d .bool), (57, .d .bool), (58, .d (.int .i64)), (59, .d .bool), (60, .d .bool), (61, .d .bool), (62, .d (.st t10)), (63, .d (.st t10)), (64, .d .bool), (65, .d .bool), (66, .d .bool), (67, .d (.sl (.int .u8))), (68, .d (.int .i64)), (69, .d (.int .i64)), (70, .d (.sl (.int .u8))), (72, .d (.sl (.int .u8))), (73, .tup [.st t10, .int .i64]), (71, .tup [.st t10, .int .i64]), (74, .d (.st t10)), (75, .d (.int .i64)), (18, .reg (.st t10)), (19, .d (.int .i64)), (76, .d (.int .i64)), (77, .d .bool), (78, .d .bool), (80, .d (.st t10)), (81, .tup [.sl (.int .u8), .int .i64]), (79, .tup [.sl (.int .u8), .int .i64]), (82, .d (.sl (.int .u8))), (83, .d (.int .i64)), (20, .d (.sl (.int .u8))), (21, .d (.int .i64)), (84, .d (.int .i64)), (85, .d .bool), (86, .d .bool), (87, .d (.sl (.int .u8))), (88, .d (.int .i64)), (89, .d (.sl (.int .u8))), (90, .d (.int .i64)), (91, .d .bool), (92, .d .bool), (93, .d (.sl (.int .u8))), (94, .d (.int .i64)), (95, .d (.int .i64)), (96, .d .bool), (97, .d (.int .i64)), (22, .d (.int .i64)), (98, .d (.sl (.int .u8))), (99, .d (.int .i64)), (100, .ep (.int .u8) 0 (some (20, none))), (101, .d (.int .u8)), (102, .d (.sl (.int .u8))), (103, .d (.int .i64)), (104, .ep (.int .u8) 0 (some (1, none))), (105, .d (.int .u8)), (106, .d .bool), (107, .d .bool), (108, .d (.int .i64)), (109, .d .bool), (110, .d .bool), (111, .rp 18 12), (112, .d (.int
  .i64)), (113, .d .bool), (114, .d .bool), (115, .d .bool), (116, .d (.sl (.int .u8))), (117, .d (.int .i64)), (118, .ep (.int .u8) 0 (some (20, none))), (119, .d (.int .u8)), (120, .d (.sl (.int .u8))), (121, .d (.int .i64)), (122, .ep (.int .u8) 0 (some (1, none))), (123, .d (.int .u8)), (124, .d (.int .u8)), (125, .d .bool), (126, .d .bool), (127, .d .bool), (128, .d (.int .i64)), (129, .d .bool)],
  [.n, .n, .j [1], .n, .n, .n, .j [], .l [1, 18, 20, 94, 95] none, .n, .n, .n]⟩
/- exchangepoint/exchangepointlaw04.EtherTags -/
noncomputable def hh7 : Hints := ⟨[], [(5, .r 5), (16, .r 5), (6, .r 6), (25, .r 6), (11, .r 11)], [], [18, 20, 23, 28, 33, 62, 88, 91], [(58, [11]), (61, [11]), (62, [11])]⟩
noncomputable def vf7 : VF := vfOf Try.prog hh7 [0, 1, 4, 5, 6, 7, 8, 9, 10, 11, 12, 19, 54] [] Try.f7
noncomputable def fi7 : FI := ⟨[(0, .d (.sl (.int .i64))), (1, .d (.int .i64)), (4, .d .bool), (13, .d (.sl (.int .i64))), (14, .ptr 100014 0), (100014, .box (.st t11)), (15, .d (.st t10)), (5, .reg (.st t10)), (16, .rp 5 12), (17, .d (.st t10)), (18, .d .bool), (19, .d .bool), (20, .d .bool), (21, .d (.st t10)), (6, .reg (.st t10)), (22, .d (.int .i64)), (23, .d (.int .i64)), (24, .d (.int .i64)), (25, .rp 6 12), (27, .d (.st t10)), (28, .tup [.sl (.int .u8), .int .i64]), (26, .tup [.sl (.int .u8), .int .i64]), (29, .d (.sl (.int .u8))), (30, .d (.int .i64)), (7, .d (.sl (.int .u8))), (8, .d (.int .i64)), (32, .d (.st t10)), (33, .tup [.sl (.int .u8), .int .i64]), (31, .tup [.sl (.int .u8), .int .i64]), (34, .d (.sl (.int .u8))), (35, .d (.int .i64)), (9, .d (.sl (.int .u8))), (10, .d (.int .i64)), (36, .d (.int .i64)), (37, .d .bool), (38, .d .bool), (39, .d (.int .i64)), (40, .d .bool), (41, .d .bool), (42, .d .bool), (43, .d (.sl (.int .u8))), (44, .d (.int .i64)), (45, .d .bool), (46, .d .bool), (47, .d .bool), (48, .d (.sl (.int .u8))), (49, .d (.int .i64)), (50, .d (.sl (.int .u8))), (51, .d (.int .i64)), (52, .d (.int .i64)), (53, .d .bool), (54, .d .bool), (56, .d (.sl (.int .u8))), (57, .d (.sl (.int .u8))), (58, .d (.sl (.int .u8))), (59, .d (.sl (.int .u8))), (60, .d (.sl (.int .u8))), (61, .d (.sl (.int .u8))), (62, .tup [.st t10, .int .i64]), (55, .tup [.st t10, .int .i64]), (63, .d (.st t10)), (64, .d (.int .i64)), (11, .reg (.st t10)), (12, .d (.int .i64)), (65, .d (.sl (.int .u8))), (66, .d (.sl (.int .u8))), (67, .d .str), (68, .d (.sl (.int .u8))), (69, .d (.sl (.int .u8))), (70, .d .str), (71, .d .bool), (72, .d .bool), (73, .d (.sl (.int .u8))), (74, .d (.sl (.int .u8))), (75, .d .str), (76, .d (.sl (.int .u8))), (77, .d (.sl (.int .u8))), (78, .d .str), (79, .d .bool), (80, .d .bool), (81, .d .bool), (82, .d (.int .i64)), (83, .d .bool), (84, .d .bool), (85, .d .bool), (86, .d (.st t10)), (87, .d (.st t10)), (88, .d .bool), (89, .d .bool), (90, .d .bool), (91, .d .bool), (92, .d .bool)],
  [.n, .n]⟩
/- exchangepoint/exchangepointlaw04.awake -/
noncomputable def hh8 : Hints := ⟨[], [(1, .r 1), (2, .r 2)], [], [5, 7, 11, 19, 23], []⟩
noncomputable def vf8 : VF := vfOf Try.prog hh8 [0, 1, 2, 3] [] Try.f8
noncomputable def fi8 : FI := ⟨[(0, .d .bool), (4, .d t6), (5, .d (.st t4)), (1, .reg (.st t4)), (7, .tup [.st t4, .int .i64]), (6, .tup [.st t4, .int .i64]), (8, .d (.st t4)), (9, .d (.int .i64)), (2, .reg (.st t4)), (3, .d (.int .i64)), (10, .d (.st t4)), (11, .d .str), (12, .d .bool), (13, .d .bool), (14, .d (.int .i64)), (15, .d .bool), (16, .d .bool), (17, .d .bool), (18, .d (.st t4)), (19, .d .bool), (20, .d .bool), (21, .d .bool), (22, .d (.st t4)), (23, .d .bool), (24, .d .bool)],
  []⟩
/- exchangepoint/exchangepointmake.Mod -/
noncomputable def hh9 : Hints := ⟨[], [], [], [], []⟩
noncomputable def vf9 : VF := vfOf Try.prog hh9 [0, 1, 4, 5, 10] [] Try.f9
noncomputable def fi9 : FI := ⟨[(0, .d (.int .i64)), (1, .d (.int .i64)), (4, .d (.int .i64)), (6, .d (.int .i64)), (7, .d (.int .i64)), (8, .d (.int .i64)), (5, .d (.int .i64)), (9, .d (.int .i64)), (10, .d .bool), (11, .d (.int .i64)), (12, .d (.int .i64)), (13, .d (.int .i64)), (14, .d (.int .i64))],
  [.j [5]]⟩
/- exchangepoint/ether.Print -/
noncomputable def hh10 : Hints := ⟨[], [(1, .r 1)], [], [23], []⟩
noncomputable def vf10 : VF := vfOf Try.prog hh10 [0, 1, 2, 3, 5, 6, 7, 8] [] Try.f10
noncomputable def fi10 : FI := ⟨[(0, .d (.st t4)), (1, .reg (.st t4)), (2, .d .str), (3, .d (.sl .str)), (6, .d (.st t4)), (7, .d (.int .i64)), (8, .d .bool), (9, .d (.int .u8)), (5, .d (.int .u8)), (10, .d (.sl .str)), (11, .d (.int .u8)), (12, .d (.int .u8)), (13, .d (.int .u8)), (14, .d (.int .u8)), (15, .d (.int .u8)), (16, .d (.int .u8)), (17, .d (.sl (.int .u8))), (18, .d .str), (19, .d (.sl .str)), (20, .d (.sl .str)), (21, .d (.int .i64)), (22, .d (.sl .str)), (23, .d .str)],
  [.j [3], .l [3, 6, 7] (some [(7, ⟨[], none⟩), (6, ⟨[], none⟩), (3, ⟨[(0, ⟨[1344], true, true, true, true, none⟩)], none⟩)]), .n, .n]⟩
/- exchangepoint/exchangepointref04.Print -/
noncomputable def hh11 : Hints := ⟨[], [(1, .r 1)], [], [], []⟩
noncomputable def vf11 : VF := vfOf Try.prog hh11 [0, 1, 2, 3, 4, 5, 6, 7, 8, 12] [] Try.f11
noncomputable def fi11 : FI := ⟨[(0, .d (.st t4)), (1, .reg (.st t4)), (2, .d .str), (3, .d (.sl (.int .u8))), (6, .d (.st t4)), (7, .d (.int .i64)), (8, .d .bool), (9, .d (.int .i64)), (10, .d (.int .u8)), (4, .d (.int .i64)), (5, .d (.int .u8)), (11, .d (.int .i64)), (12, .d .bool), (13, .d (.sl (.int .u8))), (14, .d (.sl (.int .u8))), (15, .d (.sl (.int .u8))), (16, .d (.sl (.int .u8))), (17, .d (.int .u8)), (18, .d (.int .u8)), (19, .d (.int .u8)), (20, .d (.int .u8)), (21, .d (.int .u8)), (22, .d (.int .u8)), (23, .d (.sl (.int .u8))), (24, .d (.sl (.int .u8))), (25, .d (.int .i64)), (26, .d (.sl (.int .u8))), (27, .d .str)],
  [.j [3], .l [3, 6, 7] (some [(7, ⟨[], none⟩), (6, ⟨[], none⟩), (3, ⟨[(0, ⟨[1600, 1024], true, true, true, true, none⟩)], none⟩)]), .n, .n, .j [3, 5, 6, 7]]⟩
/- exchangepoint/ether.Group -/
noncomputable def hh12 : Hints := ⟨[], [(3, .r 1)], [], [], []⟩
noncomputable def vf12 : VF := vfOf Try.prog hh12 [0, 1, 2] [] Try.f12
noncomputable def fi12 : FI := ⟨[(0, .d (.st t4)), (1, .reg (.st t4)), (2, .d .bool), (3, .rp 1 0), (4, .d (.int .u8)), (5, .d (.int .u8)), (6, .d .bool)],
  []⟩
/- exchangepoint/exchangepointref04.Group -/
noncomputable def hh13 : Hints := ⟨[], [(3, .r 1)], [], [], []⟩
noncomputable def vf13 : VF := vfOf Try.prog hh13 [0, 1, 2] [] Try.f13
noncomputable def fi13 : FI := ⟨[(0, .d (.st t4)), (1, .reg (.st t4)), (2, .d .bool), (3, .rp 1 0), (4, .d (.int .u8)), (5, .d (.int .u8)), (6, .d .bool)],
  []⟩
/- exchangepoint/ether.Reserved -/
noncomputable def hh14 : Hints := ⟨[], [(1, .r 1), (4, .r 1), (6, .r 1)], [], [], []⟩
noncomputable def vf14 : VF := vfOf Try.prog hh14 [0, 1, 2, 3] [] Try.f14
noncomputable def fi14 : FI := ⟨[(0, .d (.st t4)), (1, .reg (.st t4)), (2, .d .bool), (4, .rp 1 5), (5, .d (.int .u8)), (3, .d (.int .u8)), (6, .rp 1 5), (7, .d (.st t4)), (8, .d (.st t4)), (9, .d .bool), (10, .d .bool), (11, .d (.int .u8)), (12, .d .bool), (13, .d .bool)],
  []⟩
/- exchangepoint/exchangepointref04.Reserved -/
noncomputable def hh15 : Hints := ⟨[], [(1, .r 1), (3, .r 1), (8, .r 1)], [], [], []⟩
noncomputable def vf15 : VF := vfOf Try.prog hh15 [0, 1, 2] [] Try.f15
noncomputable def fi15 : FI := ⟨[(0, .d (.st t4)), (1, .reg (.st t4)), (2, .d .bool), (3, .rp 1 5), (4, .d (.int .u8)), (5, .d .bool), (6, .d .bool), (7, .d (.st t4)), (8, .rp 1 5), (9, .d (.int .u8)), (10, .d (.st t4)), (11, .d .bool), (12, .d .bool)],
  []⟩
/- exchangepoint/ether.Broadcast -/
noncomputable def hh16 : Hints := ⟨[], [(0, .r 0)], [], [], []⟩
noncomputable def vf16 : VF := vfOf Try.prog hh16 [0] [] Try.f16
noncomputable def fi16 : FI := ⟨[(0, .reg (.st t4)), (1, .d (.st t4))],
  []⟩
/- exchangepoint/exchangepointref04.Broadcast -/
noncomputable def hh17 : Hints := ⟨[], [(0, .r 0)], [], [], []⟩
noncomputable def vf17 : VF := vfOf Try.prog hh17 [0] [] Try.f17
noncomputable def fi17 : FI := ⟨[(0, .reg (.st t4)), (1, .d (.st t4))],
  []⟩
/- exchangepoint/exchangepointmake.Spoilt -/
noncomputable def hh18 : Hints := ⟨[], [(33, .e [])], [43], [20, 23], []⟩
noncomputable def vf18 : VF := vfOf Try.prog hh18 [0, 1, 2, 6, 7, 8, 13, 23, 27, 34, 44] [] Try.f18
noncomputable def fi18 : FI := ⟨[(0, .d (.sl (.int .u8))), (1, .d (.int .i64)), (2, .d (.int .i64)), (6, .d (.sl (.int .u8))), (9, .d (.sl (.int .u8))), (10, .d (.sl (.int .u8))), (7, .d (.sl (.int .u8))), (11, .d (.sl (.int .u8))), (12, .d (.int .i64)), (13, .d .bool), (14, .d (.int .i64)), (15, .d (.int .u8)), (16, .d (.sl (.int .u8))), (17, .d (.int .i64)), (18, .d (.sl (.int .u8))), (19, .d (.int .i64)), (20, .d (.int .i64)), (8, .d (.int .i64)), (21, .d (.int .i64)), (22, .d (.int .i64)), (23, .d (.int .i64)), (28, .d .bool), (27, .d .bool), (29, .d (.sl (.int .u8))), (30, .d (.int .i64)), (31, .d (.int .i64)), (32, .d (.int .u8)), (33, .ep (.int .u8) 0 (some (7, none))), (35, .d .bool), (34, .d .bool), (36, .d (.sl (.int .u8))), (37, .d (.int .i64)), (38, .d (.sl (.int .u8))), (39, .d (.sl (.int .u8))), (40, .d (.int .i64)), (41, .d (.int .i64)), (42, .d (.sl (.int .u8))), (43, .d (.sl (.int .u8))), (45, .d .bool), (44, .d .bool), (46, .d (.sl (.int .u8))), (47, .d (.int .i64)), (48, .d (.sl (.int .u8))), (49, .d (.sl (.int .u8))), (50, .d (.int .i64)), (51, .d (.int .u8)), (52, .d (.sl (.int .u8))), (53, .d (.sl (.int .u8))), (54, .d (.sl (.int .u8))), (55, .d (.int .i64)), (56, .d (.sl (.int .u8))), (57, .d (.sl (.int .u8))), (24, .d (.sl (.int .u8))), (25, .d (.int .i64)), (26, .d (.sl (.int .u8))), (58, .d (.sl (.int .u8)))],
  [.n, .n, .n, .n, .n]⟩
/- exchangepoint/ether.Parse -/
noncomputable def hh19 : Hints := ⟨[], [(2, .r 2), (4, .r 4), (33, .r 4)], [], [19, 25, 36], []⟩
noncomputable def vf19 : VF := vfOf Try.prog hh19 [0, 2, 3, 4, 5, 6, 7, 10, 12, 13, 38] [] Try.f19
noncomputable def fi19 : FI := ⟨[(0, .d .str), (2, .reg (.st t4)), (3, .d (.int .i64)), (4, .reg (.st t4)), (8, .d .str), (9, .d (.int .i64)), (10, .d .bool), (11, .d (.st t4)), (12, .d (.int .i64)), (13, .d .bool), (14, .d (.int .i64)), (5, .d (.int .i64)), (15, .d .str), (16, .d (.int .i64)), (17, .d (.int .i64)), (18, .d (.int .u8)), (19, .d (.int .i64)), (6, .d (.int .i64)), (20, .d .str), (21, .d (.int .i64)), (22, .d (.int .i64)), (23, .d (.int .i64)), (24, .d (.int .u8)), (25, .d (.int .i64)), (7, .d (.int .i64)), (26, .d (.int .i64)), (27, .d (.int .i64)), (28, .d (.int .i64)), (29, .d (.int .i64)), (30, .d (.int .i64)), (31, .d (.int .i64)), (32, .d (.int .u8)), (33, .rx 4 0 6 (.int .u8)), (34, .d (.int .i64)), (35, .d (.st t4)), (36, .d .str), (37, .d .str), (38, .d .bool), (39, .d (.st t4)), (40, .d (.st t4))],
  [.n, .j [0, 2, 4], .l [0, 2, 4, 12] none, .n, .n, .n]⟩
/- exchangepoint/exchangepointref04.Parse -/
noncomputable def hh20 : Hints := ⟨[], [(2, .r 2), (4, .r 4), (51, .r 4)], [], [19, 25], []⟩
noncomputable def vf20 : VF := vfOf Try.prog hh20 [0, 2, 3, 4, 5, 6, 7, 10, 12, 13, 43] [] Try.f20
noncomputable def fi20 : FI := ⟨[(0, .d .str), (2, .reg (.st t4)), (3, .d (.int .i64)), (8, .d .str), (9, .d (.int .i64)), (10, .d .bool), (11, .d (.st t4)), (4, .reg (.st t4)), (12, .d (.int .i64)), (13, .d .bool), (14, .d (.int .i64)), (5, .d (.int .i64)), (15, .d .str), (16, .d (.int .i64)), (17, .d (.int .i64)), (18, .d (.int .u8)), (19, .d (.int .i64)), (20, .d .str), (21, .d (.int .i64)), (22, .d (.int .i64)), (23, .d (.int .i64)), (24, .d (.int .u8)), (25, .d (.int .i64)), (6, .d (.int .i64)), (7, .d (.int .i64)), (26, .d (.int .i64)), (27, .d .bool), (28, .d .bool), (29, .d (.int .i64)), (30, .d .bool), (31, .d .bool), (32, .d .bool), (33, .d (.int .i64)), (34, .d .bool), (35, .d .bool), (36, .d .str), (37, .d (.int .i64)), (38, .d (.int .i64)), (39, .d (.int .i64)), (40, .d (.int .u8)), (41, .d .bool), (42, .d .bool), (43, .d .bool), (44, .d (.st t4)), (45, .d (.int .i64)), (46, .d (.int .i64)), (47, .d (.int .i64)), (48, .d (.int .i64)), (49, .d (.int .i64)), (50, .d (.int .u8)), (51, .rx 4 0 6 (.int .u8)), (52, .d (.int .i64)), (53, .d (.st t4))],
  [.n, .j [2, 4], .l [0, 2, 4, 12] none, .n, .n, .n]⟩
/- exchangepoint/ether.Solicited -/
noncomputable def hh21 : Hints := ⟨[], [(2, .r 2), (3, .r 1), (7, .r 1), (11, .r 1), (15, .r 1)], [], [], []⟩
noncomputable def vf21 : VF := vfOf Try.prog hh21 [0, 1, 2, 5] [] Try.f21
noncomputable def fi21 : FI := ⟨[(0, .d t6), (1, .reg t6), (2, .reg (.st t4)), (3, .rp 1 0), (4, .d .bool), (5, .d .bool), (6, .d (.st t4)), (7, .rp 1 2), (8, .d (.int .u64)), (9, .d (.int .u64)), (10, .d (.int .u8)), (11, .rp 1 2), (12, .d (.int .u64)), (13, .d (.int .u64)), (14, .d (.int .u8)), (15, .rp 1 2), (16, .d (.int .u64)), (17, .d (.int .u8)), (18, .d (.st t4))],
  [.n]⟩
/- exchangepoint/exchangepointref04.Solicited -/
noncomputable def hh22 : Hints := ⟨[], [(2, .r 2), (3, .r 1), (7, .r 1), (11, .r 1), (15, .r 1)], [], [], []⟩
noncomputable def vf22 : VF := vfOf Try.prog hh22 [0, 1, 2, 5] [] Try.f22
noncomputable def fi22 : FI := ⟨[(0, .d t6), (1, .reg t6), (2, .reg (.st t4)), (3, .rp 1 0), (4, .d .bool), (5, .d .bool), (6, .d (.st t4)), (7, .rp 1 2), (8, .d (.int .u64)), (9, .d (.int .u64)), (10, .d (.int .u8)), (11, .rp 1 2), (12, .d (.int .u64)), (13, .d (.int .u64)), (14, .d (.int .u8)), (15, .rp 1 2), (16, .d (.int .u64)), (17, .d (.int .u8)), (18, .d (.st t4))],
  [.n]⟩
/- exchangepoint/exchangepointmake.MAC -/
noncomputable def hh23 : Hints := ⟨[], [(2, .r 2)], [], [], []⟩
noncomputable def vf23 : VF := vfOf Try.prog hh23 [0, 2] [] Try.f23
noncomputable def fi23 : FI := ⟨[(0, .d (.int .i64)), (2, .reg (.st t4)), (3, .d (.int .i64)), (4, .d (.int .i64)), (5, .d (.int .u8)), (6, .d (.int .i64)), (7, .d (.int .i64)), (8, .d (.int .u8)), (9, .d (.int .i64)), (10, .d (.int .i64)), (11, .d (.int .u8)), (12, .d (.int .i64)), (13, .d (.int .u8)), (14, .d (.st t4))],
  []⟩
/- exchangepoint/exchangepointmake.Short -/
noncomputable def hh24 : Hints := ⟨[], [], [], [], []⟩
noncomputable def vf24 : VF := vfOf Try.prog hh24 [0, 2] [] Try.f24
noncomputable def fi24 : FI := ⟨[(0, .d (.sl (.int .u8))), (2, .d .bool), (3, .d (.sl (.int .u8))), (4, .d (.int .i64)), (5, .d .bool)],
  []⟩
/- exchangepoint/exchangepointlaw04.frame -/
noncomputable def hh25 : Hints := ⟨[], [(2, .r 2), (13, .e []), (3, .r 3), (24, .e []), (26, .r 3), (34, .r 3)], [], [6, 9], [(5, [3]), (6, [3]), (8, [3]), (9, [3]), (12, [3]), (14, [3]), (16, [3])]⟩
noncomputable def vf25 : VF := vfOf Try.prog hh25 [0, 2, 3, 20, 29] [] Try.f25
noncomputable def fi25 : FI := ⟨[(0, .ptr 200000 0), (200000, .box (.st t11)), (2, .reg (.st t10)), (4, .ptr 200000 0), (5, .d (.int .i64)), (6, .d (.st t4)), (7, .ptr 200000 0), (8, .d (.int .i64)), (9, .d (.st t4)), (10, .d (.sl (.int .i64))), (11, .ptr 200000 0), (12, .d (.int .i64)), (13, .ep (.int .i64) 0 (some (10, none))), (14, .d (.int .i64)), (15, .ptr 200000 0), (16, .d (.sl (.int .u8))), (17, .d (.st t10)), (3, .reg (.st t10)), (18, .ptr 200000 0), (19, .d (.int .i64)), (20, .d .bool), (21, .d (.sl (.int .i64))), (22, .ptr 200000 0), (23, .d (.int .i64)), (24, .ep (.int .i64) 0 (some (21, none))), (25, .d (.int .i64)), (26, .rp 3 12), (27, .ptr 200000 0), (28, .d (.int .i64)), (29, .d .bool), (30, .ptr 200000 0), (31, .d (.int .i64)), (32, .d (.int .i64)), (33, .d (.sl (.int .u8))), (34, .rp 3 14), (35, .d (.st t10))],
  [.j [2, 3, 200000], .j [2, 3, 200000]]⟩
/- exchangepoint/exchangepointmake.New -/
noncomputable def hh26 : Hints := ⟨[5], [], [], [], []⟩
noncomputable def vf26 : VF := vfOf Try.prog hh26 [0, 2] [] Try.f26
noncomputable def fi26 : FI := ⟨[(0, .d (.sl (.int .i64))), (3, .d (.sl (.int .i64))), (4, .d (.st t11)), (5, .ptr 100005 0), (100005, .box (.st t11)), (2, .ptr 100005 0)],
  []⟩
/- exchangepoint/ether.Encode -/
noncomputable def hh27 : Hints := ⟨[], [(1, .r 1), (9, .r 1), (13, .r 1), (16, .r 1), (21, .r 1), (25, .r 1), (28, .r 1)], [], [6, 20, 23, 27], []⟩
noncomputable def vf27 : VF := vfOf Try.prog hh27 [0, 1, 2, 3, 4, 7, 18] [] Try.f27
noncomputable def fi27 : FI := ⟨[(0, .d (.st t10)), (1, .reg (.st t10)), (2, .d (.sl (.int .u8))), (3, .d (.int .i64)), (5, .d (.st t10)), (6, .d .bool), (7, .d .bool), (4, .d (.sl (.int .u8))), (8, .d (.sl (.int .u8))), (9, .rp 1 0), (10, .d (.sl (.int .u8))), (11, .d (.sl (.int .u8))), (12, .d (.sl (.int .u8))), (13, .rp 1 6), (14, .d (.sl (.int .u8))), (15, .d (.sl (.int .u8))), (16, .rp 1 12), (17, .d (.int .i64)), (18, .d .bool), (19, .d (.sl (.int .u8))), (20, .d (.sl (.int .u8))), (21, .rp 1 12), (22, .d (.int .i64)), (23, .d (.sl (.int .u8))), (24, .d (.sl (.int .u8))), (25, .rp 1 13), (26, .d (.int .i64)), (27, .d (.sl (.int .u8))), (28, .rp 1 14), (29, .d (.sl (.int .u8))), (30, .d (.sl (.int .u8)))],
  [.n, .j [1, 4]]⟩
/- exchangepoint/exchangepointref04.Encode -/
noncomputable def hh28 : Hints := ⟨[], [(1, .r 1), (8, .r 1), (11, .r 1), (14, .r 1), (18, .r 1), (22, .r 1), (28, .r 1), (32, .r 1), (37, .r 1)], [], [6], []⟩
noncomputable def vf28 : VF := vfOf Try.prog hh28 [0, 1, 2, 3, 4, 7, 16] [] Try.f28
noncomputable def fi28 : FI := ⟨[(0, .d (.st t10)), (1, .reg (.st t10)), (2, .d (.sl (.int .u8))), (3, .d (.int .i64)), (5, .d (.st t10)), (6, .d .bool), (7, .d .bool), (8, .rp 1 0), (9, .d (.sl (.int .u8))), (10, .d (.sl (.int .u8))), (11, .rp 1 6), (12, .d (.sl (.int .u8))), (13, .d (.sl (.int .u8))), (4, .d (.sl (.int .u8))), (14, .rp 1 12), (15, .d (.int .i64)), (16, .d .bool), (17, .d (.sl (.int .u8))), (18, .rp 1 12), (19, .d (.int .i64)), (20, .d (.int .i64)), (21, .d (.int .u8)), (22, .rp 1 12), (23, .d (.int .i64)), (24, .d (.int .u8)), (25, .d (.sl (.int .u8))), (26, .d (.sl (.int .u8))), (27, .d (.sl (.int .u8))), (28, .rp 1 13), (29, .d (.int .i64)), (30, .d (.int .i64)), (31, .d (.int .u8)), (32, .rp 1 13), (33, .d (.int .i64)), (34, .d (.int .u8)), (35, .d (.sl (.int .u8))), (36, .d (.sl (.int .u8))), (37, .rp 1 14), (38, .d (.sl (.int .u8))), (39, .d (.sl (.int .u8)))],
  [.n, .j [1, 4]]⟩
/- exchangepoint/ether.Valid -/
noncomputable def hh29 : Hints := ⟨[], [(3, .r 1), (7, .r 1), (12, .r 1), (17, .r 1), (22, .r 1), (27, .r 1)], [], [], []⟩
noncomputable def vf29 : VF := vfOf Try.prog hh29 [0, 1, 2] [] Try.f29
noncomputable def fi29 : FI := ⟨[(0, .d (.st t10)), (1, .reg (.st t10)), (2, .d .bool), (3, .rp 1 12), (4, .d (.int .i64)), (5, .d .bool), (6, .d .bool), (7, .rp 1 12), (8, .d (.int .i64)), (9, .d .bool), (10, .d .bool), (11, .d .bool), (12, .rp 1 13), (13, .d (.int .i64)), (14, .d .bool), (15, .d .bool), (16, .d .bool), (17, .rp 1 13), (18, .d (.int .i64)), (19, .d .bool), (20, .d .bool), (21, .d .bool), (22, .rp 1 13), (23, .d (.int .i64)), (24, .d .bool), (25, .d .bool), (26, .d .bool), (27, .rp 1 14), (28, .d (.sl (.int .u8))), (29, .d (.int .i64)), (30, .d .bool), (31, .d .bool)],
  []⟩
/- exchangepoint/exchangepointref04.Valid -/
noncomputable def hh30 : Hints := ⟨[], [(3, .r 1), (7, .r 1), (12, .r 1), (17, .r 1), (22, .r 1), (27, .r 1)], [], [], []⟩
noncomputable def vf30 : VF := vfOf Try.prog hh30 [0, 1, 2] [] Try.f30
noncomputable def fi30 : FI := ⟨[(0, .d (.st t10)), (1, .reg (.st t10)), (2, .d .bool), (3, .rp 1 12), (4, .d (.int .i64)), (5, .d .bool), (6, .d .bool), (7, .rp 1 12), (8, .d (.int .i64)), (9, .d .bool), (10, .d .bool), (11, .d .bool), (12, .rp 1 13), (13, .d (.int .i64)), (14, .d .bool), (15, .d .bool), (16, .d .bool), (17, .rp 1 13), (18, .d (.int .i64)), (19, .d .bool), (20, .d .bool), (21, .d .bool), (22, .rp 1 13), (23, .d (.int .i64)), (24, .d .bool), (25, .d .bool), (26, .d .bool), (27, .rp 1 14), (28, .d (.sl (.int .u8))), (29, .d (.int .i64)), (30, .d .bool), (31, .d .bool)],
  []⟩
/- exchangepoint/ether.Decode -/
noncomputable def hh31 : Hints := ⟨[], [(2, .r 2), (12, .e []), (16, .e []), (4, .r 4), (32, .r 4), (35, .r 4), (39, .r 4), (46, .r 4), (48, .r 4), (52, .r 4), (63, .r 4), (68, .r 4)], [], [22, 30, 45], [(13, [4]), (17, [4])]⟩
noncomputable def vf31 : VF := vfOf Try.prog hh31 [0, 2, 3, 4, 5, 8, 23, 26, 42, 47, 57] [] Try.f31
noncomputable def fi31 : FI := ⟨[(0, .d (.sl (.int .u8))), (2, .reg (.st t10)), (3, .d (.int .i64)), (6, .d (.sl (.int .u8))), (7, .d (.int .i64)), (8, .d .bool), (9, .d (.st t10)), (10, .d (.sl (.int .u8))), (11, .d (.sl (.int .u8))), (12, .vp (.st t4) 0), (13, .d (.st t4)), (14, .d (.sl (.int .u8))), (15, .d (.sl (.int .u8))), (16, .vp (.st t4) 0), (17, .d (.st t4)), (18, .d (.st t10)), (4, .reg (.st t10)), (19, .d (.sl (.int .u8))), (20, .d (.sl (.int .u8))), (5, .d (.sl (.int .u8))), (21, .d (.sl (.int .u8))), (22, .d (.int .i64)), (23, .d .bool), (24, .d (.sl (.int .u8))), (25, .d (.int .i64)), (26, .d .bool), (27, .d (.st t10)), (28, .d (.sl (.int .u8))), (29, .d (.sl (.int .u8))), (30, .d (.int .i64)), (31, .d (.int .i64)), (32, .rp 4 12), (33, .d (.sl (.int .u8))), (34, .d (.sl (.int .u8))), (35, .rp 4 12), (36, .d (.int .i64)), (37, .d .bool), (38, .d .bool), (39, .rp 4 12), (40, .d (.int .i64)), (41, .d .bool), (42, .d .bool), (43, .d (.st t10)), (44, .d (.sl (.int .u8))), (45, .d (.int .i64)), (46, .rp 4 13), (48, .rp 4 13), (49, .d (.int .i64)), (50, .d .bool), (51, .d .bool), (52, .rp 4 13), (53, .d (.int .i64)), (54, .d .bool), (55, .d .bool), (47, .d .bool), (56, .d (.st t10)), (58, .d (.sl (.int .u8))), (59, .d (.int .i64)), (60, .d (.int .i64)), (61, .d .bool), (57, .d .bool), (62, .d (.st t10)), (63, .rp 4 14), (64, .d (.sl (.int .u8))), (65, .d (.sl (.int .u8))), (66, .d (.sl (.int .u8))), (67, .d (.sl (.int .u8))), (68, .rp 4 14), (69, .d (.st t10))],
  [.n, .j [2, 4, 5], .n, .n, .n, .n, .n]⟩
/- exchangepoint/exchangepointref04.Decode -/
noncomputable def hh32 : Hints := ⟨[], [(2, .r 2), (12, .e []), (16, .e []), (4, .r 4), (22, .e []), (27, .e []), (36, .e []), (42, .e []), (46, .r 4), (47, .r 4), (51, .r 4), (59, .e []), (64, .e []), (68, .r 4), (72, .r 4), (74, .r 4), (78, .r 4), (84, .r 4)], [], [], [(13, [4]), (17, [4])]⟩
noncomputable def vf32 : VF := vfOf Try.prog hh32 [0, 2, 3, 4, 5, 8, 30, 33, 54, 73, 83] [] Try.f32
noncomputable def fi32 : FI := ⟨[(0, .d (.sl (.int .u8))), (2, .reg (.st t10)), (3, .d (.int .i64)), (6, .d (.sl (.int .u8))), (7, .d (.int .i64)), (8, .d .bool), (9, .d (.st t10)), (10, .d (.sl (.int .u8))), (11, .d (.sl (.int .u8))), (12, .vp (.st t4) 0), (13, .d (.st t4)), (14, .d (.sl (.int .u8))), (15, .d (.sl (.int .u8))), (16, .vp (.st t4) 0), (17, .d (.st t4)), (18, .d (.st t10)), (4, .reg (.st t10)), (19, .d (.sl (.int .u8))), (20, .d (.sl (.int .u8))), (5, .d (.sl (.int .u8))), (21, .d (.sl (.int .u8))), (22, .ep (.int .u8) 0 (some (5, none))), (23, .d (.int .u8)), (24, .d .bool), (25, .d .bool), (26, .d (.sl (.int .u8))), (27, .ep (.int .u8) 0 (some (5, none))), (28, .d (.int .u8)), (29, .d .bool), (30, .d .bool), (31, .d (.sl (.int .u8))), (32, .d (.int .i64)), (33, .d .bool), (34, .d (.st t10)), (35, .d (.sl (.int .u8))), (36, .ep (.int .u8) 0 (some (5, none))), (37, .d (.int .u8)), (38, .d (.int .u8)), (39, .d (.int .i64)), (40, .d (.int .i64)), (41, .d (.sl (.int .u8))), (42, .ep (.int .u8) 0 (some (5, none))), (43, .d (.int .u8)), (44, .d (.int .i64)), (45, .d (.int .i64)), (46, .rp 4 12), (47, .rp 4 12), (48, .d (.int .i64)), (49, .d .bool), (50, .d .bool), (51, .rp 4 12), (52, .d (.int .i64)), (53, .d .bool), (54, .d .bool), (55, .d (.st t10)), (56, .d (.sl (.int .u8))), (57, .d (.sl (.int .u8))), (58, .d (.sl (.int .u8))), (59, .ep (.int .u8) 0 (some (5, none))), (60, .d (.int .u8)), (61, .d (.int .i64)), (62, .d (.int .i64)), (63, .d (.sl (.int .u8))), (64, .ep (.int .u8) 0 (some (5, none))), (65, .d (.int .u8)), (66, .d (.int .i64)), (67, .d (.int .i64)), (68, .rp 4 13), (69, .d (.sl (.int .u8))), (70, .d (.sl (.int .u8))), (71, .d (.sl (.int .u8))), (72, .rp 4 14), (74, .rp 4 13), (75, .d (.int .i64)), (76, .d .bool), (77, .d .bool), (78, .rp 4 13), (79, .d (.int .i64)), (80, .d .bool), (81, .d .bool), (73, .d .bool), (82, .d (.st t10)), (84, .rp 4 14), (85, .d (.sl (.int .u8))), (86, .d (.int .i64)), (87, .d .bool), (83, .d .bool), (88, .d (.st t10)), (89, .d (.st t10))],
  [.n, .j [2, 4, 5], .n, .n, .n, .n, .n]⟩
/- exchangepoint/exchangepointref04.Same -/
noncomputable def hh33 : Hints := ⟨[], [(5, .r 2), (7, .r 3), (11, .r 2), (13, .r 3), (18, .r 2), (20, .r 3), (25, .r 2), (27, .r 3), (32, .r 2), (35, .r 3)], [], [], []⟩
noncomputable def vf33 : VF := vfOf Try.prog hh33 [0, 1, 2, 3, 4] [] Try.f33
noncomputable def fi33 : FI := ⟨[(0, .d (.st t10)), (1, .d (.st t10)), (2, .reg (.st t10)), (3, .reg (.st t10)), (4, .d .bool), (5, .rp 2 0), (6, .d (.st t4)), (7, .rp 3 0), (8, .d (.st t4)), (9, .d .bool), (10, .d .bool), (11, .rp 2 6), (12, .d (.st t4)), (13, .rp 3 6), (14, .d (.st t4)), (15, .d .bool), (16, .d .bool), (17, .d .bool), (18, .rp 2 12), (19, .d (.int .i64)), (20, .rp 3 12), (21, .d (.int .i64)), (22, .d .bool), (23, .d .bool), (24, .d .bool), (25, .rp 2 13), (26, .d (.int .i64)), (27, .rp 3 13), (28, .d (.int .i64)), (29, .d .bool), (30, .d .bool), (31, .d .bool), (32, .rp 2 14), (33, .d (.sl (.int .u8))), (34, .d .str), (35, .rp 3 14), (36, .d (.sl (.int .u8))), (37, .d .str), (38, .d .bool), (39, .d .bool)],
  []⟩
/- exchangepoint/exchangepointref04.digit -/
noncomputable def hh36 : Hints := ⟨[], [], [], [], []⟩
noncomputable def vf36 : VF := vfOf Try.prog hh36 [0, 2, 3, 13] [] Try.f36
noncomputable def fi36 : FI := ⟨[(0, .d (.int .u8)), (2, .d (.int .i64)), (4, .d (.int .u8)), (5, .d .bool), (6, .d .bool), (7, .d (.int .u8)), (8, .d .bool), (9, .d .bool), (3, .d .bool), (10, .d (.int .u8)), (11, .d (.int .u8)), (12, .d (.int .i64)), (14, .d (.int .u8)), (15, .d .bool), (16, .d .bool), (17, .d (.int .u8)), (18, .d .bool), (19, .d .bool), (13, .d .bool), (20, .d (.int .u8)), (21, .d (.int .u8)), (22, .d (.int .i64)), (23, .d (.int .i64))],
  [.n, .n, .n]⟩
/- (*exchangepoint/exchangepointmake.Deck).Next -/
noncomputable def hh37 : Hints := ⟨[], [(31, .e [])], [], [34], []⟩
noncomputable def vf37 : VF := vfOf Try.prog hh37 [0, 1, 4, 14] [] Try.f37
noncomputable def fi37 : FI := ⟨[(0, .ptr 200000 0), (200000, .box (.st t11)), (1, .d (.int .i64)), (4, .d (.int .i64)), (5, .ptr 200000 0), (6, .ptr 200000 0), (7, .ptr 200000 1), (8, .d (.int .i64)), (9, .ptr 200000 0), (10, .ptr 200000 0), (11, .ptr 200000 0), (12, .d (.sl (.int .i64))), (13, .d (.int .i64)), (14, .d .bool), (15, .ptr 200000 0), (16, .ptr 200000 0), (17, .ptr 200000 1), (18, .d (.int .i64)), (19, .d (.int .i64)), (20, .ptr 200000 0), (21, .ptr 200000 1), (22, .ptr 200000 0), (23, .ptr 200000 0), (24, .ptr 200000 0), (25, .d (.sl (.int .i64))), (26, .ptr 200000 0), (27, .ptr 200000 0), (28, .ptr 200000 1), (29, .d (.int .i64)), (30, .d (.int .i64)), (31, .ep (.int .i64) 0 (some (25, none))), (32, .d (.int .i64)), (33, .d (.int .i64)), (34, .d (.int .i64))],
  [.n]⟩
/- (*exchangepoint/exchangepointmake.Deck).Bytes -/
noncomputable def hh38 : Hints := ⟨[], [], [], [], []⟩
noncomputable def vf38 : VF := vfOf Try.prog hh38 [0, 1, 4, 5, 6, 12] [] Try.f38
noncomputable def fi38 : FI := ⟨[(0, .ptr 200000 0), (200000, .box (.st t11)), (1, .d (.int .i64)), (4, .d (.sl (.int .u8))), (5, .d (.sl (.int .u8))), (7, .ptr 200000 0), (8, .d (.int .i64)), (9, .d (.int .i64)), (10, .d (.int .i64)), (6, .d (.int .i64)), (11, .d (.int .i64)), (12, .d .bool), (15, .d (.sl (.int .u8))), (16, .ptr 200000 0), (17, .d (.int .i64)), (18, .d (.int .u8)), (19, .d (.sl (.int .u8))), (20, .d (.sl (.int .u8))), (13, .d (.int .i64)), (14, .d (.int .i64)), (21, .d (.sl (.int .u8)))],
  [.j [5, 200000], .l [5, 6, 200000] (some [(6, ⟨[], none⟩), (5, ⟨[(0, ⟨[1344], true, true, true, true, none⟩)], none⟩), (0, ⟨[], none⟩), (200000, ⟨[], none⟩)]), .n, .n]⟩
/- exchangepoint/ether.put -/
noncomputable def hh39 : Hints := ⟨[], [], [], [], []⟩
noncomputable def vf39 : VF := vfOf Try.prog hh39 [0, 1, 4] [0] Try.f39
noncomputable def fi39 : FI := ⟨[(0, .d (.sl (.int .u8))), (1, .d (.int .i64)), (4, .d (.sl (.int .u8))), (5, .d (.sl (.int .u8))), (6, .d (.int .i64)), (7, .d (.int .i64)), (8, .d (.int .u8)), (9, .d (.int .i64)), (10, .d (.int .u8)), (11, .d (.sl (.int .u8))), (12, .d (.sl (.int .u8)))],
  []⟩
/- exchangepoint/ether.get -/
noncomputable def hh40 : Hints := ⟨[], [(4, .e []), (9, .e [])], [], [], []⟩
noncomputable def vf40 : VF := vfOf Try.prog hh40 [0, 2] [] Try.f40
noncomputable def fi40 : FI := ⟨[(0, .d (.sl (.int .u8))), (2, .d (.int .i64)), (3, .d (.sl (.int .u8))), (4, .ep (.int .u8) 0 (some (0, none))), (5, .d (.int .u8)), (6, .d (.int .i64)), (7, .d (.int .i64)), (8, .d (.sl (.int .u8))), (9, .ep (.int .u8) 0 (some (0, none))), (10, .d (.int .u8)), (11, .d (.int .i64)), (12, .d (.int .i64))],
  []⟩
noncomputable def FT : Nat → Option Entry
  | 3 => some (.code vf3)
  | 4 => some (.code vf4)
  | 5 => some (.code vf5)
  | 6 => some (.code vf6)
  | 7 => some (.code vf7)
  | 8 => some (.code vf8)
  | 9 => some (.code vf9)
  | 10 => some (.code vf10)
  | 11 => some (.code vf11)
  | 12 => some (.code vf12)
  | 13 => some (.code vf13)
  | 14 => some (.code vf14)
  | 15 => some (.code vf15)
  | 16 => some (.code vf16)
  | 17 => some (.code vf17)
  | 18 => some (.code vf18)
  | 19 => some (.code vf19)
  | 20 => some (.code vf20)
  | 21 => some (.code vf21)
  | 22 => some (.code vf22)
  | 23 => some (.code vf23)
  | 24 => some (.code vf24)
  | 25 => some (.code vf25)
  | 26 => some (.code vf26)
  | 27 => some (.code vf27)
  | 28 => some (.code vf28)
  | 29 => some (.code vf29)
  | 30 => some (.code vf30)
  | 31 => some (.code vf31)
  | 32 => some (.code vf32)
  | 33 => some (.code vf33)
  | 36 => some (.code vf36)
  | 37 => some (.code vf37)
  | 38 => some (.code vf38)
  | 39 => some (.code vf39)
  | 40 => some (.code vf40)
  | 34 => some (.prim [] pJoin)
  | 35 => some (.prim [] pIndexByte)
  | _ => none
noncomputable def sgN : Nat → Sg
  | 34 => ⟨[.d (.sl .str), .d .str], [(.str, [])], none⟩
  | 35 => ⟨[.d .str, .d (.int .u8)], [(.int .i64, [])], none⟩
  | 3 => ⟨[.d (.st t4), .d .str, .d t6, .d (.int .i64), .d (.int .i64)], [(.bool, [])], none⟩
  | 4 => ⟨[.d t6, .d t6, .d (.int .i64), .d (.int .u8)], [(.bool, [])], none⟩
  | 5 => ⟨[.d (.st t10), .d (.sl (.int .u8)), .d (.sl (.int .i64)), .d (.int .i64), .d (.int .i64)], [(.bool, [])], none⟩
  | 6 => ⟨[.d (.st t4), .d (.sl (.int .u8)), .d (.sl (.int .i64)), .d (.int .i64), .d (.int .i64)], [(.bool, [])], none⟩
  | 7 => ⟨[.d (.sl (.int .i64)), .d (.int .i64)], [(.bool, [])], none⟩
  | 8 => ⟨[], [(.bool, [])], none⟩
  | 9 => ⟨[.d (.int .i64), .d (.int .i64)], [(.int .i64, [])], none⟩
  | 10 => ⟨[.d (.st t4)], [(.str, [])], none⟩
  | 11 => ⟨[.d (.st t4)], [(.str, [])], none⟩
  | 12 => ⟨[.d (.st t4)], [(.bool, [])], none⟩
  | 13 => ⟨[.d (.st t4)], [(.bool, [])], none⟩
  | 14 => ⟨[.d (.st t4)], [(.bool, [])], none⟩
  | 15 => ⟨[.d (.st t4)], [(.bool, [])], none⟩
  | 16 => ⟨[], [(.st t4, [])], none⟩
  | 17 => ⟨[], [(.st t4, [])], none⟩
  | 18 => ⟨[.d (.sl (.int .u8)), .d (.int .i64), .d (.int .i64)], [(.sl (.int .u8), [])], none⟩
  | 19 => ⟨[.d .str], [(.st t4, []), (.int .i64, [])], none⟩
  | 20 => ⟨[.d .str], [(.st t4, []), (.int .i64, [])], none⟩
  | 21 => ⟨[.d t6], [(.st t4, [])], none⟩
  | 22 => ⟨[.d t6], [(.st t4, [])], none⟩
  | 23 => ⟨[.d (.int .i64)], [(.st t4, [])], none⟩
  | 24 => ⟨[.d (.sl (.int .u8))], [(.bool, [])], none⟩
  | 25 => ⟨[.p (.st t11)], [(.st t10, [(14, true)])], none⟩
  | 26 => ⟨[.d (.sl (.int .i64))], [], some (.st t11)⟩
  | 27 => ⟨[.d (.st t10)], [(.sl (.int .u8), [(0, false)]), (.int .i64, [])], none⟩
  | 28 => ⟨[.d (.st t10)], [(.sl (.int .u8), [(0, true)]), (.int .i64, [])], none⟩
  | 29 => ⟨[.d (.st t10)], [(.bool, [])], none⟩
  | 30 => ⟨[.d (.st t10)], [(.bool, [])], none⟩
  | 31 => ⟨[.d (.sl (.int .u8))], [(.st t10, [(14, true)]), (.int .i64, [])], none⟩
  | 32 => ⟨[.d (.sl (.int .u8))], [(.st t10, [(14, true)]), (.int .i64, [])], none⟩
  | 33 => ⟨[.d (.st t10), .d (.st t10)], [(.bool, [])], none⟩
  | 36 => ⟨[.d (.int .u8)], [(.int .i64, [])], none⟩
  | 37 => ⟨[.p (.st t11), .d (.int .i64)], [(.int .i64, [])], none⟩
  | 38 => ⟨[.p (.st t11), .d (.int .i64)], [(.sl (.int .u8), [(0, true)])], none⟩
  | 39 => ⟨[.d (.sl (.int .u8)), .d (.int .i64)], [(.sl (.int .u8), [(0, false)])], none⟩
  | 40 => ⟨[.d (.sl (.int .u8))], [(.int .i64, [])], none⟩
  | _ => ⟨[], [], none⟩
noncomputable def vsN : Nat → Sig
  | 3 => ⟨[], true⟩
  | 4 => ⟨[], true⟩
  | 5 => ⟨[], false⟩
  | 6 => ⟨[], false⟩
  | 7 => ⟨[], false⟩
  | 8 => ⟨[], true⟩
  | 9 => ⟨[], true⟩
  | 10 => ⟨[], true⟩
  | 11 => ⟨[], true⟩
  | 12 => ⟨[], true⟩
  | 13 => ⟨[], true⟩
  | 14 => ⟨[], true⟩
  | 15 => ⟨[], true⟩
  | 16 => ⟨[], true⟩
  | 17 => ⟨[], true⟩
  | 18 => ⟨[], true⟩
  | 19 => ⟨[], true⟩
  | 20 => ⟨[], true⟩
  | 21 => ⟨[], true⟩
  | 22 => ⟨[], true⟩
  | 23 => ⟨[], true⟩
  | 24 => ⟨[], true⟩
  | 25 => ⟨[], false⟩
  | 26 => ⟨[], true⟩
  | 27 => ⟨[], true⟩
  | 28 => ⟨[], true⟩
  | 29 => ⟨[], true⟩
  | 30 => ⟨[], true⟩
  | 31 => ⟨[], true⟩
  | 32 => ⟨[], true⟩
  | 33 => ⟨[], true⟩
  | 36 => ⟨[], true⟩
  | 37 => ⟨[], false⟩
  | 38 => ⟨[], false⟩
  | 39 => ⟨[0], true⟩
  | 40 => ⟨[], true⟩
  | 34 => ⟨[], true⟩
  | 35 => ⟨[], true⟩
  | _ => ⟨[], false⟩
noncomputable def TN : (f : Nat) → NE (sgN f)
  | 3 => .code fi3 vf3
  | 4 => .code fi4 vf4
  | 5 => .code fi5 vf5
  | 6 => .code fi6 vf6
  | 7 => .code fi7 vf7
  | 8 => .code fi8 vf8
  | 9 => .code fi9 vf9
  | 10 => .code fi10 vf10
  | 11 => .code fi11 vf11
  | 12 => .code fi12 vf12
  | 13 => .code fi13 vf13
  | 14 => .code fi14 vf14
  | 15 => .code fi15 vf15
  | 16 => .code fi16 vf16
  | 17 => .code fi17 vf17
  | 18 => .code fi18 vf18
  | 19 => .code fi19 vf19
  | 20 => .code fi20 vf20
  | 21 => .code fi21 vf21
  | 22 => .code fi22 vf22
  | 23 => .code fi23 vf23
  | 24 => .code fi24 vf24
  | 25 => .code fi25 vf25
  | 26 => .code fi26 vf26
  | 27 => .code fi27 vf27
  | 28 => .code fi28 vf28
  | 29 => .code fi29 vf29
  | 30 => .code fi30 vf30
  | 31 => .code fi31 vf31
  | 32 => .code fi32 vf32
  | 33 => .code fi33 vf33
  | 36 => .code fi36 vf36
  | 37 => .code fi37 vf37
  | 38 => .code fi38 vf38
  | 39 => .code fi39 vf39
  | 40 => .code fi40 vf40
  | 34 => .prim qJoin
  | 35 => .prim qIndexByte
  | _ => .no
end Go.Proofs.Ytndaipcfahfkkaa
