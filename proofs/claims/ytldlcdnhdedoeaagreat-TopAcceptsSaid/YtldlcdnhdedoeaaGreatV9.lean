/- Part 10 of what follows is proved here: the layer over the walk. -/
import Derived.Test.YtldlcdnhdedoeaaGreatV8
import Derived.Test.YtldlcdnhdedoeaaGreatProg
import Derived.Test.YtldlcdnhdedoeaaGreatV1
import Derived.KernelRfl
set_option linter.unusedVariables false
set_option linter.unusedSimpArgs false
set_option maxRecDepth 100000
/- The seat's types, as the V layer wants them; each line is checked against the program by the kernel. -/
namespace Go.Proofs.YtldlcdnhdedoeaaGreat
open Go Go.VC

def tl:List (Nat×TI):=[(1,⟨.other,1,8,[.d .nilfn],false⟩),
  (2,⟨.int .i64,1,8,[.d (.int .i64 0)],false⟩),
  (3,⟨.int .i64,1,8,[.d (.int .i64 0)],false⟩),
  (4,⟨.bool,1,1,[.d (.bool false)],false⟩),
  (5,⟨.int .u8,1,1,[.d (.int .u8 0)],false⟩),
  (9,⟨.str,1,16,[.d (.str ⟨#[]⟩)],false⟩),
  (12,⟨.int .u64,1,8,[.d (.int .u64 0)],false⟩),
  (21,⟨.int .i32,1,4,[.d (.int .i32 0)],false⟩),
  (22,⟨.slice 57,1,24,[.nil],false⟩),
  (23,⟨.slice 90,1,24,[.nil],false⟩),
  (24,⟨.struct [(0,22),(1,23)],2,48,[.nil,.nil],false⟩),
  (25,⟨.struct [(0,22),(1,23)],2,48,[.nil,.nil],false⟩),
  (26,⟨.other,1,8,[.d .nilfn],false⟩),
  (27,⟨.other,1,8,[.d .nilfn],false⟩),
  (28,⟨.slice 179,1,24,[.nil],false⟩),
  (29,⟨.struct [(0,3),(1,28)],2,32,[.d (.int .i64 0),.nil],false⟩),
  (30,⟨.struct [(0,3),(1,28)],2,32,[.d (.int .i64 0),.nil],false⟩),
  (31,⟨.slice 55,1,24,[.nil],false⟩),
  (32,⟨.slice 51,1,24,[.nil],false⟩),
  (33,⟨.slice 95,1,24,[.nil],false⟩),
  (34,⟨.struct [(0,30),(2,31),(3,32),(4,33),(5,3)],6,112,[.d (.int .i64 0),.nil,.nil,.nil,.nil,.d (.int .i64 0)],false⟩),
  (35,⟨.struct [(0,30),(2,31),(3,32),(4,33),(5,3)],6,112,[.d (.int .i64 0),.nil,.nil,.nil,.nil,.d (.int .i64 0)],false⟩),
  (36,⟨.int .i64,1,8,[.d (.int .i64 0)],false⟩),
  (38,⟨.other,1,8,[.d .nilfn],false⟩),
  (39,⟨.slice 3,1,24,[.nil],false⟩),
  (41,⟨.other,1,8,[.d .nilfn],false⟩),
  (42,⟨.other,1,8,[.d .nilfn],false⟩),
  (43,⟨.other,1,8,[.d .nilfn],false⟩),
  (44,⟨.other,1,8,[.d .nilfn],false⟩),
  (45,⟨.other,1,8,[.d .nilfn],false⟩),
  (46,⟨.slice 67,1,24,[.nil],false⟩),
  (47,⟨.slice 4,1,24,[.nil],false⟩),
  (48,⟨.slice 164,1,24,[.nil],false⟩),
  (49,⟨.slice 126,1,24,[.nil],false⟩),
  (50,⟨.struct [(0,46),(1,47),(2,39),(3,48),(4,49)],5,120,[.nil,.nil,.nil,.nil,.nil],false⟩),
  (51,⟨.struct [(0,46),(1,47),(2,39),(3,48),(4,49)],5,120,[.nil,.nil,.nil,.nil,.nil],false⟩),
  (53,⟨.other,1,8,[.d .nilfn],false⟩),
  (54,⟨.struct [(0,3),(1,3)],2,16,[.d (.int .i64 0),.d (.int .i64 0)],true⟩),
  (55,⟨.struct [(0,3),(1,3)],2,16,[.d (.int .i64 0),.d (.int .i64 0)],true⟩),
  (56,⟨.struct [(0,55),(2,46)],3,40,[.d (.int .i64 0),.d (.int .i64 0),.nil],false⟩),
  (57,⟨.struct [(0,55),(2,46)],3,40,[.d (.int .i64 0),.d (.int .i64 0),.nil],false⟩),
  (58,⟨.other,1,8,[.d .nilfn],false⟩),
  (59,⟨.struct [(0,46),(1,47),(2,39),(3,48),(4,49)],5,120,[.nil,.nil,.nil,.nil,.nil],false⟩),
  (60,⟨.other,1,8,[.d .nilfn],false⟩),
  (62,⟨.other,1,8,[.d .nilfn],false⟩),
  (63,⟨.other,1,8,[.d .nilfn],false⟩),
  (64,⟨.slice 108,1,24,[.nil],false⟩),
  (65,⟨.slice 200,1,24,[.nil],false⟩),
  (66,⟨.struct [(0,3),(1,3),(2,3),(3,65)],4,48,[.d (.int .i64 0),.d (.int .i64 0),.d (.int .i64 0),.nil],false⟩),
  (67,⟨.struct [(0,3),(1,3),(2,3),(3,65)],4,48,[.d (.int .i64 0),.d (.int .i64 0),.d (.int .i64 0),.nil],false⟩),
  (68,⟨.struct [(0,3),(1,3),(2,3),(3,3),(4,67)],8,80,[.d (.int .i64 0),.d (.int .i64 0),.d (.int .i64 0),.d (.int .i64 0),.d (.int .i64 0),.d (.int .i64 0),.d (.int .i64 0),.nil],false⟩),
  (69,⟨.struct [(0,3),(1,3),(2,3),(3,3),(4,67)],8,80,[.d (.int .i64 0),.d (.int .i64 0),.d (.int .i64 0),.d (.int .i64 0),.d (.int .i64 0),.d (.int .i64 0),.d (.int .i64 0),.nil],false⟩),
  (70,⟨.other,1,8,[.d .nilfn],false⟩),
  (71,⟨.other,1,8,[.d .nilfn],false⟩),
  (73,⟨.other,1,8,[.d .nilfn],false⟩),
  (74,⟨.other,1,8,[.d .nilfn],false⟩),
  (75,⟨.other,1,8,[.d .nilfn],false⟩),
  (77,⟨.other,1,8,[.d .nilfn],false⟩),
  (78,⟨.other,1,8,[.d .nilfn],false⟩),
  (79,⟨.other,1,8,[.d .nilfn],false⟩),
  (80,⟨.other,1,8,[.d .nilfn],false⟩),
  (81,⟨.other,1,8,[.d .nilfn],false⟩),
  (83,⟨.other,1,8,[.d .nilfn],false⟩),
  (84,⟨.other,1,8,[.d .nilfn],false⟩),
  (86,⟨.other,1,8,[.d .nilfn],false⟩),
  (87,⟨.other,1,8,[.d .nilfn],false⟩),
  (88,⟨.other,1,8,[.d .nilfn],false⟩),
  (89,⟨.struct [(0,3),(1,3),(2,3)],3,24,[.d (.int .i64 0),.d (.int .i64 0),.d (.int .i64 0)],true⟩),
  (90,⟨.struct [(0,3),(1,3),(2,3)],3,24,[.d (.int .i64 0),.d (.int .i64 0),.d (.int .i64 0)],true⟩),
  (91,⟨.other,1,8,[.d .nilfn],false⟩),
  (92,⟨.struct [(0,39),(1,3),(2,3)],3,40,[.nil,.d (.int .i64 0),.d (.int .i64 0)],false⟩),
  (93,⟨.struct [(0,39),(1,3),(2,3)],3,40,[.nil,.d (.int .i64 0),.d (.int .i64 0)],false⟩),
  (94,⟨.struct [(0,90),(3,93),(6,93)],9,104,[.d (.int .i64 0),.d (.int .i64 0),.d (.int .i64 0),.nil,.d (.int .i64 0),.d (.int .i64 0),.nil,.d (.int .i64 0),.d (.int .i64 0)],false⟩),
  (95,⟨.struct [(0,90),(3,93),(6,93)],9,104,[.d (.int .i64 0),.d (.int .i64 0),.d (.int .i64 0),.nil,.d (.int .i64 0),.d (.int .i64 0),.nil,.d (.int .i64 0),.d (.int .i64 0)],false⟩),
  (96,⟨.other,1,8,[.d .nilfn],false⟩),
  (97,⟨.slice 5,1,24,[.nil],false⟩),
  (98,⟨.other,1,8,[.d .nilfn],false⟩),
  (99,⟨.slice 111,1,24,[.nil],false⟩),
  (101,⟨.other,1,8,[.d .nilfn],false⟩),
  (102,⟨.slice 106,1,24,[.nil],false⟩),
  (103,⟨.other,1,8,[.d .nilfn],false⟩),
  (105,⟨.other,1,8,[.d .nilfn],false⟩),
  (106,⟨.slice 69,1,24,[.nil],false⟩),
  (107,⟨.struct [(0,106)],1,24,[.nil],false⟩),
  (108,⟨.struct [(0,106)],1,24,[.nil],false⟩),
  (109,⟨.slice 113,1,24,[.nil],false⟩),
  (110,⟨.struct [(0,109),(1,39),(2,49)],3,72,[.nil,.nil,.nil],false⟩),
  (111,⟨.struct [(0,109),(1,39),(2,49)],3,72,[.nil,.nil,.nil],false⟩),
  (112,⟨.struct [(0,3),(1,3),(2,36)],3,24,[.d (.int .i64 0),.d (.int .i64 0),.d (.int .i64 0)],true⟩),
  (113,⟨.struct [(0,3),(1,3),(2,36)],3,24,[.d (.int .i64 0),.d (.int .i64 0),.d (.int .i64 0)],true⟩),
  (114,⟨.other,1,8,[.d .nilfn],false⟩),
  (115,⟨.other,1,8,[.d .nilfn],false⟩),
  (116,⟨.other,1,8,[.d .nilfn],false⟩),
  (117,⟨.other,1,8,[.d .nilfn],false⟩),
  (118,⟨.other,1,8,[.d .nilfn],false⟩),
  (119,⟨.other,1,8,[.d .nilfn],false⟩),
  (120,⟨.other,1,8,[.d .nilfn],false⟩),
  (122,⟨.other,1,8,[.d .nilfn],false⟩),
  (123,⟨.other,1,8,[.d .nilfn],false⟩),
  (124,⟨.other,1,8,[.d .nilfn],false⟩),
  (125,⟨.struct [(0,3),(1,3),(2,3)],3,24,[.d (.int .i64 0),.d (.int .i64 0),.d (.int .i64 0)],true⟩),
  (126,⟨.struct [(0,3),(1,3),(2,3)],3,24,[.d (.int .i64 0),.d (.int .i64 0),.d (.int .i64 0)],true⟩),
  (127,⟨.other,1,8,[.d .nilfn],false⟩),
  (129,⟨.other,1,8,[.d .nilfn],false⟩),
  (131,⟨.other,1,8,[.d .nilfn],false⟩),
  (132,⟨.other,1,8,[.d .nilfn],false⟩),
  (133,⟨.other,1,8,[.d .nilfn],false⟩),
  (134,⟨.other,1,8,[.d .nilfn],false⟩),
  (135,⟨.other,1,8,[.d .nilfn],false⟩),
  (136,⟨.other,1,8,[.d .nilfn],false⟩),
  (137,⟨.other,1,8,[.d .nilfn],false⟩),
  (138,⟨.other,1,8,[.d .nilfn],false⟩),
  (139,⟨.other,1,8,[.d .nilfn],false⟩),
  (140,⟨.other,1,8,[.d .nilfn],false⟩),
  (141,⟨.other,1,8,[.d .nilfn],false⟩),
  (142,⟨.other,1,8,[.d .nilfn],false⟩),
  (143,⟨.other,1,8,[.d .nilfn],false⟩),
  (144,⟨.other,1,8,[.d .nilfn],false⟩),
  (146,⟨.other,1,8,[.d .nilfn],false⟩),
  (147,⟨.other,1,8,[.d .nilfn],false⟩),
  (148,⟨.slice 213,1,24,[.nil],false⟩),
  (149,⟨.other,1,8,[.d .nilfn],false⟩),
  (151,⟨.other,1,8,[.d .nilfn],false⟩),
  (152,⟨.other,1,8,[.d .nilfn],false⟩),
  (153,⟨.other,1,8,[.nilptr],false⟩),
  (154,⟨.other,1,8,[.d .nilfn],false⟩),
  (156,⟨.other,1,8,[.d .nilfn],false⟩),
  (157,⟨.other,1,8,[.d .nilfn],false⟩),
  (158,⟨.struct [(0,49),(1,3)],2,32,[.nil,.d (.int .i64 0)],false⟩),
  (159,⟨.struct [(0,49),(1,3)],2,32,[.nil,.d (.int .i64 0)],false⟩),
  (160,⟨.struct [(0,159),(2,51)],7,152,[.nil,.d (.int .i64 0),.nil,.nil,.nil,.nil,.nil],false⟩),
  (161,⟨.struct [(0,159),(2,51)],7,152,[.nil,.d (.int .i64 0),.nil,.nil,.nil,.nil,.nil],false⟩),
  (162,⟨.other,1,8,[.d .nilfn],false⟩),
  (163,⟨.struct [(0,3),(1,3),(2,3),(3,3),(4,3),(5,4)],6,48,[.d (.int .i64 0),.d (.int .i64 0),.d (.int .i64 0),.d (.int .i64 0),.d (.int .i64 0),.d (.bool false)],true⟩),
  (164,⟨.struct [(0,3),(1,3),(2,3),(3,3),(4,3),(5,4)],6,48,[.d (.int .i64 0),.d (.int .i64 0),.d (.int .i64 0),.d (.int .i64 0),.d (.int .i64 0),.d (.bool false)],true⟩),
  (165,⟨.other,1,8,[.d .nilfn],false⟩),
  (166,⟨.other,1,8,[.d .nilfn],false⟩),
  (168,⟨.other,1,8,[.d .nilfn],false⟩),
  (169,⟨.other,1,8,[.d .nilfn],false⟩),
  (170,⟨.other,1,8,[.d .nilfn],false⟩),
  (171,⟨.other,1,8,[.d .nilfn],false⟩),
  (172,⟨.other,1,8,[.d .nilfn],false⟩),
  (173,⟨.other,1,8,[.d .nilfn],false⟩),
  (174,⟨.other,1,8,[.d .nilfn],false⟩),
  (175,⟨.other,1,8,[.d .nilfn],false⟩),
  (176,⟨.other,1,8,[.d .nilfn],false⟩),
  (177,⟨.other,1,8,[.d .nilfn],false⟩),
  (178,⟨.struct [(0,3),(1,3),(2,3)],3,24,[.d (.int .i64 0),.d (.int .i64 0),.d (.int .i64 0)],true⟩),
  (179,⟨.struct [(0,3),(1,3),(2,3)],3,24,[.d (.int .i64 0),.d (.int .i64 0),.d (.int .i64 0)],true⟩),
  (180,⟨.other,1,8,[.d .nilfn],false⟩),
  (181,⟨.other,1,8,[.d .nilfn],false⟩),
  (182,⟨.other,1,8,[.d .nilfn],false⟩),
  (183,⟨.other,1,8,[.d .nilfn],false⟩),
  (185,⟨.other,1,8,[.d .nilfn],false⟩),
  (186,⟨.other,1,8,[.d .nilfn],false⟩),
  (187,⟨.other,1,8,[.nilptr],false⟩),
  (188,⟨.struct [(0,97),(1,3),(2,36)],3,40,[.nil,.d (.int .i64 0),.d (.int .i64 0)],false⟩),
  (189,⟨.struct [(0,97),(1,3),(2,36)],3,40,[.nil,.d (.int .i64 0),.d (.int .i64 0)],false⟩),
  (190,⟨.other,1,8,[.d .nilfn],false⟩),
  (191,⟨.other,1,8,[.d .nilfn],false⟩),
  (192,⟨.other,1,8,[.d .nilfn],false⟩),
  (193,⟨.other,1,8,[.d .nilfn],false⟩),
  (194,⟨.other,1,8,[.d .nilfn],false⟩),
  (195,⟨.other,1,8,[.d .nilfn],false⟩),
  (196,⟨.other,1,8,[.d .nilfn],false⟩),
  (197,⟨.other,1,8,[.d .nilfn],false⟩),
  (198,⟨.other,1,8,[.d .nilfn],false⟩),
  (199,⟨.struct [(0,3),(1,3),(2,3)],3,24,[.d (.int .i64 0),.d (.int .i64 0),.d (.int .i64 0)],true⟩),
  (200,⟨.struct [(0,3),(1,3),(2,3)],3,24,[.d (.int .i64 0),.d (.int .i64 0),.d (.int .i64 0)],true⟩),
  (201,⟨.other,1,8,[.d .nilfn],false⟩),
  (202,⟨.other,1,8,[.d .nilfn],false⟩),
  (203,⟨.other,1,8,[.d .nilfn],false⟩),
  (205,⟨.other,1,8,[.d .nilfn],false⟩),
  (206,⟨.other,1,8,[.d .nilfn],false⟩),
  (207,⟨.other,1,8,[.d .nilfn],false⟩),
  (208,⟨.other,1,8,[.d .nilfn],false⟩),
  (209,⟨.other,1,8,[.d .nilfn],false⟩),
  (210,⟨.other,1,8,[.d .nilfn],false⟩),
  (211,⟨.other,1,8,[.d .nilfn],false⟩),
  (212,⟨.struct [(0,90),(3,39),(4,39)],5,72,[.d (.int .i64 0),.d (.int .i64 0),.d (.int .i64 0),.nil,.nil],false⟩),
  (213,⟨.struct [(0,90),(3,39),(4,39)],5,72,[.d (.int .i64 0),.d (.int .i64 0),.d (.int .i64 0),.nil,.nil],false⟩),
  (214,⟨.other,1,8,[.d .nilfn],false⟩),
  (215,⟨.other,1,8,[.d .nilfn],false⟩),
  (216,⟨.other,1,8,[.d .nilfn],false⟩),
  (217,⟨.other,1,8,[.nilptr],false⟩),
  (218,⟨.other,1,8,[.d .nilfn],false⟩),
  (219,⟨.slice 170,1,24,[.nil],false⟩),
  (220,⟨.other,1,8,[.d .nilfn],false⟩),
  (221,⟨.other,1,8,[.d .nilfn],false⟩),
  (222,⟨.other,1,8,[.d .nilfn],false⟩),
  (223,⟨.other,1,8,[.d .nilfn],false⟩),
  (224,⟨.other,1,8,[.d .nilfn],false⟩),
  (226,⟨.other,1,8,[.d .nilfn],false⟩),
  (228,⟨.other,1,8,[.d .nilfn],false⟩),
  (229,⟨.other,1,8,[.d .nilfn],false⟩),
  (230,⟨.other,1,8,[.d .nilfn],false⟩),
  (231,⟨.other,1,8,[.d .nilfn],false⟩),
  (232,⟨.other,1,8,[.d .nilfn],false⟩),
  (233,⟨.other,1,8,[.d .nilfn],false⟩),
  (234,⟨.other,1,8,[.d .nilfn],false⟩),
  (236,⟨.other,1,8,[.d .nilfn],false⟩),
  (237,⟨.other,1,8,[.nilptr],false⟩),
  (238,⟨.struct [(0,31),(1,39)],2,48,[.nil,.nil],false⟩),
  (239,⟨.struct [(0,31),(1,39)],2,48,[.nil,.nil],false⟩),
  (240,⟨.other,1,8,[.d .nilfn],false⟩),
  (241,⟨.other,1,8,[.d .nilfn],false⟩),
  (242,⟨.other,1,8,[.d .nilfn],false⟩),
  (244,⟨.other,1,8,[.d .nilfn],false⟩),
  (246,⟨.other,1,8,[.d .nilfn],false⟩),
  (247,⟨.other,1,8,[.d .nilfn],false⟩),
  (248,⟨.other,1,8,[.d .nilfn],false⟩),
  (249,⟨.other,1,8,[.d .nilfn],false⟩),
  (250,⟨.other,1,8,[.d .nilfn],false⟩),
  (251,⟨.other,1,8,[.d .nilfn],false⟩),
  (253,⟨.other,1,8,[.d .nilfn],false⟩),
  (254,⟨.other,1,8,[.d .nilfn],false⟩),
  (255,⟨.other,1,8,[.d .nilfn],false⟩),
  (256,⟨.other,1,8,[.d .nilfn],false⟩),
  (257,⟨.other,1,8,[.d .nilfn],false⟩),
  (258,⟨.other,1,8,[.d .nilfn],false⟩),
  (259,⟨.other,1,8,[.d .nilfn],false⟩),
  (260,⟨.other,1,8,[.d .nilfn],false⟩),
  (261,⟨.other,1,8,[.d .nilfn],false⟩),
  (262,⟨.other,1,8,[.d .nilfn],false⟩),
  (263,⟨.other,1,8,[.d .nilfn],false⟩),
  (264,⟨.other,1,8,[.d .nilfn],false⟩),
  (265,⟨.other,1,8,[.d .nilfn],false⟩),
  (266,⟨.other,1,8,[.d .nilfn],false⟩),
  (267,⟨.other,1,8,[.d .nilfn],false⟩),
  (268,⟨.other,1,8,[.d .nilfn],false⟩),
  (269,⟨.other,1,8,[.d .nilfn],false⟩),
  (270,⟨.other,1,8,[.d .nilfn],false⟩),
  (271,⟨.other,1,8,[.d .nilfn],false⟩),
  (272,⟨.other,1,8,[.d .nilfn],false⟩),
  (273,⟨.other,1,8,[.d .nilfn],false⟩),
  (274,⟨.other,1,8,[.d .nilfn],false⟩),
  (280,⟨.int .u32,1,4,[.d (.int .u32 0)],false⟩),
  (284,⟨.other,1,8,[.nilptr],false⟩)]
def T:TypeId→Option TI:=fun t=>assoc tl t
theorem T5:T 5=some ⟨.int .u8,1,1,[.d (.int .u8 0)],false⟩:=rfl
def cV:LV→Value
  | .d (.int k n)=>.int k n
  | .d (.bool b)=>.bool b
  | .d (.str s)=>.string s
  | .nil=>.slice none 0 0
  | .nilptr=>.pointer none
  | _=>.nilFunc
def zV (i:TI):Value:=match i.k with | .struct _=>.agg (i.zero.map cV).toArray | _=>cV (i.zero.headD .nil)
theorem oT {t:TypeId} {i:TI} {d:TypeDesc} (hd:Tryz.prog.underlying t=some d) (hk:DescOk d i.k) (hi:(Tryz.prog.info? t).map (fun j=>(j.zero,j.size,j.bytes))=some (some (zV i),i.size,i.bytes))
    (hz:(zV i).cells.toList.map constL=i.zero) (hs:(zV i).cells.size=i.size) (h1:(zV i).cells.toList.all (·.oneCell')=true):TIok Tryz.prog t i:=TIok.of (zV i) hd hk hi hz hs h1
theorem eq54:EqTells Tryz.prog 54 [some .i64,some .i64]:=eqTells_of (F:=_) Tryz.underlying54 (by kernel_rfl) (by kernel_rfl) (fun i f h=>by
  rcases i with _ | i
  · cases h; exact⟨by decide,rfl,_,rfl,Tryz.underlying3⟩
  rcases i with _ | i
  · cases h; exact⟨by decide,rfl,_,rfl,Tryz.underlying3⟩
  simp at h) rfl
theorem eq55:EqTells Tryz.prog 55 [some .i64,some .i64]:=eqTells_of (F:=_) Tryz.underlying55 (by kernel_rfl) (by kernel_rfl) (fun i f h=>by
  rcases i with _ | i
  · cases h; exact⟨by decide,rfl,_,rfl,Tryz.underlying3⟩
  rcases i with _ | i
  · cases h; exact⟨by decide,rfl,_,rfl,Tryz.underlying3⟩
  simp at h) rfl
theorem eq89:EqTells Tryz.prog 89 [some .i64,some .i64,some .i64]:=eqTells_of (F:=_) Tryz.underlying89 (by kernel_rfl) (by kernel_rfl) (fun i f h=>by
  rcases i with _ | i
  · cases h; exact⟨by decide,rfl,_,rfl,Tryz.underlying3⟩
  rcases i with _ | i
  · cases h; exact⟨by decide,rfl,_,rfl,Tryz.underlying3⟩
  rcases i with _ | i
  · cases h; exact⟨by decide,rfl,_,rfl,Tryz.underlying3⟩
  simp at h) rfl
theorem eq90:EqTells Tryz.prog 90 [some .i64,some .i64,some .i64]:=eqTells_of (F:=_) Tryz.underlying90 (by kernel_rfl) (by kernel_rfl) (fun i f h=>by
  rcases i with _ | i
  · cases h; exact⟨by decide,rfl,_,rfl,Tryz.underlying3⟩
  rcases i with _ | i
  · cases h; exact⟨by decide,rfl,_,rfl,Tryz.underlying3⟩
  rcases i with _ | i
  · cases h; exact⟨by decide,rfl,_,rfl,Tryz.underlying3⟩
  simp at h) rfl
theorem eq112:EqTells Tryz.prog 112 [some .i64,some .i64,some .i64]:=eqTells_of (F:=_) Tryz.underlying112 (by kernel_rfl) (by kernel_rfl) (fun i f h=>by
  rcases i with _ | i
  · cases h; exact⟨by decide,rfl,_,rfl,Tryz.underlying3⟩
  rcases i with _ | i
  · cases h; exact⟨by decide,rfl,_,rfl,Tryz.underlying3⟩
  rcases i with _ | i
  · cases h; exact⟨by decide,rfl,_,rfl,Tryz.underlying36⟩
  simp at h) rfl
theorem eq113:EqTells Tryz.prog 113 [some .i64,some .i64,some .i64]:=eqTells_of (F:=_) Tryz.underlying113 (by kernel_rfl) (by kernel_rfl) (fun i f h=>by
  rcases i with _ | i
  · cases h; exact⟨by decide,rfl,_,rfl,Tryz.underlying3⟩
  rcases i with _ | i
  · cases h; exact⟨by decide,rfl,_,rfl,Tryz.underlying3⟩
  rcases i with _ | i
  · cases h; exact⟨by decide,rfl,_,rfl,Tryz.underlying36⟩
  simp at h) rfl
theorem eq125:EqTells Tryz.prog 125 [some .i64,some .i64,some .i64]:=eqTells_of (F:=_) Tryz.underlying125 (by kernel_rfl) (by kernel_rfl) (fun i f h=>by
  rcases i with _ | i
  · cases h; exact⟨by decide,rfl,_,rfl,Tryz.underlying3⟩
  rcases i with _ | i
  · cases h; exact⟨by decide,rfl,_,rfl,Tryz.underlying3⟩
  rcases i with _ | i
  · cases h; exact⟨by decide,rfl,_,rfl,Tryz.underlying3⟩
  simp at h) rfl
theorem eq126:EqTells Tryz.prog 126 [some .i64,some .i64,some .i64]:=eqTells_of (F:=_) Tryz.underlying126 (by kernel_rfl) (by kernel_rfl) (fun i f h=>by
  rcases i with _ | i
  · cases h; exact⟨by decide,rfl,_,rfl,Tryz.underlying3⟩
  rcases i with _ | i
  · cases h; exact⟨by decide,rfl,_,rfl,Tryz.underlying3⟩
  rcases i with _ | i
  · cases h; exact⟨by decide,rfl,_,rfl,Tryz.underlying3⟩
  simp at h) rfl
theorem eq163:EqTells Tryz.prog 163 [some .i64,some .i64,some .i64,some .i64,some .i64,none]:=eqTells_of (F:=_) Tryz.underlying163 (by kernel_rfl) (by kernel_rfl) (fun i f h=>by
  rcases i with _ | i
  · cases h; exact⟨by decide,rfl,_,rfl,Tryz.underlying3⟩
  rcases i with _ | i
  · cases h; exact⟨by decide,rfl,_,rfl,Tryz.underlying3⟩
  rcases i with _ | i
  · cases h; exact⟨by decide,rfl,_,rfl,Tryz.underlying3⟩
  rcases i with _ | i
  · cases h; exact⟨by decide,rfl,_,rfl,Tryz.underlying3⟩
  rcases i with _ | i
  · cases h; exact⟨by decide,rfl,_,rfl,Tryz.underlying3⟩
  rcases i with _ | i
  · cases h; exact⟨by decide,rfl,_,rfl,Tryz.underlying4⟩
  simp at h) rfl
theorem eq164:EqTells Tryz.prog 164 [some .i64,some .i64,some .i64,some .i64,some .i64,none]:=eqTells_of (F:=_) Tryz.underlying164 (by kernel_rfl) (by kernel_rfl) (fun i f h=>by
  rcases i with _ | i
  · cases h; exact⟨by decide,rfl,_,rfl,Tryz.underlying3⟩
  rcases i with _ | i
  · cases h; exact⟨by decide,rfl,_,rfl,Tryz.underlying3⟩
  rcases i with _ | i
  · cases h; exact⟨by decide,rfl,_,rfl,Tryz.underlying3⟩
  rcases i with _ | i
  · cases h; exact⟨by decide,rfl,_,rfl,Tryz.underlying3⟩
  rcases i with _ | i
  · cases h; exact⟨by decide,rfl,_,rfl,Tryz.underlying3⟩
  rcases i with _ | i
  · cases h; exact⟨by decide,rfl,_,rfl,Tryz.underlying4⟩
  simp at h) rfl
theorem eq178:EqTells Tryz.prog 178 [some .i64,some .i64,some .i64]:=eqTells_of (F:=_) Tryz.underlying178 (by kernel_rfl) (by kernel_rfl) (fun i f h=>by
  rcases i with _ | i
  · cases h; exact⟨by decide,rfl,_,rfl,Tryz.underlying3⟩
  rcases i with _ | i
  · cases h; exact⟨by decide,rfl,_,rfl,Tryz.underlying3⟩
  rcases i with _ | i
  · cases h; exact⟨by decide,rfl,_,rfl,Tryz.underlying3⟩
  simp at h) rfl
theorem eq179:EqTells Tryz.prog 179 [some .i64,some .i64,some .i64]:=eqTells_of (F:=_) Tryz.underlying179 (by kernel_rfl) (by kernel_rfl) (fun i f h=>by
  rcases i with _ | i
  · cases h; exact⟨by decide,rfl,_,rfl,Tryz.underlying3⟩
  rcases i with _ | i
  · cases h; exact⟨by decide,rfl,_,rfl,Tryz.underlying3⟩
  rcases i with _ | i
  · cases h; exact⟨by decide,rfl,_,rfl,Tryz.underlying3⟩
  simp at h) rfl
theorem eq199:EqTells Tryz.prog 199 [some .i64,some .i64,some .i64]:=eqTells_of (F:=_) Tryz.underlying199 (by kernel_rfl) (by kernel_rfl) (fun i f h=>by
  rcases i with _ | i
  · cases h; exact⟨by decide,rfl,_,rfl,Tryz.underlying3⟩
  rcases i with _ | i
  · cases h; exact⟨by decide,rfl,_,rfl,Tryz.underlying3⟩
  rcases i with _ | i
  · cases h; exact⟨by decide,rfl,_,rfl,Tryz.underlying3⟩
  simp at h) rfl
theorem eq200:EqTells Tryz.prog 200 [some .i64,some .i64,some .i64]:=eqTells_of (F:=_) Tryz.underlying200 (by kernel_rfl) (by kernel_rfl) (fun i f h=>by
  rcases i with _ | i
  · cases h; exact⟨by decide,rfl,_,rfl,Tryz.underlying3⟩
  rcases i with _ | i
  · cases h; exact⟨by decide,rfl,_,rfl,Tryz.underlying3⟩
  rcases i with _ | i
  · cases h; exact⟨by decide,rfl,_,rfl,Tryz.underlying3⟩
  simp at h) rfl
theorem tab:TabOk Tryz.prog T:=by
  refine TabOk.of (by kernel_rfl) (assoc_all (l:=tl) (Q:=fun t i=>TIok Tryz.prog t i) ?_) (assoc_all (l:=tl) (Q:=fun t i=>i.eq=true→∀ks,i.kds=some ks→EqTells Tryz.prog t ks) ?_) (fun t i fs h hk=>assoc_all (l:=tl) (Q:=fun _ i=>∀fs,i.k=.struct fs→fs.all (fun x=>(T x.2).isSome)=true) ?_ t i h fs hk)
  · simp only[tl,List.forall_mem_cons,List.not_mem_nil,false_implies,implies_true,and_true]
    exact⟨oT Tryz.underlying1 (rfl) (by kernel_rfl) rfl rfl rfl,oT Tryz.underlying2 (rfl) (by kernel_rfl) rfl rfl rfl,oT Tryz.underlying3 (rfl) (by kernel_rfl) rfl rfl rfl,oT Tryz.underlying4 (rfl) (by kernel_rfl) rfl rfl rfl,oT Tryz.underlying5 (rfl) (by kernel_rfl) rfl rfl rfl,oT Tryz.underlying9 (rfl) (by kernel_rfl) rfl rfl rfl,oT Tryz.underlying12 (rfl) (by kernel_rfl) rfl rfl rfl,oT Tryz.underlying21 (rfl) (by kernel_rfl) rfl rfl rfl,oT Tryz.underlying22 (rfl) (by kernel_rfl) rfl rfl rfl,oT Tryz.underlying23 (rfl) (by kernel_rfl) rfl rfl rfl,oT Tryz.underlying24 (fields_of rfl) (by kernel_rfl) rfl rfl rfl,oT Tryz.underlying25 (fields_of rfl) (by kernel_rfl) rfl rfl rfl,oT Tryz.underlying26 (rfl) (by kernel_rfl) rfl rfl rfl,oT Tryz.underlying27 (rfl) (by kernel_rfl) rfl rfl rfl,oT Tryz.underlying28 (rfl) (by kernel_rfl) rfl rfl rfl,oT Tryz.underlying29 (fields_of rfl) (by kernel_rfl) rfl rfl rfl,oT Tryz.underlying30 (fields_of rfl) (by kernel_rfl) rfl rfl rfl,oT Tryz.underlying31 (rfl) (by kernel_rfl) rfl rfl rfl,oT Tryz.underlying32 (rfl) (by kernel_rfl) rfl rfl rfl,oT Tryz.underlying33 (rfl) (by kernel_rfl) rfl rfl rfl,oT Tryz.underlying34 (fields_of rfl) (by kernel_rfl) rfl rfl rfl,oT Tryz.underlying35 (fields_of rfl) (by kernel_rfl) rfl rfl rfl,oT Tryz.underlying36 (rfl) (by kernel_rfl) rfl rfl rfl,oT Tryz.underlying38 (rfl) (by kernel_rfl) rfl rfl rfl,oT Tryz.underlying39 (rfl) (by kernel_rfl) rfl rfl rfl,oT Tryz.underlying41 (rfl) (by kernel_rfl) rfl rfl rfl,oT Tryz.underlying42 (rfl) (by kernel_rfl) rfl rfl rfl,oT Tryz.underlying43 (rfl) (by kernel_rfl) rfl rfl rfl,oT Tryz.underlying44 (rfl) (by kernel_rfl) rfl rfl rfl,oT Tryz.underlying45 (rfl) (by kernel_rfl) rfl rfl rfl,oT Tryz.underlying46 (rfl) (by kernel_rfl) rfl rfl rfl,oT Tryz.underlying47 (rfl) (by kernel_rfl) rfl rfl rfl,oT Tryz.underlying48 (rfl) (by kernel_rfl) rfl rfl rfl,oT Tryz.underlying49 (rfl) (by kernel_rfl) rfl rfl rfl,oT Tryz.underlying50 (fields_of rfl) (by kernel_rfl) rfl rfl rfl,oT Tryz.underlying51 (fields_of rfl) (by kernel_rfl) rfl rfl rfl,oT Tryz.underlying53 (rfl) (by kernel_rfl) rfl rfl rfl,oT Tryz.underlying54 (fields_of rfl) (by kernel_rfl) rfl rfl rfl,oT Tryz.underlying55 (fields_of rfl) (by kernel_rfl) rfl rfl rfl,oT Tryz.underlying56 (fields_of rfl) (by kernel_rfl) rfl rfl rfl,oT Tryz.underlying57 (fields_of rfl) (by kernel_rfl) rfl rfl rfl,oT Tryz.underlying58 (rfl) (by kernel_rfl) rfl rfl rfl,oT Tryz.underlying59 (fields_of rfl) (by kernel_rfl) rfl rfl rfl,oT Tryz.underlying60 (rfl) (by kernel_rfl) rfl rfl rfl,oT Tryz.underlying62 (rfl) (by kernel_rfl) rfl rfl rfl,oT Tryz.underlying63 (rfl) (by kernel_rfl) rfl rfl rfl,oT Tryz.underlying64 (rfl) (by kernel_rfl) rfl rfl rfl,oT Tryz.underlying65 (rfl) (by kernel_rfl) rfl rfl rfl,oT Tryz.underlying66 (fields_of rfl) (by kernel_rfl) rfl rfl rfl,oT Tryz.underlying67 (fields_of rfl) (by kernel_rfl) rfl rfl rfl,oT Tryz.underlying68 (fields_of rfl) (by kernel_rfl) rfl rfl rfl,oT Tryz.underlying69 (fields_of rfl) (by kernel_rfl) rfl rfl rfl,oT Tryz.underlying70 (rfl) (by kernel_rfl) rfl rfl rfl,oT Tryz.underlying71 (rfl) (by kernel_rfl) rfl rfl rfl,oT Tryz.underlying73 (rfl) (by kernel_rfl) rfl rfl rfl,oT Tryz.underlying74 (rfl) (by kernel_rfl) rfl rfl rfl,oT Tryz.underlying75 (rfl) (by kernel_rfl) rfl rfl rfl,oT Tryz.underlying77 (rfl) (by kernel_rfl) rfl rfl rfl,oT Tryz.underlying78 (rfl) (by kernel_rfl) rfl rfl rfl,oT Tryz.underlying79 (rfl) (by kernel_rfl) rfl rfl rfl,oT Tryz.underlying80 (rfl) (by kernel_rfl) rfl rfl rfl,oT Tryz.underlying81 (rfl) (by kernel_rfl) rfl rfl rfl,oT Tryz.underlying83 (rfl) (by kernel_rfl) rfl rfl rfl,oT Tryz.underlying84 (rfl) (by kernel_rfl) rfl rfl rfl,oT Tryz.underlying86 (rfl) (by kernel_rfl) rfl rfl rfl,oT Tryz.underlying87 (rfl) (by kernel_rfl) rfl rfl rfl,oT Tryz.underlying88 (rfl) (by kernel_rfl) rfl rfl rfl,oT Tryz.underlying89 (fields_of rfl) (by kernel_rfl) rfl rfl rfl,oT Tryz.underlying90 (fields_of rfl) (by kernel_rfl) rfl rfl rfl,oT Tryz.underlying91 (rfl) (by kernel_rfl) rfl rfl rfl,oT Tryz.underlying92 (fields_of rfl) (by kernel_rfl) rfl rfl rfl,oT Tryz.underlying93 (fields_of rfl) (by kernel_rfl) rfl rfl rfl,oT Tryz.underlying94 (fields_of rfl) (by kernel_rfl) rfl rfl rfl,oT Tryz.underlying95 (fields_of rfl) (by kernel_rfl) rfl rfl rfl,oT Tryz.underlying96 (rfl) (by kernel_rfl) rfl rfl rfl,oT Tryz.underlying97 (rfl) (by kernel_rfl) rfl rfl rfl,oT Tryz.underlying98 (rfl) (by kernel_rfl) rfl rfl rfl,oT Tryz.underlying99 (rfl) (by kernel_rfl) rfl rfl rfl,oT Tryz.underlying101 (rfl) (by kernel_rfl) rfl rfl rfl,oT Tryz.underlying102 (rfl) (by kernel_rfl) rfl rfl rfl,oT Tryz.underlying103 (rfl) (by kernel_rfl) rfl rfl rfl,oT Tryz.underlying105 (rfl) (by kernel_rfl) rfl rfl rfl,oT Tryz.underlying106 (rfl) (by kernel_rfl) rfl rfl rfl,oT Tryz.underlying107 (fields_of rfl) (by kernel_rfl) rfl rfl rfl,oT Tryz.underlying108 (fields_of rfl) (by kernel_rfl) rfl rfl rfl,oT Tryz.underlying109 (rfl) (by kernel_rfl) rfl rfl rfl,oT Tryz.underlying110 (fields_of rfl) (by kernel_rfl) rfl rfl rfl,oT Tryz.underlying111 (fields_of rfl) (by kernel_rfl) rfl rfl rfl,oT Tryz.underlying112 (fields_of rfl) (by kernel_rfl) rfl rfl rfl,oT Tryz.underlying113 (fields_of rfl) (by kernel_rfl) rfl rfl rfl,oT Tryz.underlying114 (rfl) (by kernel_rfl) rfl rfl rfl,oT Tryz.underlying115 (rfl) (by kernel_rfl) rfl rfl rfl,oT Tryz.underlying116 (rfl) (by kernel_rfl) rfl rfl rfl,oT Tryz.underlying117 (rfl) (by kernel_rfl) rfl rfl rfl,oT Tryz.underlying118 (rfl) (by kernel_rfl) rfl rfl rfl,oT Tryz.underlying119 (rfl) (by kernel_rfl) rfl rfl rfl,oT Tryz.underlying120 (rfl) (by kernel_rfl) rfl rfl rfl,oT Tryz.underlying122 (rfl) (by kernel_rfl) rfl rfl rfl,oT Tryz.underlying123 (rfl) (by kernel_rfl) rfl rfl rfl,oT Tryz.underlying124 (rfl) (by kernel_rfl) rfl rfl rfl,oT Tryz.underlying125 (fields_of rfl) (by kernel_rfl) rfl rfl rfl,oT Tryz.underlying126 (fields_of rfl) (by kernel_rfl) rfl rfl rfl,oT Tryz.underlying127 (rfl) (by kernel_rfl) rfl rfl rfl,oT Tryz.underlying129 (rfl) (by kernel_rfl) rfl rfl rfl,oT Tryz.underlying131 (rfl) (by kernel_rfl) rfl rfl rfl,oT Tryz.underlying132 (rfl) (by kernel_rfl) rfl rfl rfl,oT Tryz.underlying133 (rfl) (by kernel_rfl) rfl rfl rfl,oT Tryz.underlying134 (rfl) (by kernel_rfl) rfl rfl rfl,oT Tryz.underlying135 (rfl) (by kernel_rfl) rfl rfl rfl,oT Tryz.underlying136 (rfl) (by kernel_rfl) rfl rfl rfl,oT Tryz.underlying137 (rfl) (by kernel_rfl) rfl rfl rfl,oT Tryz.underlying138 (rfl) (by kernel_rfl) rfl rfl rfl,oT Tryz.underlying139 (rfl) (by kernel_rfl) rfl rfl rfl,oT Tryz.underlying140 (rfl) (by kernel_rfl) rfl rfl rfl,oT Tryz.underlying141 (rfl) (by kernel_rfl) rfl rfl rfl,oT Tryz.underlying142 (rfl) (by kernel_rfl) rfl rfl rfl,oT Tryz.underlying143 (rfl) (by kernel_rfl) rfl rfl rfl,oT Tryz.underlying144 (rfl) (by kernel_rfl) rfl rfl rfl,oT Tryz.underlying146 (rfl) (by kernel_rfl) rfl rfl rfl,oT Tryz.underlying147 (rfl) (by kernel_rfl) rfl rfl rfl,oT Tryz.underlying148 (rfl) (by kernel_rfl) rfl rfl rfl,oT Tryz.underlying149 (rfl) (by kernel_rfl) rfl rfl rfl,oT Tryz.underlying151 (rfl) (by kernel_rfl) rfl rfl rfl,oT Tryz.underlying152 (rfl) (by kernel_rfl) rfl rfl rfl,oT Tryz.underlying153 (rfl) (by kernel_rfl) rfl rfl rfl,oT Tryz.underlying154 (rfl) (by kernel_rfl) rfl rfl rfl,oT Tryz.underlying156 (rfl) (by kernel_rfl) rfl rfl rfl,oT Tryz.underlying157 (rfl) (by kernel_rfl) rfl rfl rfl,oT Tryz.underlying158 (fields_of rfl) (by kernel_rfl) rfl rfl rfl,oT Tryz.underlying159 (fields_of rfl) (by kernel_rfl) rfl rfl rfl,oT Tryz.underlying160 (fields_of rfl) (by kernel_rfl) rfl rfl rfl,oT Tryz.underlying161 (fields_of rfl) (by kernel_rfl) rfl rfl rfl,oT Tryz.underlying162 (rfl) (by kernel_rfl) rfl rfl rfl,oT Tryz.underlying163 (fields_of rfl) (by kernel_rfl) rfl rfl rfl,oT Tryz.underlying164 (fields_of rfl) (by kernel_rfl) rfl rfl rfl,oT Tryz.underlying165 (rfl) (by kernel_rfl) rfl rfl rfl,oT Tryz.underlying166 (rfl) (by kernel_rfl) rfl rfl rfl,oT Tryz.underlying168 (rfl) (by kernel_rfl) rfl rfl rfl,oT Tryz.underlying169 (rfl) (by kernel_rfl) rfl rfl rfl,oT Tryz.underlying170 (rfl) (by kernel_rfl) rfl rfl rfl,oT Tryz.underlying171 (rfl) (by kernel_rfl) rfl rfl rfl,oT Tryz.underlying172 (rfl) (by kernel_rfl) rfl rfl rfl,oT Tryz.underlying173 (rfl) (by kernel_rfl) rfl rfl rfl,oT Tryz.underlying174 (rfl) (by kernel_rfl) rfl rfl rfl,oT Tryz.underlying175 (rfl) (by kernel_rfl) rfl rfl rfl,oT Tryz.underlying176 (rfl) (by kernel_rfl) rfl rfl rfl,oT Tryz.underlying177 (rfl) (by kernel_rfl) rfl rfl rfl,oT Tryz.underlying178 (fields_of rfl) (by kernel_rfl) rfl rfl rfl,oT Tryz.underlying179 (fields_of rfl) (by kernel_rfl) rfl rfl rfl,oT Tryz.underlying180 (rfl) (by kernel_rfl) rfl rfl rfl,oT Tryz.underlying181 (rfl) (by kernel_rfl) rfl rfl rfl,oT Tryz.underlying182 (rfl) (by kernel_rfl) rfl rfl rfl,oT Tryz.underlying183 (rfl) (by kernel_rfl) rfl rfl rfl,oT Tryz.underlying185 (rfl) (by kernel_rfl) rfl rfl rfl,oT Tryz.underlying186 (rfl) (by kernel_rfl) rfl rfl rfl,oT Tryz.underlying187 (rfl) (by kernel_rfl) rfl rfl rfl,oT Tryz.underlying188 (fields_of rfl) (by kernel_rfl) rfl rfl rfl,oT Tryz.underlying189 (fields_of rfl) (by kernel_rfl) rfl rfl rfl,oT Tryz.underlying190 (rfl) (by kernel_rfl) rfl rfl rfl,oT Tryz.underlying191 (rfl) (by kernel_rfl) rfl rfl rfl,oT Tryz.underlying192 (rfl) (by kernel_rfl) rfl rfl rfl,oT Tryz.underlying193 (rfl) (by kernel_rfl) rfl rfl rfl,oT Tryz.underlying194 (rfl) (by kernel_rfl) rfl rfl rfl,oT Tryz.underlying195 (rfl) (by kernel_rfl) rfl rfl rfl,oT Tryz.underlying196 (rfl) (by kernel_rfl) rfl rfl rfl,oT Tryz.underlying197 (rfl) (by kernel_rfl) rfl rfl rfl,oT Tryz.underlying198 (rfl) (by kernel_rfl) rfl rfl rfl,oT Tryz.underlying199 (fields_of rfl) (by kernel_rfl) rfl rfl rfl,oT Tryz.underlying200 (fields_of rfl) (by kernel_rfl) rfl rfl rfl,oT Tryz.underlying201 (rfl) (by kernel_rfl) rfl rfl rfl,oT Tryz.underlying202 (rfl) (by kernel_rfl) rfl rfl rfl,oT Tryz.underlying203 (rfl) (by kernel_rfl) rfl rfl rfl,oT Tryz.underlying205 (rfl) (by kernel_rfl) rfl rfl rfl,oT Tryz.underlying206 (rfl) (by kernel_rfl) rfl rfl rfl,oT Tryz.underlying207 (rfl) (by kernel_rfl) rfl rfl rfl,oT Tryz.underlying208 (rfl) (by kernel_rfl) rfl rfl rfl,oT Tryz.underlying209 (rfl) (by kernel_rfl) rfl rfl rfl,oT Tryz.underlying210 (rfl) (by kernel_rfl) rfl rfl rfl,oT Tryz.underlying211 (rfl) (by kernel_rfl) rfl rfl rfl,oT Tryz.underlying212 (fields_of rfl) (by kernel_rfl) rfl rfl rfl,oT Tryz.underlying213 (fields_of rfl) (by kernel_rfl) rfl rfl rfl,oT Tryz.underlying214 (rfl) (by kernel_rfl) rfl rfl rfl,oT Tryz.underlying215 (rfl) (by kernel_rfl) rfl rfl rfl,oT Tryz.underlying216 (rfl) (by kernel_rfl) rfl rfl rfl,oT Tryz.underlying217 (rfl) (by kernel_rfl) rfl rfl rfl,oT Tryz.underlying218 (rfl) (by kernel_rfl) rfl rfl rfl,oT Tryz.underlying219 (rfl) (by kernel_rfl) rfl rfl rfl,oT Tryz.underlying220 (rfl) (by kernel_rfl) rfl rfl rfl,oT Tryz.underlying221 (rfl) (by kernel_rfl) rfl rfl rfl,oT Tryz.underlying222 (rfl) (by kernel_rfl) rfl rfl rfl,oT Tryz.underlying223 (rfl) (by kernel_rfl) rfl rfl rfl,oT Tryz.underlying224 (rfl) (by kernel_rfl) rfl rfl rfl,oT Tryz.underlying226 (rfl) (by kernel_rfl) rfl rfl rfl,oT Tryz.underlying228 (rfl) (by kernel_rfl) rfl rfl rfl,oT Tryz.underlying229 (rfl) (by kernel_rfl) rfl rfl rfl,oT Tryz.underlying230 (rfl) (by kernel_rfl) rfl rfl rfl,oT Tryz.underlying231 (rfl) (by kernel_rfl) rfl rfl rfl,oT Tryz.underlying232 (rfl) (by kernel_rfl) rfl rfl rfl,oT Tryz.underlying233 (rfl) (by kernel_rfl) rfl rfl rfl,oT Tryz.underlying234 (rfl) (by kernel_rfl) rfl rfl rfl,oT Tryz.underlying236 (rfl) (by kernel_rfl) rfl rfl rfl,oT Tryz.underlying237 (rfl) (by kernel_rfl) rfl rfl rfl,oT Tryz.underlying238 (fields_of rfl) (by kernel_rfl) rfl rfl rfl,oT Tryz.underlying239 (fields_of rfl) (by kernel_rfl) rfl rfl rfl,oT Tryz.underlying240 (rfl) (by kernel_rfl) rfl rfl rfl,oT Tryz.underlying241 (rfl) (by kernel_rfl) rfl rfl rfl,oT Tryz.underlying242 (rfl) (by kernel_rfl) rfl rfl rfl,oT Tryz.underlying244 (rfl) (by kernel_rfl) rfl rfl rfl,oT Tryz.underlying246 (rfl) (by kernel_rfl) rfl rfl rfl,oT Tryz.underlying247 (rfl) (by kernel_rfl) rfl rfl rfl,oT Tryz.underlying248 (rfl) (by kernel_rfl) rfl rfl rfl,oT Tryz.underlying249 (rfl) (by kernel_rfl) rfl rfl rfl,oT Tryz.underlying250 (rfl) (by kernel_rfl) rfl rfl rfl,oT Tryz.underlying251 (rfl) (by kernel_rfl) rfl rfl rfl,oT Tryz.underlying253 (rfl) (by kernel_rfl) rfl rfl rfl,oT Tryz.underlying254 (rfl) (by kernel_rfl) rfl rfl rfl,oT Tryz.underlying255 (rfl) (by kernel_rfl) rfl rfl rfl,oT Tryz.underlying256 (rfl) (by kernel_rfl) rfl rfl rfl,oT Tryz.underlying257 (rfl) (by kernel_rfl) rfl rfl rfl,oT Tryz.underlying258 (rfl) (by kernel_rfl) rfl rfl rfl,oT Tryz.underlying259 (rfl) (by kernel_rfl) rfl rfl rfl,oT Tryz.underlying260 (rfl) (by kernel_rfl) rfl rfl rfl,oT Tryz.underlying261 (rfl) (by kernel_rfl) rfl rfl rfl,oT Tryz.underlying262 (rfl) (by kernel_rfl) rfl rfl rfl,oT Tryz.underlying263 (rfl) (by kernel_rfl) rfl rfl rfl,oT Tryz.underlying264 (rfl) (by kernel_rfl) rfl rfl rfl,oT Tryz.underlying265 (rfl) (by kernel_rfl) rfl rfl rfl,oT Tryz.underlying266 (rfl) (by kernel_rfl) rfl rfl rfl,oT Tryz.underlying267 (rfl) (by kernel_rfl) rfl rfl rfl,oT Tryz.underlying268 (rfl) (by kernel_rfl) rfl rfl rfl,oT Tryz.underlying269 (rfl) (by kernel_rfl) rfl rfl rfl,oT Tryz.underlying270 (rfl) (by kernel_rfl) rfl rfl rfl,oT Tryz.underlying271 (rfl) (by kernel_rfl) rfl rfl rfl,oT Tryz.underlying272 (rfl) (by kernel_rfl) rfl rfl rfl,oT Tryz.underlying273 (rfl) (by kernel_rfl) rfl rfl rfl,oT Tryz.underlying274 (rfl) (by kernel_rfl) rfl rfl rfl,oT Tryz.underlying280 (rfl) (by kernel_rfl) rfl rfl rfl,oT Tryz.underlying284 (rfl) (by kernel_rfl) rfl rfl rfl⟩
  · simp only[tl,List.forall_mem_cons,List.not_mem_nil,false_implies,implies_true,and_true]
    exact⟨nofun,nofun,nofun,nofun,nofun,nofun,nofun,nofun,nofun,nofun,nofun,nofun,nofun,nofun,nofun,nofun,nofun,nofun,nofun,nofun,nofun,nofun,nofun,nofun,nofun,nofun,nofun,nofun,nofun,nofun,nofun,nofun,nofun,nofun,nofun,nofun,nofun,(fun _ ks h=>by cases h; exact eq54),(fun _ ks h=>by cases h; exact eq55),nofun,nofun,nofun,nofun,nofun,nofun,nofun,nofun,nofun,nofun,nofun,nofun,nofun,nofun,nofun,nofun,nofun,nofun,nofun,nofun,nofun,nofun,nofun,nofun,nofun,nofun,nofun,nofun,(fun _ ks h=>by cases h; exact eq89),(fun _ ks h=>by cases h; exact eq90),nofun,nofun,nofun,nofun,nofun,nofun,nofun,nofun,nofun,nofun,nofun,nofun,nofun,nofun,nofun,nofun,nofun,nofun,nofun,(fun _ ks h=>by cases h; exact eq112),(fun _ ks h=>by cases h; exact eq113),nofun,nofun,nofun,nofun,nofun,nofun,nofun,nofun,nofun,nofun,(fun _ ks h=>by cases h; exact eq125),(fun _ ks h=>by cases h; exact eq126),nofun,nofun,nofun,nofun,nofun,nofun,nofun,nofun,nofun,nofun,nofun,nofun,nofun,nofun,nofun,nofun,nofun,nofun,nofun,nofun,nofun,nofun,nofun,nofun,nofun,nofun,nofun,nofun,nofun,nofun,nofun,(fun _ ks h=>by cases h; exact eq163),(fun _ ks h=>by cases h; exact eq164),nofun,nofun,nofun,nofun,nofun,nofun,nofun,nofun,nofun,nofun,nofun,nofun,(fun _ ks h=>by cases h; exact eq178),(fun _ ks h=>by cases h; exact eq179),nofun,nofun,nofun,nofun,nofun,nofun,nofun,nofun,nofun,nofun,nofun,nofun,nofun,nofun,nofun,nofun,nofun,nofun,(fun _ ks h=>by cases h; exact eq199),(fun _ ks h=>by cases h; exact eq200),nofun,nofun,nofun,nofun,nofun,nofun,nofun,nofun,nofun,nofun,nofun,nofun,nofun,nofun,nofun,nofun,nofun,nofun,nofun,nofun,nofun,nofun,nofun,nofun,nofun,nofun,nofun,nofun,nofun,nofun,nofun,nofun,nofun,nofun,nofun,nofun,nofun,nofun,nofun,nofun,nofun,nofun,nofun,nofun,nofun,nofun,nofun,nofun,nofun,nofun,nofun,nofun,nofun,nofun,nofun,nofun,nofun,nofun,nofun,nofun,nofun,nofun,nofun,nofun,nofun,nofun,nofun,nofun,nofun⟩
  · simp only[tl,List.forall_mem_cons,List.not_mem_nil,false_implies,implies_true,and_true]
    exact⟨nofun,nofun,nofun,nofun,nofun,nofun,nofun,nofun,nofun,nofun,(fun fs h=>by cases h; rfl),(fun fs h=>by cases h; rfl),nofun,nofun,nofun,(fun fs h=>by cases h; rfl),(fun fs h=>by cases h; rfl),nofun,nofun,nofun,(fun fs h=>by cases h; rfl),(fun fs h=>by cases h; rfl),nofun,nofun,nofun,nofun,nofun,nofun,nofun,nofun,nofun,nofun,nofun,nofun,(fun fs h=>by cases h; rfl),(fun fs h=>by cases h; rfl),nofun,(fun fs h=>by cases h; rfl),(fun fs h=>by cases h; rfl),(fun fs h=>by cases h; rfl),(fun fs h=>by cases h; rfl),nofun,(fun fs h=>by cases h; rfl),nofun,nofun,nofun,nofun,nofun,(fun fs h=>by cases h; rfl),(fun fs h=>by cases h; rfl),(fun fs h=>by cases h; rfl),(fun fs h=>by cases h; rfl),nofun,nofun,nofun,nofun,nofun,nofun,nofun,nofun,nofun,nofun,nofun,nofun,nofun,nofun,nofun,(fun fs h=>by cases h; rfl),(fun fs h=>by cases h; rfl),nofun,(fun fs h=>by cases h; rfl),(fun fs h=>by cases h; rfl),(fun fs h=>by cases h; rfl),(fun fs h=>by cases h; rfl),nofun,nofun,nofun,nofun,nofun,nofun,nofun,nofun,nofun,(fun fs h=>by cases h; rfl),(fun fs h=>by cases h; rfl),nofun,(fun fs h=>by cases h; rfl),(fun fs h=>by cases h; rfl),(fun fs h=>by cases h; rfl),(fun fs h=>by cases h; rfl),nofun,nofun,nofun,nofun,nofun,nofun,nofun,nofun,nofun,nofun,(fun fs h=>by cases h; rfl),(fun fs h=>by cases h; rfl),nofun,nofun,nofun,nofun,nofun,nofun,nofun,nofun,nofun,nofun,nofun,nofun,nofun,nofun,nofun,nofun,nofun,nofun,nofun,nofun,nofun,nofun,nofun,nofun,nofun,nofun,(fun fs h=>by cases h; rfl),(fun fs h=>by cases h; rfl),(fun fs h=>by cases h; rfl),(fun fs h=>by cases h; rfl),nofun,(fun fs h=>by cases h; rfl),(fun fs h=>by cases h; rfl),nofun,nofun,nofun,nofun,nofun,nofun,nofun,nofun,nofun,nofun,nofun,nofun,(fun fs h=>by cases h; rfl),(fun fs h=>by cases h; rfl),nofun,nofun,nofun,nofun,nofun,nofun,nofun,(fun fs h=>by cases h; rfl),(fun fs h=>by cases h; rfl),nofun,nofun,nofun,nofun,nofun,nofun,nofun,nofun,nofun,(fun fs h=>by cases h; rfl),(fun fs h=>by cases h; rfl),nofun,nofun,nofun,nofun,nofun,nofun,nofun,nofun,nofun,nofun,(fun fs h=>by cases h; rfl),(fun fs h=>by cases h; rfl),nofun,nofun,nofun,nofun,nofun,nofun,nofun,nofun,nofun,nofun,nofun,nofun,nofun,nofun,nofun,nofun,nofun,nofun,nofun,nofun,nofun,(fun fs h=>by cases h; rfl),(fun fs h=>by cases h; rfl),nofun,nofun,nofun,nofun,nofun,nofun,nofun,nofun,nofun,nofun,nofun,nofun,nofun,nofun,nofun,nofun,nofun,nofun,nofun,nofun,nofun,nofun,nofun,nofun,nofun,nofun,nofun,nofun,nofun,nofun,nofun,nofun,nofun,nofun⟩
end Go.Proofs.YtldlcdnhdedoeaaGreat
