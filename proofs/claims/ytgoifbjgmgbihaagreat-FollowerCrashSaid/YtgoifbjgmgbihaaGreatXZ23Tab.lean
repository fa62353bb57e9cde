import Derived.Test.YtgoifbjgmgbihaaGreatVid
import Derived.Test.YtgoifbjgmgbihaaGreatChecked
import Derived.KernelRfl
set_option linter.unusedSimpArgs false
set_option linter.unusedVariables false
set_option maxRecDepth 20000
set_option maxHeartbeats 16000000
namespace Go.Proofs.YtgoifbjgmgbihaaGreat
open Go.Vi
set_option maxRecDepth 100000
set_option maxHeartbeats 16000000
noncomputable section
def JR:List (Nat × Ann):=[
 (3,⟨[],[[1,2,5,6,9,10],[1,5,6,9,11,12]],false,false⟩),
 (4,⟨[(1,9,9)],[[1,3,5,7,8,11,12],[8,17,19]],false,false⟩),
 (5,⟨[],[[1,3,4,7,8],[3,4,7,16]],false,false⟩),
 (6,⟨[],[[0,1,5],[1,6]],false,false⟩),
 (7,⟨[(4,1,9)],[],false,false⟩),
 (8,⟨[],[],false,false⟩),
 (9,⟨[(0,0,2),(1,0,103)],[[0,3,4]],false,false⟩),
 (10,⟨[(23,2,9)],[[1,2,6,7,11,12,14]],false,false⟩),
 (11,⟨[],[],false,false⟩),
 (12,⟨[(7,1,8),(8,1,8)],[],false,false⟩),
 (13,⟨[],[],false,false⟩),
 (14,⟨[],[[0,3,4]],false,false⟩),
 (15,⟨[],[],false,false⟩),
 (16,⟨[(1,0,103)],[[1,2,4,5,6]],false,false⟩),
 (17,⟨[],[],false,false⟩),
 (18,⟨[],[[1,2,4,6],[1,2,4,6,7,8]],false,false⟩),
 (19,⟨[],[[0,1,5]],false,false⟩),
 (20,⟨[(0,1,2)],[[1,2,5,7]],false,false⟩),
 (21,⟨[(0,0,2)],[[0,1,5]],false,false⟩),
 (22,⟨[],[],false,false⟩),
 (23,⟨[],[[0,3]],false,false⟩),
 (24,⟨[],[[0,3,4]],false,false⟩),
 (25,⟨[],[[0,5]],false,false⟩),
 (26,⟨[],[],false,false⟩),
 (27,⟨[],[],false,false⟩),
 (28,⟨[(19,1,9),(4,0,101)],[[0,2,4,7,8],[0,2,4,8,12,13]],false,false⟩),
 (29,⟨[],[],false,false⟩),
 (30,⟨[],[],false,false⟩),
 (31,⟨[(0,2,2),(1,0,103),(8,0,2),(11,0,2)],[[2,3,7,8,9]],false,false⟩),
 (32,⟨[],[],false,false⟩),
 (33,⟨[],[[1,2,4,6,7],[1,2,4,6,7,8,9]],false,false⟩),
 (34,⟨[],[],false,false⟩),
 (35,⟨[],[],false,false⟩),
 (36,⟨[(1,5,9),(1,33,9),(1,44,9)],[],false,false⟩),
 (37,⟨[(11,9,8)],[],false,false⟩),
 (38,⟨[(15,2,8),(13,10,9)],[],false,false⟩),
 (39,⟨[],[[0,3,4]],false,false⟩),
 (40,⟨[],[],false,false⟩),
 (41,⟨[(0,2,2)],[],false,false⟩),
 (42,⟨[(0,0,2),(3,0,2),(4,0,102),(9,0,2),(12,0,2),(16,0,2),(15,6,9)],[[0,4,5,7,8]],false,false⟩),
 (43,⟨[],[],false,false⟩),
 (44,⟨[(0,0,102),(3,0,102),(2,3,2)],[[0,1,5,6],[0,1,5,7]],false,false⟩),
 (45,⟨[],[[3,6,7,8]],false,false⟩),
 (46,⟨[],[[0,3]],false,false⟩),
 (47,⟨[],[[1,2,5]],false,false⟩),
 (48,⟨[(5,2,9)],[],false,false⟩),
 (49,⟨[],[],false,false⟩),
 (50,⟨[],[[0,1,7,8,9]],false,false⟩),
 (51,⟨[],[[1,4,5]],false,false⟩),
 (52,⟨[],[[0,3,4]],false,false⟩),
 (53,⟨[],[[1,5,6],[1,5,6,7]],false,false⟩),
 (54,⟨[(0,0,2)],[],false,false⟩),
 (55,⟨[(0,1,2),(1,0,101)],[[1,3,4]],false,false⟩),
 (56,⟨[],[],false,false⟩),
 (57,⟨[],[],false,false⟩),
 (58,⟨[(0,1,103)],[[0,3,5]],false,false⟩),
 (59,⟨[],[[0,7,8,9]],false,false⟩),
 (60,⟨[],[[0,1,7,8,9]],false,false⟩),
 (61,⟨[(3,5,8),(6,1,8),(6,5,8),(0,0,2),(6,6,2)],[],false,false⟩),
 (62,⟨[(0,0,2),(0,1,2),(1,0,103),(13,2,2)],[[0,1,6,11,12,13]],false,false⟩),
 (63,⟨[],[[0,5,6,17,18,19]],false,false⟩),
 (64,⟨[],[[3,6,7,8]],false,false⟩),
 (65,⟨[(5,0,101)],[[0,3,7,35,36,37]],false,false⟩),
 (66,⟨[],[[0,3]],false,false⟩),
 (67,⟨[],[],false,false⟩),
 (68,⟨[],[[0,3]],false,false⟩),
 (69,⟨[],[[3,6,7,8]],false,false⟩),
 (70,⟨[],[],false,false⟩),
 (71,⟨[],[],false,false⟩),
 (72,⟨[],[[1,2,3,4]],false,false⟩),
 (73,⟨[],[[0,1,5]],false,false⟩),
 (74,⟨[],[],false,false⟩),
 (75,⟨[],[[1,3]],false,false⟩),
 (76,⟨[],[],false,false⟩),
 (77,⟨[(0,0,2),(0,1,2),(2,0,2),(2,1,2),(3,0,103),(4,0,101)],[[0,1,8,9,10]],false,false⟩),
 (78,⟨[(0,0,2),(1,0,103)],[[0,1,5,6]],false,false⟩),
 (79,⟨[],[],false,false⟩),
 (80,⟨[],[[0,1,2,8,9,10]],false,false⟩),
 (81,⟨[],[],false,false⟩),
 (82,⟨[],[],true,true⟩),
 (83,⟨[],[],true,true⟩),
 (84,⟨[],[],false,false⟩),
 (85,⟨[],[],false,false⟩),
 (86,⟨[(10,5,7),(10,9,7),(10,11,8),(10,5,8),(10,9,8),(18,4,8),(22,3,8),(18,5,30),(22,4,30),(14,0,101),(8,4,9),(23,2,9)],[[3,6,9,12,14,87,88,89]],false,false⟩),
 (87,⟨[],[[1,5,6,12,13]],false,false⟩),
 (88,⟨[(6,18,8),(19,2,9),(14,4,8),(18,3,8),(14,5,30),(18,4,30),(10,0,102),(4,12,9)],[[3,6,10,13,15,84,85,86]],false,false⟩),
 (89,⟨[],[],false,false⟩),
 (90,⟨[],[],false,false⟩),
 (91,⟨[],[],false,false⟩),
 (92,⟨[],[],false,false⟩),
 (93,⟨[],[],false,false⟩),
 (94,⟨[],[],false,false⟩),
 (95,⟨[],[],false,false⟩),
 (96,⟨[],[],false,false⟩),
 (98,⟨[],[],false,false⟩),
 (99,⟨[],[],false,false⟩),
 (100,⟨[],[],false,false⟩),
 (101,⟨[(11,2,8),(13,3,8),(14,2,8)],[],false,false⟩),
 (102,⟨[(1,3,8)],[],false,false⟩),
 (103,⟨[],[],false,false⟩),
 (104,⟨[(1,2,8)],[],false,false⟩),
 (105,⟨[],[[0,1,2,8,9,10]],false,false⟩),
 (106,⟨[],[[3,10,11,12]],false,false⟩),
 (107,⟨[(0,1,2)],[[1,2,5,21,22,23]],false,false⟩),
 (108,⟨[],[],false,false⟩),
 (109,⟨[],[[2,4,10,11,12]],false,false⟩),
 (110,⟨[],[],false,false⟩),
 (111,⟨[(1,3,8)],[],false,false⟩),
 (112,⟨[],[],true,false⟩),
 (113,⟨[],[],false,false⟩),
 (114,⟨[],[],false,false⟩),
 (115,⟨[],[],false,false⟩),
 (116,⟨[(2,2,8)],[],false,false⟩),
 (117,⟨[],[[2,3,18,19,20]],false,false⟩),
 (118,⟨[],[],true,false⟩),
 (119,⟨[],[],false,false⟩),
 (120,⟨[],[[0,1,4],[0,1,2,3,4,9]],false,false⟩),
 (121,⟨[(0,0,2),(3,0,2),(4,0,102),(9,0,2),(14,0,2),(13,6,9)],[[0,5,7,23,24]],false,false⟩),
 (122,⟨[(7,3,9)],[[2,4,10,11,12]],false,false⟩),
 (123,⟨[],[],false,false⟩),
 (124,⟨[],[],false,false⟩),
 (125,⟨[],[],false,false⟩),
 (126,⟨[],[],false,false⟩),
 (127,⟨[(1,2,9)],[],false,false⟩),
 (128,⟨[],[],true,false⟩),
 (129,⟨[],[],false,false⟩),
 (130,⟨[],[],false,false⟩),
 (131,⟨[],[],false,false⟩),
 (132,⟨[],[[1,3,4]],false,false⟩),
 (133,⟨[],[],false,false⟩),
 (134,⟨[],[],false,false⟩),
 (135,⟨[(4,4,9)],[],false,false⟩),
 (136,⟨[],[[0,3,9,10]],false,false⟩),
 (137,⟨[(1,2,8)],[],false,false⟩),
 (138,⟨[(6,1,8),(7,1,8),(9,2,8),(10,1,8),(11,1,8),(12,1,8)],[],false,false⟩),
 (139,⟨[(2,2,8)],[],false,false⟩),
 (140,⟨[(3,3,0),(4,2,8),(3,2,8)],[],false,false⟩),
 (141,⟨[(0,0,2),(2,0,2),(4,0,2)],[],false,false⟩),
 (142,⟨[],[[3,7,8,9]],false,false⟩),
 (143,⟨[],[[0,1,5,6]],false,false⟩),
 (144,⟨[(0,0,2),(2,0,2)],[],false,false⟩),
 (145,⟨[],[],false,false⟩),
 (146,⟨[],[],false,false⟩),
 (147,⟨[(5,1,8),(0,0,2),(2,0,2)],[],false,false⟩),
 (148,⟨[(1,1,8),(5,3,8),(0,0,2)],[[5,10,11,12]],false,false⟩),
 (149,⟨[(5,5,8),(0,0,2),(2,0,2),(4,0,2),(5,6,2)],[],false,false⟩),
 (150,⟨[],[],false,false⟩),
 (151,⟨[],[],true,true⟩),
 (152,⟨[],[],false,false⟩),
 (153,⟨[(1,2,8)],[],false,false⟩),
 (154,⟨[],[],false,false⟩),
 (155,⟨[],[[0,1,7,8]],false,false⟩),
 (156,⟨[],[[0,5,6,7]],false,false⟩),
 (157,⟨[],[[2,4,10,11,12]],false,false⟩),
 (158,⟨[],[],false,false⟩),
 (159,⟨[],[],false,false⟩),
 (160,⟨[],[],false,false⟩),
 (161,⟨[],[[0,2,3]],false,false⟩),
 (162,⟨[],[],false,false⟩),
 (163,⟨[],[],false,false⟩),
 (164,⟨[],[],false,false⟩),
 (165,⟨[],[[1,4,19,20,21]],false,false⟩),
 (166,⟨[(1,2,8)],[],false,false⟩),
 (167,⟨[],[],false,false⟩),
 (168,⟨[(1,2,8)],[],false,false⟩),
 (169,⟨[],[],false,false⟩),
 (170,⟨[(1,3,8)],[],false,false⟩),
 (171,⟨[],[],true,true⟩),
 (172,⟨[(1,2,8)],[],false,false⟩),
 (173,⟨[],[],false,false⟩),
 (174,⟨[],[],false,false⟩),
 (175,⟨[],[],true,true⟩),
 (176,⟨[(3,3,8),(6,4,8),(12,4,8),(0,0,2)],[],true,false⟩),
 (178,⟨[],[],false,false⟩),
 (179,⟨[(3,4,8),(0,0,2),(2,0,2),(3,5,2)],[],false,false⟩),
 (180,⟨[],[],true,true⟩),
 (181,⟨[],[[1,3,27,28,29]],false,false⟩),
 (182,⟨[],[],false,false⟩),
 (183,⟨[],[],false,false⟩),
 (184,⟨[(8,2,8),(7,4,8),(12,4,8),(0,0,2),(2,0,2),(4,0,2),(12,5,2)],[],false,false⟩),
 (185,⟨[],[[0,1,2,8,9,10]],false,false⟩),
 (186,⟨[],[],false,false⟩),
 (187,⟨[(11,2,20)],[[0,1]],false,false⟩),
 (188,⟨[(11,3,9)],[],false,false⟩),
 (189,⟨[],[],false,false⟩),
 (190,⟨[(1,2,8)],[],false,false⟩),
 (191,⟨[],[],true,true⟩),
 (192,⟨[],[],true,true⟩),
 (193,⟨[],[],false,false⟩),
 (194,⟨[],[[0,8,9]],false,false⟩),
 (195,⟨[],[],false,false⟩),
 (196,⟨[],[[0,1,2,8,9,10]],false,false⟩),
 (197,⟨[],[],false,false⟩),
 (199,⟨[],[],false,false⟩),
 (200,⟨[],[[0,2,3]],false,false⟩),
 (201,⟨[],[],false,false⟩),
 (202,⟨[],[[0,2,3]],false,false⟩)]
noncomputable abbrev kS (f:Nat):Option AF:=compS Tryz.prog f (tv JR f)
noncomputable abbrev nL (f k:Nat) (xs:List AC):AC:=Wd Tryz.prog f (tv JR f) k xs
noncomputable abbrev nF (f:Nat) (xs:List AC):AF:=W5 Tryz.prog f (tv JR f) xs
def SK:AC:=nf (c:=nL 3 1 [])
def Ug:AC:=(nf (c:=fun y=>nL 3 0 [.skip,y])) SK
def a3:AF:=(nf (c:=fun x y=>nF 3 [x,y])) Ug SK
theorem s3:kS 3=some a3:=by kernel_rfl
def NV:AC:=nf (c:=nL 4 1 [])
def KD:AC:=(nf (c:=fun y=>nL 4 0 [.skip,y])) NV
def a4:AF:=(nf (c:=fun x y=>nF 4 [x,y])) KD NV
theorem s4:kS 4=some a4:=by kernel_rfl
def RX:AC:=nf (c:=nL 5 1 [])
def TD:AC:=(nf (c:=fun y=>nL 5 0 [.skip,y])) RX
def a5:AF:=(nf (c:=fun x y=>nF 5 [x,y])) TD RX
theorem s5:kS 5=some a5:=by kernel_rfl
def GH:AC:=nf (c:=nL 6 1 [])
def LG:AC:=(nf (c:=fun y=>nL 6 0 [.skip,y])) GH
def a6:AF:=(nf (c:=fun x y=>nF 6 [x,y])) LG GH
theorem s6:kS 6=some a6:=by kernel_rfl
def a7:AF:=nf (c:=nF 7 [])
theorem s7:kS 7=some a7:=by kernel_rfl
def a8:AF:=nf (c:=nF 8 [])
theorem s8:kS 8=some a8:=by kernel_rfl
def PB:AC:=nf (c:=nL 9 0 [])
def a9:AF:=(nf (c:=fun x=>nF 9 [x])) PB
theorem s9:kS 9=some a9:=by kernel_rfl
def jX:AC:=nf (c:=nL 10 0 [])
def tG:AF:=(nf (c:=fun x=>nF 10 [x])) jX
theorem VH:kS 10=some tG:=by kernel_rfl
def Vy:AF:=nf (c:=nF 11 [])
theorem WI:kS 11=some Vy:=by kernel_rfl
def Lh:AF:=nf (c:=nF 12 [])
theorem Uc:kS 12=some Lh:=by kernel_rfl
def Tu:AF:=nf (c:=nF 13 [])
theorem WZ:kS 13=some Tu:=by kernel_rfl
def TJ:AF:=nf (c:=nF 15 [])
theorem Wc:kS 15=some TJ:=by kernel_rfl
def vN:AC:=nf (c:=nL 16 0 [])
def UQ:AF:=(nf (c:=fun x=>nF 16 [x])) vN
theorem Wb:kS 16=some UQ:=by kernel_rfl
def Vd:AF:=nf (c:=nF 17 [])
theorem W7:kS 17=some Vd:=by kernel_rfl
def Be:AC:=nf (c:=nL 18 1 [])
def K8:AC:=(nf (c:=fun y=>nL 18 0 [.skip,y])) Be
def Th:AF:=(nf (c:=fun x y=>nF 18 [x,y])) K8 Be
theorem WQ:kS 18=some Th:=by kernel_rfl
def If:AC:=nf (c:=nL 19 0 [])
def U9:AF:=(nf (c:=fun x=>nF 19 [x])) If
theorem Xg:kS 19=some U9:=by kernel_rfl
def In:AC:=nf (c:=nL 20 0 [])
def Uf:AF:=(nf (c:=fun x=>nF 20 [x])) In
theorem WX:kS 20=some Uf:=by kernel_rfl
def KC:AC:=nf (c:=nL 21 0 [])
def Uj:AF:=(nf (c:=fun x=>nF 21 [x])) KC
theorem Wl:kS 21=some Uj:=by kernel_rfl
def QW:AC:=nf (c:=nL 24 0 [])
def a24:AF:=(nf (c:=fun x=>nF 24 [x])) QW
def E6:AC:=nf (c:=nL 25 0 [])
def T5:AF:=(nf (c:=fun x=>nF 25 [x])) E6
theorem Wf:kS 25=some T5:=by kernel_rfl
def Vq:AF:=nf (c:=nF 26 [])
theorem WP:kS 26=some Vq:=by kernel_rfl
def Tn:AF:=nf (c:=nF 27 [])
theorem VO:kS 27=some Tn:=by kernel_rfl
def fk:AC:=nf (c:=nL 28 1 [])
def hI:AC:=(nf (c:=fun y=>nL 28 0 [.skip,y])) fk
def rV:AF:=(nf (c:=fun x y=>nF 28 [x,y])) hI fk
theorem VK:kS 28=some rV:=by kernel_rfl
def VJ:AF:=nf (c:=nF 29 [])
theorem Xd:kS 29=some VJ:=by kernel_rfl
def V1:AF:=nf (c:=nF 30 [])
theorem W4:kS 30=some V1:=by kernel_rfl
def uY:AC:=nf (c:=nL 31 0 [])
def T1:AF:=(nf (c:=fun x=>nF 31 [x])) uY
theorem We:kS 31=some T1:=by kernel_rfl
def VD:AF:=nf (c:=nF 32 [])
theorem WY:kS 32=some VD:=by kernel_rfl
def sJ:AC:=nf (c:=nL 33 1 [])
def vQ:AC:=(nf (c:=fun y=>nL 33 0 [.skip,y])) sJ
def Q0:AF:=(nf (c:=fun x y=>nF 33 [x,y])) vQ sJ
theorem VA:kS 33=some Q0:=by kernel_rfl
def ST:AF:=nf (c:=nF 34 [])
theorem Xa:kS 34=some ST:=by kernel_rfl
def Ua:AF:=nf (c:=nF 35 [])
theorem Wa:kS 35=some Ua:=by kernel_rfl
def U2:AF:=nf (c:=nF 36 [])
theorem VT:kS 36=some U2:=by kernel_rfl
def Tg:AF:=nf (c:=nF 37 [])
theorem TV:kS 37=some Tg:=by kernel_rfl
def tU:AF:=nf (c:=nF 38 [])
theorem VF:kS 38=some tU:=by kernel_rfl
def KU:AC:=nf (c:=nL 39 0 [])
def Vc:AF:=(nf (c:=fun x=>nF 39 [x])) KU
theorem Xh:kS 39=some Vc:=by kernel_rfl
def VZ:AF:=nf (c:=nF 41 [])
theorem Wg:kS 41=some VZ:=by kernel_rfl
def sF:AC:=nf (c:=nL 42 0 [])
def PT:AF:=(nf (c:=fun x=>nF 42 [x])) sF
theorem V5:kS 42=some PT:=by kernel_rfl
def UL:AF:=nf (c:=nF 43 [])
theorem Wq:kS 43=some UL:=by kernel_rfl
def kE:AC:=nf (c:=nL 44 1 [])
def wH:AC:=(nf (c:=fun y=>nL 44 0 [.skip,y])) kE
def K3:AF:=(nf (c:=fun x y=>nF 44 [x,y])) wH kE
theorem V8:kS 44=some K3:=by kernel_rfl
def Iy:AC:=nf (c:=nL 45 0 [])
def TY:AF:=(nf (c:=fun x=>nF 45 [x])) Iy
theorem Wm:kS 45=some TY:=by kernel_rfl
def Fm:AC:=nf (c:=nL 47 0 [])
def VG:AF:=(nf (c:=fun x=>nF 47 [x])) Fm
theorem WC:kS 47=some VG:=by kernel_rfl
def S8:AF:=nf (c:=nF 48 [])
theorem WD:kS 48=some S8:=by kernel_rfl
def Mh:AF:=nf (c:=nF 49 [])
theorem W6:kS 49=some Mh:=by kernel_rfl
def sH:AC:=nf (c:=nL 50 0 [])
def U3:AF:=(nf (c:=fun x=>nF 50 [x])) sH
theorem WM:kS 50=some U3:=by kernel_rfl
def I7:AC:=nf (c:=nL 51 0 [])
def Vt:AF:=(nf (c:=fun x=>nF 51 [x])) I7
theorem VL:kS 51=some Vt:=by kernel_rfl
def Lb:AC:=nf (c:=nL 52 0 [])
def V3:AF:=(nf (c:=fun x=>nF 52 [x])) Lb
theorem WV:kS 52=some V3:=by kernel_rfl
def Ar:AC:=nf (c:=nL 53 1 [])
def H4:AC:=(nf (c:=fun y=>nL 53 0 [.skip,y])) Ar
def VE:AF:=(nf (c:=fun x y=>nF 53 [x,y])) H4 Ar
theorem Wo:kS 53=some VE:=by kernel_rfl
def VV:AF:=nf (c:=nF 54 [])
theorem Wi:kS 54=some VV:=by kernel_rfl
def Ec:AC:=nf (c:=nL 55 0 [])
def RN:AF:=(nf (c:=fun x=>nF 55 [x])) Ec
theorem VR:kS 55=some RN:=by kernel_rfl
def Tw:AF:=nf (c:=nF 56 [])
theorem Wx:kS 56=some Tw:=by kernel_rfl
def QC:AF:=nf (c:=nF 57 [])
theorem Wt:kS 57=some QC:=by kernel_rfl
def EA:AC:=nf (c:=nL 58 0 [])
def VX:AF:=(nf (c:=fun x=>nF 58 [x])) EA
theorem Ww:kS 58=some VX:=by kernel_rfl
def J3:AC:=nf (c:=nL 59 0 [])
def Ud:AF:=(nf (c:=fun x=>nF 59 [x])) J3
theorem WO:kS 59=some Ud:=by kernel_rfl
def IZ:AC:=nf (c:=nL 60 0 [])
def Vg:AF:=(nf (c:=fun x=>nF 60 [x])) IZ
theorem W0:kS 60=some Vg:=by kernel_rfl
def Pg:AF:=nf (c:=nF 61 [])
theorem WT:kS 61=some Pg:=by kernel_rfl
def Bw:AC:=nf (c:=nL 62 0 [])
def Ue:AF:=(nf (c:=fun x=>nF 62 [x])) Bw
theorem WS:kS 62=some Ue:=by kernel_rfl
def lM:AC:=nf (c:=nL 63 0 [])
def Gu:AF:=(nf (c:=fun x=>nF 63 [x])) lM
theorem Wk:kS 63=some Gu:=by kernel_rfl
def Jl:AC:=nf (c:=nL 64 0 [])
def VW:AF:=(nf (c:=fun x=>nF 64 [x])) Jl
theorem Ws:kS 64=some VW:=by kernel_rfl
def El:AC:=nf (c:=nL 65 0 [])
def S7:AF:=(nf (c:=fun x=>nF 65 [x])) El
theorem VM:kS 65=some S7:=by kernel_rfl
def HU:AC:=nf (c:=nL 66 0 [])
def V0:AF:=(nf (c:=fun x=>nF 66 [x])) HU
theorem WN:kS 66=some V0:=by kernel_rfl
def ub:AC:=nf (c:=nL 68 0 [])
def UC:AF:=(nf (c:=fun x=>nF 68 [x])) ub
theorem Xf:kS 68=some UC:=by kernel_rfl
def Lc:AC:=nf (c:=nL 69 0 [])
def Ve:AF:=(nf (c:=fun x=>nF 69 [x])) Lc
theorem WB:kS 69=some Ve:=by kernel_rfl
def Tp:AF:=nf (c:=nF 70 [])
theorem Wy:kS 70=some Tp:=by kernel_rfl
def DX:AF:=nf (c:=nF 71 [])
theorem V6:kS 71=some DX:=by kernel_rfl
def BG:AC:=nf (c:=nL 72 0 [])
def VS:AF:=(nf (c:=fun x=>nF 72 [x])) BG
theorem WW:kS 72=some VS:=by kernel_rfl
def AS:AC:=nf (c:=nL 73 0 [])
def Vz:AF:=(nf (c:=fun x=>nF 73 [x])) AS
theorem Wu:kS 73=some Vz:=by kernel_rfl
def Te:AF:=nf (c:=nF 74 [])
theorem WL:kS 74=some Te:=by kernel_rfl
def mP:AC:=nf (c:=nL 75 0 [])
def QE:AF:=(nf (c:=fun x=>nF 75 [x])) mP
theorem Xc:kS 75=some QE:=by kernel_rfl
def V2:AF:=nf (c:=nF 76 [])
theorem WA:kS 76=some V2:=by kernel_rfl
def xz:AC:=nf (c:=nL 77 0 [])
def Ti:AF:=(nf (c:=fun x=>nF 77 [x])) xz
theorem W8:kS 77=some Ti:=by kernel_rfl
def Eh:AC:=nf (c:=nL 78 0 [])
def Vx:AF:=(nf (c:=fun x=>nF 78 [x])) Eh
theorem Wn:kS 78=some Vx:=by kernel_rfl
def VY:AF:=nf (c:=nF 79 [])
theorem Wh:kS 79=some VY:=by kernel_rfl
def xB:AC:=nf (c:=nL 80 0 [])
def VI:AF:=(nf (c:=fun x=>nF 80 [x])) xB
theorem W2:kS 80=some VI:=by kernel_rfl
def VN:AF:=nf (c:=nF 81 [])
theorem Wj:kS 81=some VN:=by kernel_rfl
def M1:AF:=nf (c:=nF 84 [])
theorem RA:kS 84=some M1:=by kernel_rfl
def U7:AF:=nf (c:=nF 85 [])
theorem W9:kS 85=some U7:=by kernel_rfl
def Fo:AC:=nf (c:=nL 86 0 [])
def QD:AF:=(nf (c:=fun x=>nF 86 [x])) Fo
theorem VQ:kS 86=some QD:=by kernel_rfl
def JA:AC:=nf (c:=nL 87 0 [])
def VU:AF:=(nf (c:=fun x=>nF 87 [x])) JA
theorem WJ:kS 87=some VU:=by kernel_rfl
def Et:AC:=nf (c:=nL 88 0 [])
def N9:AF:=(nf (c:=fun x=>nF 88 [x])) Et
theorem VC:kS 88=some N9:=by kernel_rfl
def Ss:AF:=nf (c:=nF 89 [])
theorem Wz:kS 89=some Ss:=by kernel_rfl
def Vl:AF:=nf (c:=nF 91 [])
theorem WF:kS 91=some Vl:=by kernel_rfl
def Tf:AF:=nf (c:=nF 92 [])
theorem V7:kS 92=some Tf:=by kernel_rfl
def QJ:AF:=nf (c:=nF 93 [])
theorem Wr:kS 93=some QJ:=by kernel_rfl
def S6:AF:=nf (c:=nF 94 [])
theorem WE:kS 94=some S6:=by kernel_rfl
def SV:AF:=nf (c:=nF 95 [])
theorem V4:kS 95=some SV:=by kernel_rfl
def RD:AF:=nf (c:=nF 96 [])
theorem Xe:kS 96=some RD:=by kernel_rfl
def Uh:AF:=nf (c:=nF 99 [])
theorem Wv:kS 99=some Uh:=by kernel_rfl
def RB:AF:=nf (c:=nF 100 [])
theorem Tz:kS 100=some RB:=by kernel_rfl
def F5:AF:=nf (c:=nF 101 [])
theorem T8:kS 101=some F5:=by kernel_rfl
def R4:AF:=nf (c:=nF 102 [])
theorem Vs:kS 102=some R4:=by kernel_rfl
def Sb:AF:=nf (c:=nF 103 [])
theorem UW:kS 103=some Sb:=by kernel_rfl
def RP:AF:=nf (c:=nF 104 [])
theorem TH:kS 104=some RP:=by kernel_rfl
def uR:AC:=nf (c:=nL 105 0 [])
def NQ:AF:=(nf (c:=fun x=>nF 105 [x])) uR
theorem UK:kS 105=some NQ:=by kernel_rfl
def CH:AC:=nf (c:=nL 106 0 [])
def Pp:AF:=(nf (c:=fun x=>nF 106 [x])) CH
theorem UP:kS 106=some Pp:=by kernel_rfl
def zp:AC:=nf (c:=nL 107 0 [])
def L5:AF:=(nf (c:=fun x=>nF 107 [x])) zp
theorem Vo:kS 107=some L5:=by kernel_rfl
def Sh:AF:=nf (c:=nF 108 [])
theorem T2:kS 108=some Sh:=by kernel_rfl
def iG:AC:=nf (c:=nL 109 0 [])
def I3:AF:=(nf (c:=fun x=>nF 109 [x])) iG
theorem QP:kS 109=some I3:=by kernel_rfl
def Sq:AF:=nf (c:=nF 110 [])
theorem TK:kS 110=some Sq:=by kernel_rfl
def Rj:AF:=nf (c:=nF 111 [])
theorem Uq:kS 111=some Rj:=by kernel_rfl
def PV:AF:=nf (c:=nF 112 [])
theorem Rr:kS 112=some PV:=by kernel_rfl
def Si:AF:=nf (c:=nF 113 [])
theorem TG:kS 113=some Si:=by kernel_rfl
def R3:AF:=nf (c:=nF 114 [])
theorem UV:kS 114=some R3:=by kernel_rfl
def SL:AF:=nf (c:=nF 115 [])
theorem TX:kS 115=some SL:=by kernel_rfl
def QQ:AF:=nf (c:=nF 116 [])
theorem Vv:kS 116=some QQ:=by kernel_rfl
def DI:AC:=nf (c:=nL 117 0 [])
def Sk:AF:=(nf (c:=fun x=>nF 117 [x])) DI
theorem Vk:kS 117=some Sk:=by kernel_rfl
def RW:AF:=nf (c:=nF 118 [])
theorem US:kS 118=some RW:=by kernel_rfl
def O3:AF:=nf (c:=nF 119 [])
theorem UJ:kS 119=some O3:=by kernel_rfl
def yV:AC:=nf (c:=nL 120 1 [])
def CY:AC:=(nf (c:=fun y=>nL 120 0 [.skip,y])) yV
def QV:AF:=(nf (c:=fun x y=>nF 120 [x,y])) CY yV
theorem U5:kS 120=some QV:=by kernel_rfl
def oO:AC:=nf (c:=nL 121 0 [])
def CM:AF:=(nf (c:=fun x=>nF 121 [x])) oO
theorem UE:kS 121=some CM:=by kernel_rfl
def dS:AC:=nf (c:=nL 122 0 [])
def Jy:AF:=(nf (c:=fun x=>nF 122 [x])) dS
theorem Sw:kS 122=some Jy:=by kernel_rfl
def SJ:AF:=nf (c:=nF 123 [])
theorem Un:kS 123=some SJ:=by kernel_rfl
def SU:AF:=nf (c:=nF 124 [])
theorem U6:kS 124=some SU:=by kernel_rfl
def QS:AF:=nf (c:=nF 125 [])
theorem Uw:kS 125=some QS:=by kernel_rfl
def QI:AF:=nf (c:=nF 126 [])
theorem UB:kS 126=some QI:=by kernel_rfl
def RU:AF:=nf (c:=nF 127 [])
theorem UM:kS 127=some RU:=by kernel_rfl
def SW:AF:=nf (c:=nF 128 [])
theorem UH:kS 128=some SW:=by kernel_rfl
def Qh:AF:=nf (c:=nF 129 [])
theorem UR:kS 129=some Qh:=by kernel_rfl
def PA:AF:=nf (c:=nF 130 [])
theorem Vm:kS 130=some PA:=by kernel_rfl
def Pb:AF:=nf (c:=nF 131 [])
theorem T6:kS 131=some Pb:=by kernel_rfl
def CR:AC:=nf (c:=nL 132 0 [])
def QR:AF:=(nf (c:=fun x=>nF 132 [x])) CR
theorem Vu:kS 132=some QR:=by kernel_rfl
def NG:AF:=nf (c:=nF 133 [])
theorem Va:kS 133=some NG:=by kernel_rfl
def PF:AF:=nf (c:=nF 135 [])
theorem Tr:kS 135=some PF:=by kernel_rfl
def C0:AC:=nf (c:=nL 136 0 [])
def Q3:AF:=(nf (c:=fun x=>nF 136 [x])) C0
theorem Ui:kS 136=some Q3:=by kernel_rfl
def Sa:AF:=nf (c:=nF 137 [])
theorem U4:kS 137=some Sa:=by kernel_rfl
def yX:AF:=nf (c:=nF 138 [])
theorem TQ:kS 138=some yX:=by kernel_rfl
def Np:AF:=nf (c:=nF 139 [])
theorem Uo:kS 139=some Np:=by kernel_rfl
def ox:AF:=nf (c:=nF 140 [])
theorem O1:kS 140=some ox:=by kernel_rfl
def KG:AF:=nf (c:=nF 141 [])
theorem Qo:kS 141=some KG:=by kernel_rfl
def D3:AC:=nf (c:=nL 142 0 [])
def Sj:AF:=(nf (c:=fun x=>nF 142 [x])) D3
theorem TC:kS 142=some Sj:=by kernel_rfl
def D1:AC:=nf (c:=nL 143 0 [])
def Sl:AF:=(nf (c:=fun x=>nF 143 [x])) D1
theorem Vf:kS 143=some Sl:=by kernel_rfl
def Qq:AF:=nf (c:=nF 144 [])
theorem SY:kS 144=some Qq:=by kernel_rfl
def OT:AF:=nf (c:=nF 145 [])
theorem Vw:kS 145=some OT:=by kernel_rfl
def Li:AF:=nf (c:=nF 146 [])
theorem Uu:kS 146=some Li:=by kernel_rfl
def Qf:AF:=nf (c:=nF 147 [])
theorem Vj:kS 147=some Qf:=by kernel_rfl
def vR:AC:=nf (c:=nL 148 0 [])
def Oj:AF:=(nf (c:=fun x=>nF 148 [x])) vR
theorem TL:kS 148=some Oj:=by kernel_rfl
def Ly:AF:=nf (c:=nF 149 [])
theorem Pm:kS 149=some Ly:=by kernel_rfl
def Lp:AF:=nf (c:=nF 150 [])
theorem TE:kS 150=some Lp:=by kernel_rfl
def Ck:AF:=nf (c:=nF 152 [])
theorem So:kS 152=some Ck:=by kernel_rfl
def Rq:AF:=nf (c:=nF 153 [])
theorem TO:kS 153=some Rq:=by kernel_rfl
def Rb:AF:=nf (c:=nF 154 [])
theorem Tv:kS 154=some Rb:=by kernel_rfl
def nl:AC:=nf (c:=nL 155 0 [])
def Sy:AF:=(nf (c:=fun x=>nF 155 [x])) nl
theorem UZ:kS 155=some Sy:=by kernel_rfl
def pt:AC:=nf (c:=nL 156 0 [])
def Qy:AF:=(nf (c:=fun x=>nF 156 [x])) pt
theorem TM:kS 156=some Qy:=by kernel_rfl
def ym:AC:=nf (c:=nL 157 0 [])
def O4:AF:=(nf (c:=fun x=>nF 157 [x])) ym
theorem UF:kS 157=some O4:=by kernel_rfl
def QU:AF:=nf (c:=nF 158 [])
theorem UG:kS 158=some QU:=by kernel_rfl
def P5:AF:=nf (c:=nF 159 [])
theorem Uy:kS 159=some P5:=by kernel_rfl
def xM:AF:=nf (c:=nF 160 [])
theorem UA:kS 160=some xM:=by kernel_rfl
def QO:AF:=nf (c:=nF 162 [])
theorem Ut:kS 162=some QO:=by kernel_rfl
def Im:AF:=nf (c:=nF 163 [])
theorem SF:kS 163=some Im:=by kernel_rfl
def SX:AF:=nf (c:=nF 164 [])
theorem TZ:kS 164=some SX:=by kernel_rfl
def Dw:AC:=nf (c:=nL 165 0 [])
def Qt:AF:=(nf (c:=fun x=>nF 165 [x])) Dw
theorem Rz:kS 165=some Qt:=by kernel_rfl
def Ro:AF:=nf (c:=nF 166 [])
theorem Ts:kS 166=some Ro:=by kernel_rfl
def Re:AF:=nf (c:=nF 167 [])
theorem Tx:kS 167=some Re:=by kernel_rfl
def Ra:AF:=nf (c:=nF 168 [])
theorem T9:kS 168=some Ra:=by kernel_rfl
def RG:AF:=nf (c:=nF 169 [])
theorem Vp:kS 169=some RG:=by kernel_rfl
def Sp:AF:=nf (c:=nF 170 [])
theorem Uz:kS 170=some Sp:=by kernel_rfl
def Qi:AF:=nf (c:=nF 172 [])
theorem SI:kS 172=some Qi:=by kernel_rfl
def Ns:AF:=nf (c:=nF 173 [])
theorem TR:kS 173=some Ns:=by kernel_rfl
def Su:AF:=nf (c:=nF 174 [])
theorem Us:kS 174=some Su:=by kernel_rfl
def Hj:AF:=nf (c:=nF 176 [])
theorem Jg:kS 176=some Hj:=by kernel_rfl
def PL:AF:=nf (c:=nF 179 [])
theorem Q5:kS 179=some PL:=by kernel_rfl
def lm:AC:=nf (c:=nL 181 0 [])
def Hh:AF:=(nf (c:=fun x=>nF 181 [x])) lm
theorem UX:kS 181=some Hh:=by kernel_rfl
def Sx:AF:=nf (c:=nF 182 [])
theorem Vn:kS 182=some Sx:=by kernel_rfl
def RE:AF:=nf (c:=nF 183 [])
theorem U8:kS 183=some RE:=by kernel_rfl
def KH:AF:=nf (c:=nF 184 [])
theorem Pq:kS 184=some KH:=by kernel_rfl
def kf:AC:=nf (c:=nL 185 0 [])
def O2:AF:=(nf (c:=fun x=>nF 185 [x])) kf
theorem R9:kS 185=some O2:=by kernel_rfl
def L8:AF:=nf (c:=nF 186 [])
theorem U1:kS 186=some L8:=by kernel_rfl
def jO:AC:=nf (c:=nL 187 0 [])
def Oy:AF:=(nf (c:=fun x=>nF 187 [x])) jO
theorem Tq:kS 187=some Oy:=by kernel_rfl
def Ai:AF:=nf (c:=nF 188 [])
theorem Ux:kS 188=some Ai:=by kernel_rfl
def JP:AF:=nf (c:=nF 189 [])
theorem Ur:kS 189=some JP:=by kernel_rfl
def QX:AF:=nf (c:=nF 190 [])
theorem Um:kS 190=some QX:=by kernel_rfl
def y0:AC:=nf (c:=nL 194 0 [])
def OX:AF:=(nf (c:=fun x=>nF 194 [x])) y0
theorem Uv:kS 194=some OX:=by kernel_rfl
def Iv:AF:=nf (c:=nF 195 [])
theorem UO:kS 195=some Iv:=by kernel_rfl
def rQ:AC:=nf (c:=nL 196 0 [])
def RS:AF:=(nf (c:=fun x=>nF 196 [x])) rQ
theorem TW:kS 196=some RS:=by kernel_rfl
def SS:AF:=nf (c:=nF 197 [])
theorem Vh:kS 197=some SS:=by kernel_rfl
end
def lib:Lib:=⟨[(83,1,24),(171,3,40),(175,2,24)],[(82,1,24),(151,3,40),(192,2,24)],[(180,3),(191,2)]⟩
noncomputable abbrev call:cI:=eB (dG Tryz.prog (tv JR)) (mQ lib)
theorem V9 (rows:List (List D)) (h1:aV 1 rows=true) (h2:rows.length*24<=140737488355328) (h3:rows.length<=9223372036854775807) (H:Hp):ak call 83 [.one (.d (.l rows))] H=some (.one (.sl (H.length+1) 1 0 rows.length),H++[.dead,.arr 1 rows 0]):=nb rfl rfl rfl rfl rows h1 h2 h3 H
theorem Qg (rows:List (List D)) (h1:aV 3 rows=true) (h2:rows.length*40<=140737488355328) (h3:rows.length<=9223372036854775807) (H:Hp):ak call 171 [.one (.d (.l rows))] H=some (.one (.sl (H.length+1) 3 0 rows.length),H++[.dead,.arr 3 rows 0]):=nb rfl rfl rfl rfl rows h1 h2 h3 H
theorem UD (rows:List (List D)) (h1:aV 2 rows=true) (h2:rows.length*24<=140737488355328) (h3:rows.length<=9223372036854775807) (H:Hp):ak call 175 [.one (.d (.l rows))] H=some (.one (.sl (H.length+1) 2 0 rows.length),H++[.dead,.arr 2 rows 0]):=nb rfl rfl rfl rfl rows h1 h2 h3 H
end Go.Proofs.YtgoifbjgmgbihaaGreat
