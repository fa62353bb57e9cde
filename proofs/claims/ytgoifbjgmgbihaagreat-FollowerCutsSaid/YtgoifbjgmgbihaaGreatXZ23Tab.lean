import Derived.Test.YtgoifbjgmgbihaaGreatVid
import Derived.Test.YtgoifbjgmgbihaaGreatChecked
import Derived.KernelRfl
set_option linter.unusedSimpArgs false
set_option linter.unusedVariables false
set_option maxRecDepth 20000
set_option maxHeartbeats 16000000
namespace Go.Proofs.YtgoifbjgmgbihaaGreat
open Go.Vi
set_option maxRecDepth 100000
set_option maxHeartbeats 16000000
noncomputable section
def Hj:List (Nat × Ann):=[
 (3,⟨[],[[1,2,5,6,9,10],[1,5,6,9,11,12]],false,false⟩),
 (4,⟨[(1,9,9)],[[1,3,5,7,8,11,12],[8,17,19]],false,false⟩),
 (5,⟨[],[[1,3,4,7,8],[3,4,7,16]],false,false⟩),
 (6,⟨[],[[0,1,5],[1,6]],false,false⟩),
 (7,⟨[(4,1,9)],[],false,false⟩),
 (8,⟨[],[],false,false⟩),
 (9,⟨[(0,0,2),(1,0,103)],[[0,3,4]],false,false⟩),
 (10,⟨[(23,2,9)],[[1,2,6,7,11,12,14]],false,false⟩),
 (11,⟨[],[],false,false⟩),
 (12,⟨[(7,1,8),(8,1,8)],[],false,false⟩),
 (13,⟨[],[],false,false⟩),
 (14,⟨[],[[0,3,4]],false,false⟩),
 (15,⟨[],[],false,false⟩),
 (16,⟨[(1,0,103)],[[1,2,4,5,6]],false,false⟩),
 (17,⟨[],[],false,false⟩),
 (18,⟨[],[[1,2,4,6],[1,2,4,6,7,8]],false,false⟩),
 (19,⟨[],[[0,1,5]],false,false⟩),
 (20,⟨[(0,1,2)],[[1,2,5,7]],false,false⟩),
 (21,⟨[(0,0,2)],[[0,1,5]],false,false⟩),
 (22,⟨[],[],false,false⟩),
 (23,⟨[],[[0,3]],false,false⟩),
 (24,⟨[],[[0,3,4]],false,false⟩),
 (25,⟨[],[[0,5]],false,false⟩),
 (26,⟨[],[],false,false⟩),
 (27,⟨[],[],false,false⟩),
 (28,⟨[(19,1,9),(4,0,101)],[[0,2,4,7,8],[0,2,4,8,12,13]],false,false⟩),
 (29,⟨[],[],false,false⟩),
 (30,⟨[],[],false,false⟩),
 (31,⟨[(0,2,2),(1,0,103),(8,0,2),(11,0,2)],[[2,3,7,8,9]],false,false⟩),
 (32,⟨[],[],false,false⟩),
 (33,⟨[],[[1,2,4,6,7],[1,2,4,6,7,8,9]],false,false⟩),
 (34,⟨[],[],false,false⟩),
 (35,⟨[],[],false,false⟩),
 (36,⟨[(1,5,9),(1,33,9),(1,44,9)],[],false,false⟩),
 (37,⟨[(11,9,8)],[],false,false⟩),
 (38,⟨[(15,2,8),(13,10,9)],[],false,false⟩),
 (39,⟨[],[[0,3,4]],false,false⟩),
 (40,⟨[],[],false,false⟩),
 (41,⟨[(0,2,2)],[],false,false⟩),
 (42,⟨[(0,0,2),(3,0,2),(4,0,102),(9,0,2),(12,0,2),(16,0,2),(15,6,9)],[[0,4,5,7,8]],false,false⟩),
 (43,⟨[],[],false,false⟩),
 (44,⟨[(0,0,102),(3,0,102),(2,3,2)],[[0,1,5,6],[0,1,5,7]],false,false⟩),
 (45,⟨[],[[3,6,7,8]],false,false⟩),
 (46,⟨[],[[0,3]],false,false⟩),
 (47,⟨[],[[1,2,5]],false,false⟩),
 (48,⟨[(5,2,9)],[],false,false⟩),
 (49,⟨[],[],false,false⟩),
 (50,⟨[],[[0,1,7,8,9]],false,false⟩),
 (51,⟨[],[[1,4,5]],false,false⟩),
 (52,⟨[],[[0,3,4]],false,false⟩),
 (53,⟨[],[[1,5,6],[1,5,6,7]],false,false⟩),
 (54,⟨[(0,0,2)],[],false,false⟩),
 (55,⟨[(0,1,2),(1,0,101)],[[1,3,4]],false,false⟩),
 (56,⟨[],[],false,false⟩),
 (57,⟨[],[],false,false⟩),
 (58,⟨[(0,1,103)],[[0,3,5]],false,false⟩),
 (59,⟨[],[[0,7,8,9]],false,false⟩),
 (60,⟨[],[[0,1,7,8,9]],false,false⟩),
 (61,⟨[(3,5,8),(6,1,8),(6,5,8),(0,0,2),(6,6,2)],[],false,false⟩),
 (62,⟨[(0,0,2),(0,1,2),(1,0,103),(13,2,2)],[[0,1,6,11,12,13]],false,false⟩),
 (63,⟨[],[[0,5,6,17,18,19]],false,false⟩),
 (64,⟨[],[[3,6,7,8]],false,false⟩),
 (65,⟨[(5,0,101)],[[0,3,7,35,36,37]],false,false⟩),
 (66,⟨[],[[0,3]],false,false⟩),
 (67,⟨[],[],false,false⟩),
 (68,⟨[],[[0,3]],false,false⟩),
 (69,⟨[],[[3,6,7,8]],false,false⟩),
 (70,⟨[],[],false,false⟩),
 (71,⟨[],[],false,false⟩),
 (72,⟨[],[[1,2,3,4]],false,false⟩),
 (73,⟨[],[[0,1,5]],false,false⟩),
 (74,⟨[],[],false,false⟩),
 (75,⟨[],[[1,3]],false,false⟩),
 (76,⟨[],[],false,false⟩),
 (77,⟨[(0,0,2),(0,1,2),(2,0,2),(2,1,2),(3,0,103),(4,0,101)],[[0,1,8,9,10]],false,false⟩),
 (78,⟨[(0,0,2),(1,0,103)],[[0,1,5,6]],false,false⟩),
 (79,⟨[],[],false,false⟩),
 (80,⟨[],[[0,1,2,8,9,10]],false,false⟩),
 (81,⟨[],[],false,false⟩),
 (82,⟨[],[],true,true⟩),
 (83,⟨[],[],true,true⟩),
 (84,⟨[],[],false,false⟩),
 (85,⟨[],[],false,false⟩),
 (86,⟨[(10,5,7),(10,9,7),(10,11,8),(10,5,8),(10,9,8),(18,4,8),(22,3,8),(18,5,30),(22,4,30),(14,0,101),(8,4,9),(23,2,9)],[[3,6,9,12,14,87,88,89]],false,false⟩),
 (87,⟨[],[[1,5,6,12,13]],false,false⟩),
 (88,⟨[(6,18,8),(19,2,9),(14,4,8),(18,3,8),(14,5,30),(18,4,30),(10,0,102),(4,12,9)],[[3,6,10,13,15,84,85,86]],false,false⟩),
 (89,⟨[],[],false,false⟩),
 (90,⟨[],[],false,false⟩),
 (91,⟨[],[],false,false⟩),
 (92,⟨[],[],false,false⟩),
 (93,⟨[],[],false,false⟩),
 (94,⟨[],[],false,false⟩),
 (95,⟨[],[],false,false⟩),
 (96,⟨[],[],false,false⟩),
 (98,⟨[],[],false,false⟩),
 (99,⟨[],[],false,false⟩),
 (100,⟨[],[],false,false⟩),
 (101,⟨[(11,2,8),(13,3,8),(14,2,8)],[],false,false⟩),
 (102,⟨[(1,3,8)],[],false,false⟩),
 (103,⟨[],[],false,false⟩),
 (104,⟨[(1,2,8)],[],false,false⟩),
 (105,⟨[],[[0,1,2,8,9,10]],false,false⟩),
 (106,⟨[],[[3,10,11,12]],false,false⟩),
 (107,⟨[(0,1,2)],[[1,2,5,21,22,23]],false,false⟩),
 (108,⟨[],[],false,false⟩),
 (109,⟨[],[[2,4,10,11,12]],false,false⟩),
 (110,⟨[],[],false,false⟩),
 (111,⟨[(1,3,8)],[],false,false⟩),
 (112,⟨[],[],true,false⟩),
 (113,⟨[],[],false,false⟩),
 (114,⟨[],[],false,false⟩),
 (115,⟨[],[],false,false⟩),
 (116,⟨[(2,2,8)],[],false,false⟩),
 (117,⟨[],[[2,3,18,19,20]],false,false⟩),
 (118,⟨[],[],true,false⟩),
 (119,⟨[],[],false,false⟩),
 (120,⟨[],[[0,1,4],[0,1,2,3,4,9]],false,false⟩),
 (121,⟨[(0,0,2),(3,0,2),(4,0,102),(9,0,2),(14,0,2),(13,6,9)],[[0,5,7,23,24]],false,false⟩),
 (122,⟨[(7,3,9)],[[2,4,10,11,12]],false,false⟩),
 (123,⟨[],[],false,false⟩),
 (124,⟨[],[],false,false⟩),
 (125,⟨[],[],false,false⟩),
 (126,⟨[],[],false,false⟩),
 (127,⟨[(1,2,9)],[],false,false⟩),
 (128,⟨[],[],true,false⟩),
 (129,⟨[],[],false,false⟩),
 (130,⟨[],[],false,false⟩),
 (131,⟨[],[],false,false⟩),
 (132,⟨[],[[1,3,4]],false,false⟩),
 (133,⟨[],[],false,false⟩),
 (134,⟨[],[],false,false⟩),
 (135,⟨[(4,4,9)],[],false,false⟩),
 (136,⟨[],[[0,3,9,10]],false,false⟩),
 (137,⟨[(1,2,8)],[],false,false⟩),
 (138,⟨[(6,1,8),(7,1,8),(9,2,8),(10,1,8),(11,1,8),(12,1,8)],[],false,false⟩),
 (139,⟨[(2,2,8)],[],false,false⟩),
 (140,⟨[(3,3,0),(4,2,8),(3,2,8)],[],false,false⟩),
 (141,⟨[(0,0,2),(2,0,2),(4,0,2)],[],false,false⟩),
 (142,⟨[],[[3,7,8,9]],false,false⟩),
 (143,⟨[],[[0,1,5,6]],false,false⟩),
 (144,⟨[(0,0,2),(2,0,2)],[],false,false⟩),
 (145,⟨[],[],false,false⟩),
 (146,⟨[],[],false,false⟩),
 (147,⟨[(5,1,8),(0,0,2),(2,0,2)],[],false,false⟩),
 (148,⟨[(1,1,8),(5,3,8),(0,0,2)],[[5,10,11,12]],false,false⟩),
 (149,⟨[(5,5,8),(0,0,2),(2,0,2),(4,0,2),(5,6,2)],[],false,false⟩),
 (150,⟨[],[],false,false⟩),
 (151,⟨[],[],true,true⟩),
 (152,⟨[],[],false,false⟩),
 (153,⟨[(1,2,8)],[],false,false⟩),
 (154,⟨[],[],false,false⟩),
 (155,⟨[],[[0,1,7,8]],false,false⟩),
 (156,⟨[],[[0,5,6,7]],false,false⟩),
 (157,⟨[],[[2,4,10,11,12]],false,false⟩),
 (158,⟨[],[],false,false⟩),
 (159,⟨[],[],false,false⟩),
 (160,⟨[],[],false,false⟩),
 (161,⟨[],[[0,2,3]],false,false⟩),
 (162,⟨[],[],false,false⟩),
 (163,⟨[],[],false,false⟩),
 (164,⟨[],[],false,false⟩),
 (165,⟨[],[[1,4,19,20,21]],false,false⟩),
 (166,⟨[(1,2,8)],[],false,false⟩),
 (167,⟨[],[],false,false⟩),
 (168,⟨[(1,2,8)],[],false,false⟩),
 (169,⟨[],[],false,false⟩),
 (170,⟨[(1,3,8)],[],false,false⟩),
 (171,⟨[],[],true,true⟩),
 (172,⟨[(1,2,8)],[],false,false⟩),
 (173,⟨[],[],false,false⟩),
 (174,⟨[],[],false,false⟩),
 (175,⟨[],[],true,true⟩),
 (176,⟨[(3,3,8),(6,4,8),(12,4,8),(0,0,2)],[],true,false⟩),
 (178,⟨[],[],false,false⟩),
 (179,⟨[(3,4,8),(0,0,2),(2,0,2),(3,5,2)],[],false,false⟩),
 (180,⟨[],[],true,true⟩),
 (181,⟨[],[[1,3,27,28,29]],false,false⟩),
 (182,⟨[],[],false,false⟩),
 (183,⟨[],[],false,false⟩),
 (184,⟨[(8,2,8),(7,4,8),(12,4,8),(0,0,2),(2,0,2),(4,0,2),(12,5,2)],[],false,false⟩),
 (185,⟨[],[[0,1,2,8,9,10]],false,false⟩),
 (186,⟨[],[],false,false⟩),
 (187,⟨[(11,2,20)],[[0,1]],false,false⟩),
 (188,⟨[(11,3,9)],[],false,false⟩),
 (189,⟨[],[],false,false⟩),
 (190,⟨[(1,2,8)],[],false,false⟩),
 (191,⟨[],[],true,true⟩),
 (192,⟨[],[],true,true⟩),
 (193,⟨[],[],false,false⟩),
 (194,⟨[],[[0,8,9]],false,false⟩),
 (195,⟨[],[],false,false⟩),
 (196,⟨[],[[0,1,2,8,9,10]],false,false⟩),
 (197,⟨[],[],false,false⟩),
 (199,⟨[],[],false,false⟩),
 (200,⟨[],[[0,2,3]],false,false⟩),
 (201,⟨[],[],false,false⟩),
 (202,⟨[],[[0,2,3]],false,false⟩)]
noncomputable abbrev kS (f:Nat):Option AF:=compS Tryz.prog f (qy Hj f)
noncomputable abbrev nL (f k:Nat) (xs:List AC):AC:=Sk Tryz.prog f (qy Hj f) k xs
noncomputable abbrev nF (f:Nat) (xs:List AC):AF:=R1 Tryz.prog f (qy Hj f) xs
def FF:AC:=nf (c:=nL 3 1 [])
def Ja:AC:=(nf (c:=fun y=>nL 3 0 [.skip,y])) FF
def a3:AF:=(nf (c:=fun x y=>nF 3 [x,y])) Ja FF
theorem s3:kS 3=some a3:=by kernel_rfl
def Nw:AC:=nf (c:=nL 4 1 [])
def Qe:AC:=(nf (c:=fun y=>nL 4 0 [.skip,y])) Nw
def a4:AF:=(nf (c:=fun x y=>nF 4 [x,y])) Qe Nw
theorem s4:kS 4=some a4:=by kernel_rfl
def Nq:AC:=nf (c:=nL 5 1 [])
def QW:AC:=(nf (c:=fun y=>nL 5 0 [.skip,y])) Nq
def a5:AF:=(nf (c:=fun x y=>nF 5 [x,y])) QW Nq
theorem s5:kS 5=some a5:=by kernel_rfl
def Da:AC:=nf (c:=nL 6 1 [])
def JB:AC:=(nf (c:=fun y=>nL 6 0 [.skip,y])) Da
def a6:AF:=(nf (c:=fun x y=>nF 6 [x,y])) JB Da
theorem s6:kS 6=some a6:=by kernel_rfl
def a7:AF:=nf (c:=nF 7 [])
theorem s7:kS 7=some a7:=by kernel_rfl
def a8:AF:=nf (c:=nF 8 [])
theorem s8:kS 8=some a8:=by kernel_rfl
def KZ:AC:=nf (c:=nL 9 0 [])
def a9:AF:=(nf (c:=fun x=>nF 9 [x])) KZ
theorem s9:kS 9=some a9:=by kernel_rfl
def Na:AC:=nf (c:=nL 10 0 [])
def RZ:AF:=(nf (c:=fun x=>nF 10 [x])) Na
theorem Ss:kS 10=some RZ:=by kernel_rfl
def RE:AF:=nf (c:=nF 11 [])
theorem So:kS 11=some RE:=by kernel_rfl
def HH:AF:=nf (c:=nF 12 [])
theorem PA:kS 12=some HH:=by kernel_rfl
def QX:AF:=nf (c:=nF 13 [])
theorem R4:kS 13=some QX:=by kernel_rfl
def F0:AC:=nf (c:=nL 14 0 [])
def Rh:AF:=(nf (c:=fun x=>nF 14 [x])) F0
theorem SM:kS 14=some Rh:=by kernel_rfl
def FY:AC:=nf (c:=nL 21 0 [])
def Qj:AF:=(nf (c:=fun x=>nF 21 [x])) FY
theorem Sy:kS 21=some Qj:=by kernel_rfl
def Ns:AC:=nf (c:=nL 24 0 [])
def a24:AF:=(nf (c:=fun x=>nF 24 [x])) Ns
def BY:AC:=nf (c:=nL 25 0 [])
def Rp:AF:=(nf (c:=fun x=>nF 25 [x])) BY
theorem Sq:kS 25=some Rp:=by kernel_rfl
def QF:AF:=nf (c:=nF 26 [])
theorem R5:kS 26=some QF:=by kernel_rfl
def RI:AF:=nf (c:=nF 27 [])
theorem SV:kS 27=some RI:=by kernel_rfl
def RF:AF:=nf (c:=nF 30 [])
theorem SQ:kS 30=some RF:=by kernel_rfl
def Rw:AF:=nf (c:=nF 32 [])
theorem ST:kS 32=some Rw:=by kernel_rfl
def Kl:AC:=nf (c:=nL 33 1 [])
def Ka:AC:=(nf (c:=fun y=>nL 33 0 [.skip,y])) Kl
def Pu:AF:=(nf (c:=fun x y=>nF 33 [x,y])) Ka Kl
theorem Sx:kS 33=some Pu:=by kernel_rfl
def QE:AF:=nf (c:=nF 35 [])
theorem Sp:kS 35=some QE:=by kernel_rfl
def Rg:AF:=nf (c:=nF 36 [])
theorem Ry:kS 36=some Rg:=by kernel_rfl
def Pp:AF:=nf (c:=nF 37 [])
theorem Rs:kS 37=some Pp:=by kernel_rfl
def qT:AF:=nf (c:=nF 38 [])
theorem Rz:kS 38=some qT:=by kernel_rfl
def GX:AC:=nf (c:=nL 39 0 [])
def PT:AF:=(nf (c:=fun x=>nF 39 [x])) GX
theorem SI:kS 39=some PT:=by kernel_rfl
def Qf:AF:=nf (c:=nF 40 [])
theorem SD:kS 40=some Qf:=by kernel_rfl
def jm:AC:=nf (c:=nL 44 1 [])
def uA:AC:=(nf (c:=fun y=>nL 44 0 [.skip,y])) jm
def Fl:AF:=(nf (c:=fun x y=>nF 44 [x,y])) uA jm
theorem R8:kS 44=some Fl:=by kernel_rfl
def EH:AC:=nf (c:=nL 45 0 [])
def P8:AF:=(nf (c:=fun x=>nF 45 [x])) EH
theorem Se:kS 45=some P8:=by kernel_rfl
def Bk:AC:=nf (c:=nL 47 0 [])
def RW:AF:=(nf (c:=fun x=>nF 47 [x])) Bk
theorem SK:kS 47=some RW:=by kernel_rfl
def Pm:AF:=nf (c:=nF 48 [])
theorem S8:kS 48=some Pm:=by kernel_rfl
def EV:AC:=nf (c:=nL 51 0 [])
def QH:AF:=(nf (c:=fun x=>nF 51 [x])) EV
theorem RT:kS 51=some QH:=by kernel_rfl
def Gw:AC:=nf (c:=nL 52 0 [])
def RY:AF:=(nf (c:=fun x=>nF 52 [x])) Gw
theorem Sl:kS 52=some RY:=by kernel_rfl
def xj:AC:=nf (c:=nL 53 1 [])
def F7:AC:=(nf (c:=fun y=>nL 53 0 [.skip,y])) xj
def RP:AF:=(nf (c:=fun x y=>nF 53 [x,y])) F7 xj
theorem SY:kS 53=some RP:=by kernel_rfl
def Kq:AC:=nf (c:=nL 55 0 [])
def QM:AF:=(nf (c:=fun x=>nF 55 [x])) Kq
theorem Sf:kS 55=some QM:=by kernel_rfl
def Qb:AF:=nf (c:=nF 56 [])
theorem R3:kS 56=some Qb:=by kernel_rfl
def MR:AF:=nf (c:=nF 57 [])
theorem SU:kS 57=some MR:=by kernel_rfl
def BO:AC:=nf (c:=nL 58 0 [])
def RA:AF:=(nf (c:=fun x=>nF 58 [x])) BO
theorem R6:kS 58=some RA:=by kernel_rfl
def E3:AC:=nf (c:=nL 59 0 [])
def PZ:AF:=(nf (c:=fun x=>nF 59 [x])) E3
theorem Sv:kS 59=some PZ:=by kernel_rfl
def Hb:AC:=nf (c:=nL 60 0 [])
def QO:AF:=(nf (c:=fun x=>nF 60 [x])) Hb
theorem Sc:kS 60=some QO:=by kernel_rfl
def Ll:AF:=nf (c:=nF 61 [])
theorem Si:kS 61=some Ll:=by kernel_rfl
def yx:AC:=nf (c:=nL 62 0 [])
def Qs:AF:=(nf (c:=fun x=>nF 62 [x])) yx
theorem S7:kS 62=some Qs:=by kernel_rfl
def jQ:AC:=nf (c:=nL 63 0 [])
def Co:AF:=(nf (c:=fun x=>nF 63 [x])) jQ
theorem SX:kS 63=some Co:=by kernel_rfl
def Ho:AC:=nf (c:=nL 64 0 [])
def RK:AF:=(nf (c:=fun x=>nF 64 [x])) Ho
theorem SB:kS 64=some RK:=by kernel_rfl
def B8:AC:=nf (c:=nL 65 0 [])
def Po:AF:=(nf (c:=fun x=>nF 65 [x])) B8
theorem RB:kS 65=some Po:=by kernel_rfl
def EX:AC:=nf (c:=nL 66 0 [])
def RJ:AF:=(nf (c:=fun x=>nF 66 [x])) EX
theorem S6:kS 66=some RJ:=by kernel_rfl
def QC:AF:=nf (c:=nF 67 [])
theorem Sb:kS 67=some QC:=by kernel_rfl
def Fq:AC:=nf (c:=nL 69 0 [])
def PB:AF:=(nf (c:=fun x=>nF 69 [x])) Fq
theorem R7:kS 69=some PB:=by kernel_rfl
def Pd:AF:=nf (c:=nF 70 [])
theorem S9:kS 70=some Pd:=by kernel_rfl
def zm:AF:=nf (c:=nF 71 [])
theorem Sj:kS 71=some zm:=by kernel_rfl
def xa:AC:=nf (c:=nL 72 0 [])
def Rx:AF:=(nf (c:=fun x=>nF 72 [x])) xa
theorem SL:kS 72=some Rx:=by kernel_rfl
def Pq:AF:=nf (c:=nF 74 [])
theorem R9:kS 74=some Pq:=by kernel_rfl
def kZ:AC:=nf (c:=nL 75 0 [])
def MX:AF:=(nf (c:=fun x=>nF 75 [x])) kZ
theorem SA:kS 75=some MX:=by kernel_rfl
def RU:AF:=nf (c:=nF 76 [])
theorem SW:kS 76=some RU:=by kernel_rfl
def BR:AC:=nf (c:=nL 78 0 [])
def RS:AF:=(nf (c:=fun x=>nF 78 [x])) BR
theorem SF:kS 78=some RS:=by kernel_rfl
def RX:AF:=nf (c:=nF 79 [])
theorem Sh:kS 79=some RX:=by kernel_rfl
def uM:AC:=nf (c:=nL 80 0 [])
def RH:AF:=(nf (c:=fun x=>nF 80 [x])) uM
theorem SE:kS 80=some RH:=by kernel_rfl
def RC:AF:=nf (c:=nF 81 [])
theorem Sa:kS 81=some RC:=by kernel_rfl
def IC:AF:=nf (c:=nF 84 [])
theorem NO:kS 84=some IC:=by kernel_rfl
def PN:AF:=nf (c:=nF 85 [])
theorem Sw:kS 85=some PN:=by kernel_rfl
def BL:AC:=nf (c:=nL 86 0 [])
def MW:AF:=(nf (c:=fun x=>nF 86 [x])) BL
theorem RO:kS 86=some MW:=by kernel_rfl
def E2:AC:=nf (c:=nL 87 0 [])
def RG:AF:=(nf (c:=fun x=>nF 87 [x])) E2
theorem SO:kS 87=some RG:=by kernel_rfl
def Ce:AC:=nf (c:=nL 88 0 [])
def Kw:AF:=(nf (c:=fun x=>nF 88 [x])) Ce
theorem RN:kS 88=some Kw:=by kernel_rfl
def NX:AF:=nf (c:=nF 89 [])
theorem SP:kS 89=some NX:=by kernel_rfl
def RD:AF:=nf (c:=nF 90 [])
theorem Sm:kS 90=some RD:=by kernel_rfl
def QJ:AF:=nf (c:=nF 91 [])
theorem Su:kS 91=some QJ:=by kernel_rfl
def Pi:AF:=nf (c:=nF 92 [])
theorem R0:kS 92=some Pi:=by kernel_rfl
def Np:AF:=nf (c:=nF 93 [])
theorem Sd:kS 93=some Np:=by kernel_rfl
def Pk:AF:=nf (c:=nF 94 [])
theorem S5:kS 94=some Pk:=by kernel_rfl
def M4:AF:=nf (c:=nF 96 [])
theorem SH:kS 96=some M4:=by kernel_rfl
def Rq:AF:=nf (c:=nF 99 [])
theorem SS:kS 99=some Rq:=by kernel_rfl
def OR:AF:=nf (c:=nF 100 [])
theorem Qk:kS 100=some OR:=by kernel_rfl
def DP:AF:=nf (c:=nF 101 [])
theorem PW:kS 101=some DP:=by kernel_rfl
def No:AF:=nf (c:=nF 102 [])
theorem Ru:kS 102=some No:=by kernel_rfl
def NE:AF:=nf (c:=nF 103 [])
theorem PG:kS 103=some NE:=by kernel_rfl
def NQ:AF:=nf (c:=nF 104 [])
theorem QD:kS 104=some NQ:=by kernel_rfl
def rZ:AC:=nf (c:=nL 105 0 [])
def HT:AF:=(nf (c:=fun x=>nF 105 [x])) rZ
theorem QQ:kS 105=some HT:=by kernel_rfl
def AH:AC:=nf (c:=nL 106 0 [])
def L3:AF:=(nf (c:=fun x=>nF 106 [x])) AH
theorem Qn:kS 106=some L3:=by kernel_rfl
def ve:AC:=nf (c:=nL 107 0 [])
def J9:AF:=(nf (c:=fun x=>nF 107 [x])) ve
theorem Q5:kS 107=some J9:=by kernel_rfl
def OX:AF:=nf (c:=nF 108 [])
theorem Rt:kS 108=some OX:=by kernel_rfl
def gl:AC:=nf (c:=nL 109 0 [])
def Fc:AF:=(nf (c:=fun x=>nF 109 [x])) gl
theorem Nr:kS 109=some Fc:=by kernel_rfl
def Nu:AF:=nf (c:=nF 110 [])
theorem Qx:kS 110=some Nu:=by kernel_rfl
def O4:AF:=nf (c:=nF 111 [])
theorem PC:kS 111=some O4:=by kernel_rfl
def Lp:AF:=nf (c:=nF 112 [])
theorem NV:kS 112=some Lp:=by kernel_rfl
def NU:AF:=nf (c:=nF 113 [])
theorem PD:kS 113=some NU:=by kernel_rfl
def NA:AF:=nf (c:=nF 114 [])
theorem Pt:kS 114=some NA:=by kernel_rfl
def Ng:AF:=nf (c:=nF 115 [])
theorem Qu:kS 115=some Ng:=by kernel_rfl
def Om:AF:=nf (c:=nF 116 [])
theorem P6:kS 116=some Om:=by kernel_rfl
def yY:AC:=nf (c:=nL 117 0 [])
def M9:AF:=(nf (c:=fun x=>nF 117 [x])) yY
theorem Qy:kS 117=some M9:=by kernel_rfl
def OD:AF:=nf (c:=nF 118 [])
theorem Pw:kS 118=some OD:=by kernel_rfl
def LQ:AF:=nf (c:=nF 119 [])
theorem QY:kS 119=some LQ:=by kernel_rfl
def vI:AC:=nf (c:=nL 120 1 [])
def yN:AC:=(nf (c:=fun y=>nL 120 0 [.skip,y])) vI
def M2:AF:=(nf (c:=fun x y=>nF 120 [x,y])) yN vI
theorem QS:kS 120=some M2:=by kernel_rfl
def nv:AC:=nf (c:=nL 121 0 [])
def yT:AF:=(nf (c:=fun x=>nF 121 [x])) nv
theorem QV:kS 121=some yT:=by kernel_rfl
def dp:AC:=nf (c:=nL 122 0 [])
def F8:AF:=(nf (c:=fun x=>nF 122 [x])) dp
theorem Ny:kS 122=some F8:=by kernel_rfl
def Of:AF:=nf (c:=nF 123 [])
theorem Px:kS 123=some Of:=by kernel_rfl
def OZ:AF:=nf (c:=nF 124 [])
theorem PX:kS 124=some OZ:=by kernel_rfl
def Nj:AF:=nf (c:=nF 125 [])
theorem Rd:kS 125=some Nj:=by kernel_rfl
def N1:AF:=nf (c:=nF 126 [])
theorem PR:kS 126=some N1:=by kernel_rfl
def O8:AF:=nf (c:=nF 127 [])
theorem Ro:kS 127=some O8:=by kernel_rfl
def NR:AF:=nf (c:=nF 128 [])
theorem QB:kS 128=some NR:=by kernel_rfl
def MP:AF:=nf (c:=nF 129 [])
theorem PS:kS 129=some MP:=by kernel_rfl
def Mj:AF:=nf (c:=nF 130 [])
theorem P4:kS 130=some Mj:=by kernel_rfl
def Lk:AF:=nf (c:=nF 131 [])
theorem Q0:kS 131=some Lk:=by kernel_rfl
def Aj:AC:=nf (c:=nL 132 0 [])
def OA:AF:=(nf (c:=fun x=>nF 132 [x])) Aj
theorem Qo:kS 132=some OA:=by kernel_rfl
def JF:AF:=nf (c:=nF 133 [])
theorem Qz:kS 133=some JF:=by kernel_rfl
def Lq:AF:=nf (c:=nF 135 [])
theorem PV:kS 135=some Lq:=by kernel_rfl
def Ab:AC:=nf (c:=nL 136 0 [])
def MZ:AF:=(nf (c:=fun x=>nF 136 [x])) Ab
theorem PP:kS 136=some MZ:=by kernel_rfl
def Oo:AF:=nf (c:=nF 137 [])
theorem Qm:kS 137=some Oo:=by kernel_rfl
def wl:AF:=nf (c:=nF 138 [])
theorem Q8:kS 138=some wl:=by kernel_rfl
def IX:AF:=nf (c:=nF 139 [])
theorem Qi:kS 139=some IX:=by kernel_rfl
def mJ:AF:=nf (c:=nF 140 [])
theorem Lw:kS 140=some mJ:=by kernel_rfl
def Gs:AF:=nf (c:=nF 141 [])
theorem KP:kS 141=some Gs:=by kernel_rfl
def y9:AC:=nf (c:=nL 142 0 [])
def Ou:AF:=(nf (c:=fun x=>nF 142 [x])) y9
theorem Rf:kS 142=some Ou:=by kernel_rfl
def Bc:AC:=nf (c:=nL 143 0 [])
def N0:AF:=(nf (c:=fun x=>nF 143 [x])) Bc
theorem QI:kS 143=some N0:=by kernel_rfl
def KG:AF:=nf (c:=nF 144 [])
theorem N3:kS 144=some KG:=by kernel_rfl
def Mi:AF:=nf (c:=nF 145 [])
theorem Qw:kS 145=some Mi:=by kernel_rfl
def Ia:AF:=nf (c:=nF 146 [])
theorem PL:kS 146=some Ia:=by kernel_rfl
def Ln:AF:=nf (c:=nF 147 [])
theorem Q9:kS 147=some Ln:=by kernel_rfl
def sd:AC:=nf (c:=nL 148 0 [])
def LA:AF:=(nf (c:=fun x=>nF 148 [x])) sd
theorem Q6:kS 148=some LA:=by kernel_rfl
def JQ:AF:=nf (c:=nF 149 [])
theorem L8:kS 149=some JQ:=by kernel_rfl
def HZ:AF:=nf (c:=nF 150 [])
theorem Rr:kS 150=some HZ:=by kernel_rfl
def AR:AF:=nf (c:=nF 152 [])
theorem Nv:kS 152=some AR:=by kernel_rfl
def NB:AF:=nf (c:=nF 153 [])
theorem Pz:kS 153=some NB:=by kernel_rfl
def NN:AF:=nf (c:=nF 154 [])
theorem P3:kS 154=some NN:=by kernel_rfl
def lN:AC:=nf (c:=nL 155 0 [])
def Nm:AF:=(nf (c:=fun x=>nF 155 [x])) lN
theorem PU:kS 155=some Nm:=by kernel_rfl
def nh:AC:=nf (c:=nL 156 0 [])
def MF:AF:=(nf (c:=fun x=>nF 156 [x])) nh
theorem QT:kS 156=some MF:=by kernel_rfl
def vj:AC:=nf (c:=nL 157 0 [])
def K8:AF:=(nf (c:=fun x=>nF 157 [x])) vj
theorem Ri:kS 157=some K8:=by kernel_rfl
def Oj:AF:=nf (c:=nF 158 [])
theorem Q3:kS 158=some Oj:=by kernel_rfl
def KB:AF:=nf (c:=nF 159 [])
theorem PQ:kS 159=some KB:=by kernel_rfl
def vX:AF:=nf (c:=nF 160 [])
theorem QA:kS 160=some vX:=by kernel_rfl
def Ow:AF:=nf (c:=nF 162 [])
theorem PE:kS 162=some Ow:=by kernel_rfl
def EC:AF:=nf (c:=nF 163 [])
theorem Og:kS 163=some EC:=by kernel_rfl
def M3:AF:=nf (c:=nF 164 [])
theorem P9:kS 164=some M3:=by kernel_rfl
def yX:AC:=nf (c:=nL 165 0 [])
def Lt:AF:=(nf (c:=fun x=>nF 165 [x])) yX
theorem Nc:kS 165=some Lt:=by kernel_rfl
def NM:AF:=nf (c:=nF 166 [])
theorem QP:kS 166=some NM:=by kernel_rfl
def NK:AF:=nf (c:=nF 167 [])
theorem P0:kS 167=some NK:=by kernel_rfl
def O0:AF:=nf (c:=nF 168 [])
theorem Rl:kS 168=some O0:=by kernel_rfl
def Oh:AF:=nf (c:=nF 169 [])
theorem QZ:kS 169=some Oh:=by kernel_rfl
def ND:AF:=nf (c:=nF 170 [])
theorem P5:kS 170=some ND:=by kernel_rfl
def KE:AF:=nf (c:=nF 172 [])
theorem NC:kS 172=some KE:=by kernel_rfl
def IY:AF:=nf (c:=nF 173 [])
theorem Qp:kS 173=some IY:=by kernel_rfl
def NJ:AF:=nf (c:=nF 174 [])
theorem Qg:kS 174=some NJ:=by kernel_rfl
def CD:AF:=nf (c:=nF 176 [])
theorem Ft:kS 176=some CD:=by kernel_rfl
def Mc:AF:=nf (c:=nF 179 [])
theorem OH:kS 179=some Mc:=by kernel_rfl
def jH:AC:=nf (c:=nL 181 0 [])
def CW:AF:=(nf (c:=fun x=>nF 181 [x])) jH
theorem PF:kS 181=some CW:=by kernel_rfl
def Ol:AF:=nf (c:=nF 182 [])
theorem Rj:kS 182=some Ol:=by kernel_rfl
def Oi:AF:=nf (c:=nF 183 [])
theorem Ql:kS 183=some Oi:=by kernel_rfl
def G4:AF:=nf (c:=nF 184 [])
theorem Ly:kS 184=some G4:=by kernel_rfl
def iQ:AC:=nf (c:=nL 185 0 [])
def Lf:AF:=(nf (c:=fun x=>nF 185 [x])) iQ
theorem NH:kS 185=some Lf:=by kernel_rfl
def JG:AF:=nf (c:=nF 186 [])
theorem Pv:kS 186=some JG:=by kernel_rfl
def iX:AC:=nf (c:=nL 187 0 [])
def LV:AF:=(nf (c:=fun x=>nF 187 [x])) iX
theorem QG:kS 187=some LV:=by kernel_rfl
def xc:AF:=nf (c:=nF 188 [])
theorem Rm:kS 188=some xc:=by kernel_rfl
def GV:AF:=nf (c:=nF 189 [])
theorem Rk:kS 189=some GV:=by kernel_rfl
def OG:AF:=nf (c:=nF 190 [])
theorem Qc:kS 190=some OG:=by kernel_rfl
def wt:AC:=nf (c:=nL 194 0 [])
def Lm:AF:=(nf (c:=fun x=>nF 194 [x])) wt
theorem PO:kS 194=some Lm:=by kernel_rfl
def Gq:AF:=nf (c:=nF 195 [])
theorem PJ:kS 195=some Gq:=by kernel_rfl
def pH:AC:=nf (c:=nL 196 0 [])
def OY:AF:=(nf (c:=fun x=>nF 196 [x])) pH
theorem Ra:kS 196=some OY:=by kernel_rfl
def Pa:AF:=nf (c:=nF 197 [])
theorem Qv:kS 197=some Pa:=by kernel_rfl
end
def lib:Lib:=⟨[(83,1,24),(171,3,40),(175,2,24)],[(82,1,24),(151,3,40),(192,2,24)],[(180,3),(191,2)]⟩
noncomputable abbrev call:ch:=dD (db Tryz.prog (qy Hj)) (kV lib)
theorem Sz (rows:List (List D)) (h1:aR 1 rows=true) (h2:rows.length*24<=140737488355328) (h3:rows.length<=9223372036854775807) (H:Hp):au call 83 [.one (.d (.l rows))] H=some (.one (.sl (H.length+1) 1 0 rows.length),H++[.dead,.arr 1 rows 0]):=lH rfl rfl rfl rfl rows h1 h2 h3 H
theorem Lu (rows:List (List D)) (h1:aR 3 rows=true) (h2:rows.length*40<=140737488355328) (h3:rows.length<=9223372036854775807) (H:Hp):au call 171 [.one (.d (.l rows))] H=some (.one (.sl (H.length+1) 3 0 rows.length),H++[.dead,.arr 3 rows 0]):=lH rfl rfl rfl rfl rows h1 h2 h3 H
theorem Q4 (rows:List (List D)) (h1:aR 2 rows=true) (h2:rows.length*24<=140737488355328) (h3:rows.length<=9223372036854775807) (H:Hp):au call 175 [.one (.d (.l rows))] H=some (.one (.sl (H.length+1) 2 0 rows.length),H++[.dead,.arr 2 rows 0]):=lH rfl rfl rfl rfl rows h1 h2 h3 H
end Go.Proofs.YtgoifbjgmgbihaaGreat
