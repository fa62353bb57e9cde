import Derived.Test.YtgoifbjgmgbihaaGreatVid
import Derived.Test.YtgoifbjgmgbihaaGreatChecked
import Derived.KernelRfl
set_option linter.unusedSimpArgs false
set_option linter.unusedVariables false
set_option maxRecDepth 20000
set_option maxHeartbeats 16000000
namespace Go.Proofs.YtgoifbjgmgbihaaGreat
open Go.Vi
set_option maxRecDepth 100000
set_option maxHeartbeats 16000000
noncomputable section
def Gw:List (Nat × Ann):=[
 (3,⟨[],[[1,2,5,6,9,10],[1,5,6,9,11,12]],false,false⟩),
 (4,⟨[(1,9,9)],[[1,3,5,7,8,11,12],[8,17,19]],false,false⟩),
 (5,⟨[],[[1,3,4,7,8],[3,4,7,16]],false,false⟩),
 (6,⟨[],[[0,1,5],[1,6]],false,false⟩),
 (7,⟨[(4,1,9)],[],false,false⟩),
 (8,⟨[],[],false,false⟩),
 (9,⟨[(0,0,2),(1,0,103)],[[0,3,4]],false,false⟩),
 (10,⟨[(23,2,9)],[[1,2,6,7,11,12,14]],false,false⟩),
 (11,⟨[],[],false,false⟩),
 (12,⟨[(7,1,8),(8,1,8)],[],false,false⟩),
 (13,⟨[],[],false,false⟩),
 (14,⟨[],[[0,3,4]],false,false⟩),
 (15,⟨[],[],false,false⟩),
 (16,⟨[(1,0,103)],[[1,2,4,5,6]],false,false⟩),
 (17,⟨[],[],false,false⟩),
 (18,⟨[],[[1,2,4,6],[1,2,4,6,7,8]],false,false⟩),
 (19,⟨[],[[0,1,5]],false,false⟩),
 (20,⟨[(0,1,2)],[[1,2,5,7]],false,false⟩),
 (21,⟨[(0,0,2)],[[0,1,5]],false,false⟩),
 (22,⟨[],[],false,false⟩),
 (23,⟨[],[[0,3]],false,false⟩),
 (24,⟨[],[[0,3,4]],false,false⟩),
 (25,⟨[],[[0,5]],false,false⟩),
 (26,⟨[],[],false,false⟩),
 (27,⟨[],[],false,false⟩),
 (28,⟨[(19,1,9),(4,0,101)],[[0,2,4,7,8],[0,2,4,8,12,13]],false,false⟩),
 (29,⟨[],[],false,false⟩),
 (30,⟨[],[],false,false⟩),
 (31,⟨[(0,2,2),(1,0,103),(8,0,2),(11,0,2)],[[2,3,7,8,9]],false,false⟩),
 (32,⟨[],[],false,false⟩),
 (33,⟨[],[[1,2,4,6,7],[1,2,4,6,7,8,9]],false,false⟩),
 (34,⟨[],[],false,false⟩),
 (35,⟨[],[],false,false⟩),
 (36,⟨[(1,5,9),(1,33,9),(1,44,9)],[],false,false⟩),
 (37,⟨[(11,9,8)],[],false,false⟩),
 (38,⟨[(15,2,8),(13,10,9)],[],false,false⟩),
 (39,⟨[],[[0,3,4]],false,false⟩),
 (40,⟨[],[],false,false⟩),
 (41,⟨[(0,2,2)],[],false,false⟩),
 (42,⟨[(0,0,2),(3,0,2),(4,0,102),(9,0,2),(12,0,2),(16,0,2),(15,6,9)],[[0,4,5,7,8]],false,false⟩),
 (43,⟨[],[],false,false⟩),
 (44,⟨[(0,0,102),(3,0,102),(2,3,2)],[[0,1,5,6],[0,1,5,7]],false,false⟩),
 (45,⟨[],[[3,6,7,8]],false,false⟩),
 (46,⟨[],[[0,3]],false,false⟩),
 (47,⟨[],[[1,2,5]],false,false⟩),
 (48,⟨[(5,2,9)],[],false,false⟩),
 (49,⟨[],[],false,false⟩),
 (50,⟨[],[[0,1,7,8,9]],false,false⟩),
 (51,⟨[],[[1,4,5]],false,false⟩),
 (52,⟨[],[[0,3,4]],false,false⟩),
 (53,⟨[],[[1,5,6],[1,5,6,7]],false,false⟩),
 (54,⟨[(0,0,2)],[],false,false⟩),
 (55,⟨[(0,1,2),(1,0,101)],[[1,3,4]],false,false⟩),
 (56,⟨[],[],false,false⟩),
 (57,⟨[],[],false,false⟩),
 (58,⟨[(0,1,103)],[[0,3,5]],false,false⟩),
 (59,⟨[],[[0,7,8,9]],false,false⟩),
 (60,⟨[],[[0,1,7,8,9]],false,false⟩),
 (61,⟨[(3,5,8),(6,1,8),(6,5,8),(0,0,2),(6,6,2)],[],false,false⟩),
 (62,⟨[(0,0,2),(0,1,2),(1,0,103),(13,2,2)],[[0,1,6,11,12,13]],false,false⟩),
 (63,⟨[],[[0,5,6,17,18,19]],false,false⟩),
 (64,⟨[],[[3,6,7,8]],false,false⟩),
 (65,⟨[(5,0,101)],[[0,3,7,35,36,37]],false,false⟩),
 (66,⟨[],[[0,3]],false,false⟩),
 (67,⟨[],[],false,false⟩),
 (68,⟨[],[[0,3]],false,false⟩),
 (69,⟨[],[[3,6,7,8]],false,false⟩),
 (70,⟨[],[],false,false⟩),
 (71,⟨[],[],false,false⟩),
 (72,⟨[],[[1,2,3,4]],false,false⟩),
 (73,⟨[],[[0,1,5]],false,false⟩),
 (74,⟨[],[],false,false⟩),
 (75,⟨[],[[1,3]],false,false⟩),
 (76,⟨[],[],false,false⟩),
 (77,⟨[(0,0,2),(0,1,2),(2,0,2),(2,1,2),(3,0,103),(4,0,101)],[[0,1,8,9,10]],false,false⟩),
 (78,⟨[(0,0,2),(1,0,103)],[[0,1,5,6]],false,false⟩),
 (79,⟨[],[],false,false⟩),
 (80,⟨[],[[0,1,2,8,9,10]],false,false⟩),
 (81,⟨[],[],false,false⟩),
 (82,⟨[],[],true,true⟩),
 (83,⟨[],[],true,true⟩),
 (84,⟨[],[],false,false⟩),
 (85,⟨[],[],false,false⟩),
 (86,⟨[(10,5,7),(10,9,7),(10,11,8),(10,5,8),(10,9,8),(18,4,8),(22,3,8),(18,5,30),(22,4,30),(14,0,101),(8,4,9),(23,2,9)],[[3,6,9,12,14,87,88,89]],false,false⟩),
 (87,⟨[],[[1,5,6,12,13]],false,false⟩),
 (88,⟨[(6,18,8),(19,2,9),(14,4,8),(18,3,8),(14,5,30),(18,4,30),(10,0,102),(4,12,9)],[[3,6,10,13,15,84,85,86]],false,false⟩),
 (89,⟨[],[],false,false⟩),
 (90,⟨[],[],false,false⟩),
 (91,⟨[],[],false,false⟩),
 (92,⟨[],[],false,false⟩),
 (93,⟨[],[],false,false⟩),
 (94,⟨[],[],false,false⟩),
 (95,⟨[],[],false,false⟩),
 (96,⟨[],[],false,false⟩),
 (98,⟨[],[],false,false⟩),
 (99,⟨[],[],false,false⟩),
 (100,⟨[],[],false,false⟩),
 (101,⟨[(11,2,8),(13,3,8),(14,2,8)],[],false,false⟩),
 (102,⟨[(1,3,8)],[],false,false⟩),
 (103,⟨[],[],false,false⟩),
 (104,⟨[(1,2,8)],[],false,false⟩),
 (105,⟨[],[[0,1,2,8,9,10]],false,false⟩),
 (106,⟨[],[[3,10,11,12]],false,false⟩),
 (107,⟨[(0,1,2)],[[1,2,5,21,22,23]],false,false⟩),
 (108,⟨[],[],false,false⟩),
 (109,⟨[],[[2,4,10,11,12]],false,false⟩),
 (110,⟨[],[],false,false⟩),
 (111,⟨[(1,3,8)],[],false,false⟩),
 (112,⟨[],[],true,false⟩),
 (113,⟨[],[],false,false⟩),
 (114,⟨[],[],false,false⟩),
 (115,⟨[],[],false,false⟩),
 (116,⟨[(2,2,8)],[],false,false⟩),
 (117,⟨[],[[2,3,18,19,20]],false,false⟩),
 (118,⟨[],[],true,false⟩),
 (119,⟨[],[],false,false⟩),
 (120,⟨[],[[0,1,4],[0,1,2,3,4,9]],false,false⟩),
 (121,⟨[(0,0,2),(3,0,2),(4,0,102),(9,0,2),(14,0,2),(13,6,9)],[[0,5,7,23,24]],false,false⟩),
 (122,⟨[(7,3,9)],[[2,4,10,11,12]],false,false⟩),
 (123,⟨[],[],false,false⟩),
 (124,⟨[],[],false,false⟩),
 (125,⟨[],[],false,false⟩),
 (126,⟨[],[],false,false⟩),
 (127,⟨[(1,2,9)],[],false,false⟩),
 (128,⟨[],[],true,false⟩),
 (129,⟨[],[],false,false⟩),
 (130,⟨[],[],false,false⟩),
 (131,⟨[],[],false,false⟩),
 (132,⟨[],[[1,3,4]],false,false⟩),
 (133,⟨[],[],false,false⟩),
 (134,⟨[],[],false,false⟩),
 (135,⟨[(4,4,9)],[],false,false⟩),
 (136,⟨[],[[0,3,9,10]],false,false⟩),
 (137,⟨[(1,2,8)],[],false,false⟩),
 (138,⟨[(6,1,8),(7,1,8),(9,2,8),(10,1,8),(11,1,8),(12,1,8)],[],false,false⟩),
 (139,⟨[(2,2,8)],[],false,false⟩),
 (140,⟨[(3,3,0),(4,2,8),(3,2,8)],[],false,false⟩),
 (141,⟨[(0,0,2),(2,0,2),(4,0,2)],[],false,false⟩),
 (142,⟨[],[[3,7,8,9]],false,false⟩),
 (143,⟨[],[[0,1,5,6]],false,false⟩),
 (144,⟨[(0,0,2),(2,0,2)],[],false,false⟩),
 (145,⟨[],[],false,false⟩),
 (146,⟨[],[],false,false⟩),
 (147,⟨[(5,1,8),(0,0,2),(2,0,2)],[],false,false⟩),
 (148,⟨[(1,1,8),(5,3,8),(0,0,2)],[[5,10,11,12]],false,false⟩),
 (149,⟨[(5,5,8),(0,0,2),(2,0,2),(4,0,2),(5,6,2)],[],false,false⟩),
 (150,⟨[],[],false,false⟩),
 (151,⟨[],[],true,true⟩),
 (152,⟨[],[],false,false⟩),
 (153,⟨[(1,2,8)],[],false,false⟩),
 (154,⟨[],[],false,false⟩),
 (155,⟨[],[[0,1,7,8]],false,false⟩),
 (156,⟨[],[[0,5,6,7]],false,false⟩),
 (157,⟨[],[[2,4,10,11,12]],false,false⟩),
 (158,⟨[],[],false,false⟩),
 (159,⟨[],[],false,false⟩),
 (160,⟨[],[],false,false⟩),
 (161,⟨[],[[0,2,3]],false,false⟩),
 (162,⟨[],[],false,false⟩),
 (163,⟨[],[],false,false⟩),
 (164,⟨[],[],false,false⟩),
 (165,⟨[],[[1,4,19,20,21]],false,false⟩),
 (166,⟨[(1,2,8)],[],false,false⟩),
 (167,⟨[],[],false,false⟩),
 (168,⟨[(1,2,8)],[],false,false⟩),
 (169,⟨[],[],false,false⟩),
 (170,⟨[(1,3,8)],[],false,false⟩),
 (171,⟨[],[],true,true⟩),
 (172,⟨[(1,2,8)],[],false,false⟩),
 (173,⟨[],[],false,false⟩),
 (174,⟨[],[],false,false⟩),
 (175,⟨[],[],true,true⟩),
 (176,⟨[(3,3,8),(6,4,8),(12,4,8),(0,0,2)],[],true,false⟩),
 (178,⟨[],[],false,false⟩),
 (179,⟨[(3,4,8),(0,0,2),(2,0,2),(3,5,2)],[],false,false⟩),
 (180,⟨[],[],true,true⟩),
 (181,⟨[],[[1,3,27,28,29]],false,false⟩),
 (182,⟨[],[],false,false⟩),
 (183,⟨[],[],false,false⟩),
 (184,⟨[(8,2,8),(7,4,8),(12,4,8),(0,0,2),(2,0,2),(4,0,2),(12,5,2)],[],false,false⟩),
 (185,⟨[],[[0,1,2,8,9,10]],false,false⟩),
 (186,⟨[],[],false,false⟩),
 (187,⟨[(11,2,20)],[[0,1]],false,false⟩),
 (188,⟨[(11,3,9)],[],false,false⟩),
 (189,⟨[],[],false,false⟩),
 (190,⟨[(1,2,8)],[],false,false⟩),
 (191,⟨[],[],true,true⟩),
 (192,⟨[],[],true,true⟩),
 (193,⟨[],[],false,false⟩),
 (194,⟨[],[[0,8,9]],false,false⟩),
 (195,⟨[],[],false,false⟩),
 (196,⟨[],[[0,1,2,8,9,10]],false,false⟩),
 (197,⟨[],[],false,false⟩),
 (199,⟨[],[],false,false⟩),
 (200,⟨[],[[0,2,3]],false,false⟩),
 (201,⟨[],[],false,false⟩),
 (202,⟨[],[[0,2,3]],false,false⟩)]
noncomputable abbrev kS (f:Nat):Option AF:=compS Tryz.prog f (rE Gw f)
noncomputable abbrev nL (f k:Nat) (xs:List AC):AC:=UC Tryz.prog f (rE Gw f) k xs
noncomputable abbrev nF (f:Nat) (xs:List AC):AF:=TF Tryz.prog f (rE Gw f) xs
def OI:AC:=nf (c:=nL 3 1 [])
def Rd:AC:=(nf (c:=fun y=>nL 3 0 [.skip,y])) OI
def a3:AF:=(nf (c:=fun x y=>nF 3 [x,y])) Rd OI
theorem s3:kS 3=some a3:=by kernel_rfl
def Pf:AC:=nf (c:=nL 4 1 [])
def Rs:AC:=(nf (c:=fun y=>nL 4 0 [.skip,y])) Pf
def a4:AF:=(nf (c:=fun x y=>nF 4 [x,y])) Rs Pf
theorem s4:kS 4=some a4:=by kernel_rfl
def Kq:AC:=nf (c:=nL 5 1 [])
def E6:AC:=(nf (c:=fun y=>nL 5 0 [.skip,y])) Kq
def a5:AF:=(nf (c:=fun x y=>nF 5 [x,y])) E6 Kq
theorem s5:kS 5=some a5:=by kernel_rfl
def Dz:AC:=nf (c:=nL 6 1 [])
def Jl:AC:=(nf (c:=fun y=>nL 6 0 [.skip,y])) Dz
def a6:AF:=(nf (c:=fun x y=>nF 6 [x,y])) Jl Dz
theorem s6:kS 6=some a6:=by kernel_rfl
def a7:AF:=nf (c:=nF 7 [])
theorem s7:kS 7=some a7:=by kernel_rfl
def a8:AF:=nf (c:=nF 8 [])
theorem s8:kS 8=some a8:=by kernel_rfl
def MS:AC:=nf (c:=nL 9 0 [])
def a9:AF:=(nf (c:=fun x=>nF 9 [x])) MS
theorem s9:kS 9=some a9:=by kernel_rfl
def O3:AC:=nf (c:=nL 10 0 [])
def S9:AF:=(nf (c:=fun x=>nF 10 [x])) O3
theorem UA:kS 10=some S9:=by kernel_rfl
def S4:AF:=nf (c:=nF 11 [])
theorem UF:kS 11=some S4:=by kernel_rfl
def IG:AF:=nf (c:=nF 12 [])
theorem QK:kS 12=some IG:=by kernel_rfl
def RK:AF:=nf (c:=nF 13 [])
theorem Ur:kS 13=some RK:=by kernel_rfl
def Fk:AC:=nf (c:=nL 14 0 [])
def Sw:AF:=(nf (c:=fun x=>nF 14 [x])) Fk
theorem TH:kS 14=some Sw:=by kernel_rfl
def SB:AF:=nf (c:=nF 17 [])
theorem UI:kS 17=some SB:=by kernel_rfl
def y8:AC:=nf (c:=nL 18 1 [])
def He:AC:=(nf (c:=fun y=>nL 18 0 [.skip,y])) y8
def Qm:AF:=(nf (c:=fun x y=>nF 18 [x,y])) He y8
theorem UH:kS 18=some Qm:=by kernel_rfl
def Iq:AC:=nf (c:=nL 19 0 [])
def SH:AF:=(nf (c:=fun x=>nF 19 [x])) Iq
theorem TJ:kS 19=some SH:=by kernel_rfl
def Hv:AC:=nf (c:=nL 20 0 [])
def QT:AF:=(nf (c:=fun x=>nF 20 [x])) Hv
theorem TX:kS 20=some QT:=by kernel_rfl
def H7:AC:=nf (c:=nL 21 0 [])
def R8:AF:=(nf (c:=fun x=>nF 21 [x])) H7
theorem TV:kS 21=some R8:=by kernel_rfl
def Tg:AF:=nf (c:=nF 22 [])
theorem Tz:kS 22=some Tg:=by kernel_rfl
def Cd:AC:=nf (c:=nL 23 0 [])
def RO:AF:=(nf (c:=fun x=>nF 23 [x])) Cd
theorem TA:kS 23=some RO:=by kernel_rfl
def GF:AC:=nf (c:=nL 24 0 [])
def a24:AF:=(nf (c:=fun x=>nF 24 [x])) GF
theorem TN:kS 24=some a24:=by kernel_rfl
def Cv:AC:=nf (c:=nL 25 0 [])
def QD:AF:=(nf (c:=fun x=>nF 25 [x])) Cv
theorem T6:kS 25=some QD:=by kernel_rfl
def R4:AF:=nf (c:=nF 26 [])
theorem TU:kS 26=some R4:=by kernel_rfl
def SP:AF:=nf (c:=nF 27 [])
theorem T8:kS 27=some SP:=by kernel_rfl
def S7:AF:=nf (c:=nF 29 [])
theorem Uv:kS 29=some S7:=by kernel_rfl
def SU:AF:=nf (c:=nF 30 [])
theorem T1:kS 30=some SU:=by kernel_rfl
def Tl:AF:=nf (c:=nF 32 [])
theorem UJ:kS 32=some Tl:=by kernel_rfl
def Lq:AC:=nf (c:=nL 33 1 [])
def Ll:AC:=(nf (c:=fun y=>nL 33 0 [.skip,y])) Lq
def R1:AF:=(nf (c:=fun x y=>nF 33 [x,y])) Ll Lq
theorem Tu:kS 33=some R1:=by kernel_rfl
def Q6:AF:=nf (c:=nF 35 [])
theorem TQ:kS 35=some Q6:=by kernel_rfl
def Ry:AF:=nf (c:=nF 36 [])
theorem Ta:kS 36=some Ry:=by kernel_rfl
def Qo:AF:=nf (c:=nF 37 [])
theorem Sa:kS 37=some Qo:=by kernel_rfl
def rN:AF:=nf (c:=nF 38 [])
theorem To:kS 38=some rN:=by kernel_rfl
def FA:AC:=nf (c:=nL 39 0 [])
def RN:AF:=(nf (c:=fun x=>nF 39 [x])) FA
theorem TI:kS 39=some RN:=by kernel_rfl
def SK:AF:=nf (c:=nF 40 [])
theorem Ua:kS 40=some SK:=by kernel_rfl
def Tf:AF:=nf (c:=nF 41 [])
theorem TM:kS 41=some Tf:=by kernel_rfl
def qS:AC:=nf (c:=nL 42 0 [])
def MK:AF:=(nf (c:=fun x=>nF 42 [x])) qS
theorem T7:kS 42=some MK:=by kernel_rfl
def QG:AF:=nf (c:=nF 43 [])
theorem TY:kS 43=some QG:=by kernel_rfl
def jM:AC:=nf (c:=nL 44 1 [])
def u6:AC:=(nf (c:=fun y=>nL 44 0 [.skip,y])) jM
def Fx:AF:=(nf (c:=fun x y=>nF 44 [x,y])) u6 jM
theorem TZ:kS 44=some Fx:=by kernel_rfl
def Hs:AC:=nf (c:=nL 45 0 [])
def SF:AF:=(nf (c:=fun x=>nF 45 [x])) Hs
theorem T5:kS 45=some SF:=by kernel_rfl
def FW:AC:=nf (c:=nL 46 0 [])
def Sb:AF:=(nf (c:=fun x=>nF 46 [x])) FW
theorem T3:kS 46=some Sb:=by kernel_rfl
def Cz:AC:=nf (c:=nL 47 0 [])
def SS:AF:=(nf (c:=fun x=>nF 47 [x])) Cz
theorem T9:kS 47=some SS:=by kernel_rfl
def Qs:AF:=nf (c:=nF 48 [])
theorem UM:kS 48=some Qs:=by kernel_rfl
def JY:AF:=nf (c:=nF 49 [])
theorem Un:kS 49=some JY:=by kernel_rfl
def qY:AC:=nf (c:=nL 50 0 [])
def QW:AF:=(nf (c:=fun x=>nF 50 [x])) qY
theorem Ui:kS 50=some QW:=by kernel_rfl
def Ii:AC:=nf (c:=nL 51 0 [])
def RD:AF:=(nf (c:=fun x=>nF 51 [x])) Ii
theorem Tj:kS 51=some RD:=by kernel_rfl
def FK:AC:=nf (c:=nL 52 0 [])
def S8:AF:=(nf (c:=fun x=>nF 52 [x])) FK
theorem Ux:kS 52=some S8:=by kernel_rfl
def yQ:AC:=nf (c:=nL 53 1 [])
def GN:AC:=(nf (c:=fun y=>nL 53 0 [.skip,y])) yQ
def SY:AF:=(nf (c:=fun x y=>nF 53 [x,y])) GN yQ
theorem Ut:kS 53=some SY:=by kernel_rfl
def ST:AF:=nf (c:=nF 54 [])
theorem Tx:kS 54=some ST:=by kernel_rfl
def Lp:AC:=nf (c:=nL 55 0 [])
def SO:AF:=(nf (c:=fun x=>nF 55 [x])) Lp
theorem Tv:kS 55=some SO:=by kernel_rfl
def QU:AF:=nf (c:=nF 56 [])
theorem Us:kS 56=some QU:=by kernel_rfl
def N2:AF:=nf (c:=nF 57 [])
theorem TW:kS 57=some N2:=by kernel_rfl
def CM:AC:=nf (c:=nL 58 0 [])
def SV:AF:=(nf (c:=fun x=>nF 58 [x])) CM
theorem Uj:kS 58=some SV:=by kernel_rfl
def Ho:AC:=nf (c:=nL 59 0 [])
def Q4:AF:=(nf (c:=fun x=>nF 59 [x])) Ho
theorem T4:kS 59=some Q4:=by kernel_rfl
def Hm:AC:=nf (c:=nL 60 0 [])
def QI:AF:=(nf (c:=fun x=>nF 60 [x])) Hm
theorem TP:kS 60=some QI:=by kernel_rfl
def L6:AF:=nf (c:=nF 61 [])
theorem Uh:kS 61=some L6:=by kernel_rfl
def yJ:AC:=nf (c:=nL 62 0 [])
def RU:AF:=(nf (c:=fun x=>nF 62 [x])) yJ
theorem Um:kS 62=some RU:=by kernel_rfl
def kI:AC:=nf (c:=nL 63 0 [])
def Eb:AF:=(nf (c:=fun x=>nF 63 [x])) kI
theorem Uy:kS 63=some Eb:=by kernel_rfl
def HP:AC:=nf (c:=nL 64 0 [])
def S6:AF:=(nf (c:=fun x=>nF 64 [x])) HP
theorem Tr:kS 64=some S6:=by kernel_rfl
def Cx:AC:=nf (c:=nL 65 0 [])
def Qp:AF:=(nf (c:=fun x=>nF 65 [x])) Cx
theorem Tm:kS 65=some Qp:=by kernel_rfl
def GR:AC:=nf (c:=nL 66 0 [])
def SX:AF:=(nf (c:=fun x=>nF 66 [x])) GR
theorem Ug:kS 66=some SX:=by kernel_rfl
def Sv:AF:=nf (c:=nF 67 [])
theorem Ud:kS 67=some Sv:=by kernel_rfl
def tW:AC:=nf (c:=nL 68 0 [])
def RF:AF:=(nf (c:=fun x=>nF 68 [x])) tW
theorem Ub:kS 68=some RF:=by kernel_rfl
def Iw:AC:=nf (c:=nL 69 0 [])
def Sq:AF:=(nf (c:=fun x=>nF 69 [x])) Iw
theorem Uq:kS 69=some Sq:=by kernel_rfl
def Qj:AF:=nf (c:=nF 70 [])
theorem Uw:kS 70=some Qj:=by kernel_rfl
def Ao:AF:=nf (c:=nF 71 [])
theorem TL:kS 71=some Ao:=by kernel_rfl
def xP:AC:=nf (c:=nL 72 0 [])
def Te:AF:=(nf (c:=fun x=>nF 72 [x])) xP
theorem T2:kS 72=some Te:=by kernel_rfl
def za:AC:=nf (c:=nL 73 0 [])
def Tk:AF:=(nf (c:=fun x=>nF 73 [x])) za
theorem TC:kS 73=some Tk:=by kernel_rfl
def Qv:AF:=nf (c:=nF 74 [])
theorem Up:kS 74=some Qv:=by kernel_rfl
def lL:AC:=nf (c:=nL 75 0 [])
def N1:AF:=(nf (c:=fun x=>nF 75 [x])) lL
theorem UB:kS 75=some N1:=by kernel_rfl
def Th:AF:=nf (c:=nF 76 [])
theorem TE:kS 76=some Th:=by kernel_rfl
def uK:AC:=nf (c:=nL 77 0 [])
def Qh:AF:=(nf (c:=fun x=>nF 77 [x])) uK
theorem Tw:kS 77=some Qh:=by kernel_rfl
def CU:AC:=nf (c:=nL 78 0 [])
def Tb:AF:=(nf (c:=fun x=>nF 78 [x])) CU
theorem Uu:kS 78=some Tb:=by kernel_rfl
def Tp:AF:=nf (c:=nF 79 [])
theorem TO:kS 79=some Tp:=by kernel_rfl
def vm:AC:=nf (c:=nL 80 0 [])
def Ti:AF:=(nf (c:=fun x=>nF 80 [x])) vm
theorem UK:kS 80=some Ti:=by kernel_rfl
def S5:AF:=nf (c:=nF 81 [])
theorem Uz:kS 81=some S5:=by kernel_rfl
def JX:AF:=nf (c:=nF 84 [])
theorem N6:kS 84=some JX:=by kernel_rfl
def QA:AF:=nf (c:=nF 85 [])
theorem TD:kS 85=some QA:=by kernel_rfl
def Co:AC:=nf (c:=nL 86 0 [])
def N0:AF:=(nf (c:=fun x=>nF 86 [x])) Co
theorem SQ:kS 86=some N0:=by kernel_rfl
def HZ:AC:=nf (c:=nL 87 0 [])
def Tq:AF:=(nf (c:=fun x=>nF 87 [x])) HZ
theorem Uc:kS 87=some Tq:=by kernel_rfl
def CL:AC:=nf (c:=nL 88 0 [])
def Lv:AF:=(nf (c:=fun x=>nF 88 [x])) CL
theorem Tn:kS 88=some Lv:=by kernel_rfl
def Ot:AF:=nf (c:=nF 89 [])
theorem Ue:kS 89=some Ot:=by kernel_rfl
def SW:AF:=nf (c:=nF 90 [])
theorem Tt:kS 90=some SW:=by kernel_rfl
def R7:AF:=nf (c:=nF 91 [])
theorem TS:kS 91=some R7:=by kernel_rfl
def Qk:AF:=nf (c:=nF 92 [])
theorem Uf:kS 92=some Qk:=by kernel_rfl
def Ol:AF:=nf (c:=nF 93 [])
theorem TR:kS 93=some Ol:=by kernel_rfl
def Qi:AF:=nf (c:=nF 94 [])
theorem UD:kS 94=some Qi:=by kernel_rfl
def Pd:AF:=nf (c:=nF 95 [])
theorem UG:kS 95=some Pd:=by kernel_rfl
def Oc:AF:=nf (c:=nF 96 [])
theorem Uk:kS 96=some Oc:=by kernel_rfl
def RJ:AF:=nf (c:=nF 99 [])
theorem TT:kS 99=some RJ:=by kernel_rfl
def PF:AF:=nf (c:=nF 100 [])
theorem Sd:kS 100=some PF:=by kernel_rfl
def E1:AF:=nf (c:=nF 101 [])
theorem Q9:kS 101=some E1:=by kernel_rfl
def P1:AF:=nf (c:=nF 102 [])
theorem Rn:kS 102=some P1:=by kernel_rfl
def P4:AF:=nf (c:=nF 103 [])
theorem RX:kS 103=some P4:=by kernel_rfl
def Ob:AF:=nf (c:=nF 104 [])
theorem RT:kS 104=some Ob:=by kernel_rfl
def tO:AC:=nf (c:=nL 105 0 [])
def IT:AF:=(nf (c:=fun x=>nF 105 [x])) tO
theorem RP:kS 105=some IT:=by kernel_rfl
def BC:AC:=nf (c:=nL 106 0 [])
def Nc:AF:=(nf (c:=fun x=>nF 106 [x])) BC
theorem SM:kS 106=some Nc:=by kernel_rfl
def wC:AC:=nf (c:=nL 107 0 [])
def Ju:AF:=(nf (c:=fun x=>nF 107 [x])) wC
theorem Rg:kS 107=some Ju:=by kernel_rfl
def Qe:AF:=nf (c:=nF 108 [])
theorem Qz:kS 108=some Qe:=by kernel_rfl
def gM:AC:=nf (c:=nL 109 0 [])
def Gp:AF:=(nf (c:=fun x=>nF 109 [x])) gM
theorem PE:kS 109=some Gp:=by kernel_rfl
def OM:AF:=nf (c:=nF 110 [])
theorem Rz:kS 110=some OM:=by kernel_rfl
def On:AF:=nf (c:=nF 111 [])
theorem RG:kS 111=some On:=by kernel_rfl
def MW:AF:=nf (c:=nF 112 [])
theorem OU:kS 112=some MW:=by kernel_rfl
def Py:AF:=nf (c:=nF 113 [])
theorem R5:kS 113=some Py:=by kernel_rfl
def PD:AF:=nf (c:=nF 114 [])
theorem Si:kS 114=some PD:=by kernel_rfl
def PO:AF:=nf (c:=nF 115 [])
theorem Ru:kS 115=some PO:=by kernel_rfl
def PJ:AF:=nf (c:=nF 116 [])
theorem Sj:kS 116=some PJ:=by kernel_rfl
def AT:AC:=nf (c:=nL 117 0 [])
def P7:AF:=(nf (c:=fun x=>nF 117 [x])) AT
theorem SL:kS 117=some P7:=by kernel_rfl
def Qd:AF:=nf (c:=nF 118 [])
theorem R0:kS 118=some Qd:=by kernel_rfl
def MR:AF:=nf (c:=nF 119 [])
theorem Rp:kS 119=some MR:=by kernel_rfl
def vM:AC:=nf (c:=nL 120 1 [])
def AO:AC:=(nf (c:=fun y=>nL 120 0 [.skip,y])) vM
def O8:AF:=(nf (c:=fun x y=>nF 120 [x,y])) AO vM
theorem QF:kS 120=some O8:=by kernel_rfl
def nW:AC:=nf (c:=nL 121 0 [])
def Bf:AF:=(nf (c:=fun x=>nF 121 [x])) nW
theorem QY:kS 121=some Bf:=by kernel_rfl
def dy:AC:=nf (c:=nL 122 0 [])
def Gr:AF:=(nf (c:=fun x=>nF 122 [x])) dy
theorem PX:kS 122=some Gr:=by kernel_rfl
def Pk:AF:=nf (c:=nF 123 [])
theorem QP:kS 123=some Pk:=by kernel_rfl
def OF:AF:=nf (c:=nF 124 [])
theorem Re:kS 124=some OF:=by kernel_rfl
def P6:AF:=nf (c:=nF 125 [])
theorem Sy:kS 125=some P6:=by kernel_rfl
def Qa:AF:=nf (c:=nF 126 [])
theorem QL:kS 126=some Qa:=by kernel_rfl
def Pu:AF:=nf (c:=nF 127 [])
theorem Q5:kS 127=some Pu:=by kernel_rfl
def PG:AF:=nf (c:=nF 128 [])
theorem RB:kS 128=some PG:=by kernel_rfl
def LY:AF:=nf (c:=nF 129 [])
theorem RA:kS 129=some LY:=by kernel_rfl
def NT:AF:=nf (c:=nF 130 [])
theorem QN:kS 130=some NT:=by kernel_rfl
def ME:AF:=nf (c:=nF 131 [])
theorem R3:kS 131=some ME:=by kernel_rfl
def AN:AC:=nf (c:=nL 132 0 [])
def O5:AF:=(nf (c:=fun x=>nF 132 [x])) AN
theorem Rj:kS 132=some O5:=by kernel_rfl
def JE:AF:=nf (c:=nF 133 [])
theorem Rk:kS 133=some JE:=by kernel_rfl
def L5:AF:=nf (c:=nF 135 [])
theorem R9:kS 135=some L5:=by kernel_rfl
def Bp:AC:=nf (c:=nL 136 0 [])
def N5:AF:=(nf (c:=fun x=>nF 136 [x])) Bp
theorem Q0:kS 136=some N5:=by kernel_rfl
def OG:AF:=nf (c:=nF 137 [])
theorem RY:kS 137=some OG:=by kernel_rfl
def vJ:AF:=nf (c:=nF 138 [])
theorem Rq:kS 138=some vJ:=by kernel_rfl
def KW:AF:=nf (c:=nF 139 [])
theorem RE:kS 139=some KW:=by kernel_rfl
def nh:AF:=nf (c:=nF 140 [])
theorem MO:kS 140=some nh:=by kernel_rfl
def Fv:AF:=nf (c:=nF 141 [])
theorem Ns:kS 141=some Fv:=by kernel_rfl
def BD:AC:=nf (c:=nL 142 0 [])
def Pi:AF:=(nf (c:=fun x=>nF 142 [x])) BD
theorem Q8:kS 142=some Pi:=by kernel_rfl
def BG:AC:=nf (c:=nL 143 0 [])
def PH:AF:=(nf (c:=fun x=>nF 143 [x])) BG
theorem SE:kS 143=some PH:=by kernel_rfl
def Mr:AF:=nf (c:=nF 144 [])
theorem PC:kS 144=some Mr:=by kernel_rfl
def M8:AF:=nf (c:=nF 145 [])
theorem Se:kS 145=some M8:=by kernel_rfl
def IN:AF:=nf (c:=nF 146 [])
theorem QX:kS 146=some IN:=by kernel_rfl
def M0:AF:=nf (c:=nF 147 [])
theorem QQ:kS 147=some M0:=by kernel_rfl
def sd:AC:=nf (c:=nL 148 0 [])
def Mf:AF:=(nf (c:=fun x=>nF 148 [x])) sd
theorem SJ:kS 148=some Mf:=by kernel_rfl
def J8:AF:=nf (c:=nF 149 [])
theorem Mm:kS 149=some J8:=by kernel_rfl
def JI:AF:=nf (c:=nF 150 [])
theorem Rb:kS 150=some JI:=by kernel_rfl
def A2:AF:=nf (c:=nF 152 [])
theorem PK:kS 152=some A2:=by kernel_rfl
def OC:AF:=nf (c:=nF 153 [])
theorem Sl:kS 153=some OC:=by kernel_rfl
def PW:AF:=nf (c:=nF 154 [])
theorem QM:kS 154=some PW:=by kernel_rfl
def lS:AC:=nf (c:=nL 155 0 [])
def PQ:AF:=(nf (c:=fun x=>nF 155 [x])) lS
theorem Rw:kS 155=some PQ:=by kernel_rfl
def nD:AC:=nf (c:=nL 156 0 [])
def LL:AF:=(nf (c:=fun x=>nF 156 [x])) nD
theorem Sk:kS 156=some LL:=by kernel_rfl
def w6:AC:=nf (c:=nL 157 0 [])
def LI:AF:=(nf (c:=fun x=>nF 157 [x])) w6
theorem QR:kS 157=some LI:=by kernel_rfl
def Om:AF:=nf (c:=nF 158 [])
theorem Sm:kS 158=some Om:=by kernel_rfl
def MB:AF:=nf (c:=nF 159 [])
theorem Ro:kS 159=some MB:=by kernel_rfl
def wb:AF:=nf (c:=nF 160 [])
theorem Q3:kS 160=some wb:=by kernel_rfl
def OO:AF:=nf (c:=nF 162 [])
theorem Rr:kS 162=some OO:=by kernel_rfl
def Gj:AF:=nf (c:=nF 163 [])
theorem PV:kS 163=some Gj:=by kernel_rfl
def OZ:AF:=nf (c:=nF 164 [])
theorem So:kS 164=some OZ:=by kernel_rfl
def Ad:AC:=nf (c:=nL 165 0 [])
def Mo:AF:=(nf (c:=fun x=>nF 165 [x])) Ad
theorem O1:kS 165=some Mo:=by kernel_rfl
def N9:AF:=nf (c:=nF 166 [])
theorem Sr:kS 166=some N9:=by kernel_rfl
def PT:AF:=nf (c:=nF 167 [])
theorem SI:kS 167=some PT:=by kernel_rfl
def ON:AF:=nf (c:=nF 168 [])
theorem Rt:kS 168=some ON:=by kernel_rfl
def O4:AF:=nf (c:=nF 169 [])
theorem RS:kS 169=some O4:=by kernel_rfl
def Po:AF:=nf (c:=nF 170 [])
theorem QC:kS 170=some Po:=by kernel_rfl
def LK:AF:=nf (c:=nF 172 [])
theorem Pe:kS 172=some LK:=by kernel_rfl
def K7:AF:=nf (c:=nF 173 [])
theorem Sn:kS 173=some K7:=by kernel_rfl
def OV:AF:=nf (c:=nF 174 [])
theorem QJ:kS 174=some OV:=by kernel_rfl
def DM:AF:=nf (c:=nF 176 [])
theorem Ih:kS 176=some DM:=by kernel_rfl
def M1:AF:=nf (c:=nF 179 [])
theorem PU:kS 179=some M1:=by kernel_rfl
def jY:AC:=nf (c:=nL 181 0 [])
def Db:AF:=(nf (c:=fun x=>nF 181 [x])) jY
theorem QO:kS 181=some Db:=by kernel_rfl
def P3:AF:=nf (c:=nF 182 [])
theorem Ra:kS 182=some P3:=by kernel_rfl
def Qc:AF:=nf (c:=nF 183 [])
theorem RC:kS 183=some Qc:=by kernel_rfl
def G8:AF:=nf (c:=nF 184 [])
theorem L7:kS 184=some G8:=by kernel_rfl
def i7:AC:=nf (c:=nL 185 0 [])
def LH:AF:=(nf (c:=fun x=>nF 185 [x])) i7
theorem Qf:kS 185=some LH:=by kernel_rfl
def I4:AF:=nf (c:=nF 186 [])
theorem Rl:kS 186=some I4:=by kernel_rfl
def jc:AC:=nf (c:=nL 187 0 [])
def NP:AF:=(nf (c:=fun x=>nF 187 [x])) jc
theorem Sc:kS 187=some NP:=by kernel_rfl
def xG:AF:=nf (c:=nF 188 [])
theorem Sh:kS 188=some xG:=by kernel_rfl
def Fq:AF:=nf (c:=nF 189 [])
theorem Q7:kS 189=some Fq:=by kernel_rfl
def OK:AF:=nf (c:=nF 190 [])
theorem RI:kS 190=some OK:=by kernel_rfl
def xo:AC:=nf (c:=nL 194 0 [])
def MI:AF:=(nf (c:=fun x=>nF 194 [x])) xo
theorem Ss:kS 194=some MI:=by kernel_rfl
def Fi:AF:=nf (c:=nF 195 [])
theorem Sz:kS 195=some Fi:=by kernel_rfl
def pR:AC:=nf (c:=nL 196 0 [])
def PP:AF:=(nf (c:=fun x=>nF 196 [x])) pR
theorem R6:kS 196=some PP:=by kernel_rfl
def Pc:AF:=nf (c:=nF 197 [])
theorem Rf:kS 197=some Pc:=by kernel_rfl
end
def lib:Lib:=⟨[(83,1,24),(171,3,40),(175,2,24)],[(82,1,24),(151,3,40),(192,2,24)],[(180,3),(191,2)]⟩
noncomputable abbrev call:cm:=dJ (de Tryz.prog (rE Gw)) (lJ lib)
theorem TG (rows:List (List D)) (h1:aQ 1 rows=true) (h2:rows.length*24<=140737488355328) (h3:rows.length<=9223372036854775807) (H:Hp):ak call 83 [.one (.d (.l rows))] H=some (.one (.sl (H.length+1) 1 0 rows.length),H++[.dead,.arr 1 rows 0]):=lU rfl rfl rfl rfl rows h1 h2 h3 H
theorem LO (rows:List (List D)) (h1:aQ 3 rows=true) (h2:rows.length*40<=140737488355328) (h3:rows.length<=9223372036854775807) (H:Hp):ak call 171 [.one (.d (.l rows))] H=some (.one (.sl (H.length+1) 3 0 rows.length),H++[.dead,.arr 3 rows 0]):=lU rfl rfl rfl rfl rows h1 h2 h3 H
theorem QS (rows:List (List D)) (h1:aQ 2 rows=true) (h2:rows.length*24<=140737488355328) (h3:rows.length<=9223372036854775807) (H:Hp):ak call 175 [.one (.d (.l rows))] H=some (.one (.sl (H.length+1) 2 0 rows.length),H++[.dead,.arr 2 rows 0]):=lU rfl rfl rfl rfl rows h1 h2 h3 H
end Go.Proofs.YtgoifbjgmgbihaaGreat
